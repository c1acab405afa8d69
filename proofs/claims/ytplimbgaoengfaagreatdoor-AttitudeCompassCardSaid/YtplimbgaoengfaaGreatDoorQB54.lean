/- Part 54 of the proof: N9w. -/
import Derived.Test.YtplimbgaoengfaaGreatDoorQB1
import Derived.Test.YtplimbgaoengfaaGreatDoorQB2
import Derived.Test.YtplimbgaoengfaaGreatDoorQB3
import Derived.Test.YtplimbgaoengfaaGreatDoorQB4
import Derived.Test.YtplimbgaoengfaaGreatDoorQB5
import Derived.Test.YtplimbgaoengfaaGreatDoorQB6
import Derived.Test.YtplimbgaoengfaaGreatDoorQB7
import Derived.Test.YtplimbgaoengfaaGreatDoorQB8
import Derived.Test.YtplimbgaoengfaaGreatDoorQB9
import Derived.Test.YtplimbgaoengfaaGreatDoorQB10
import Derived.Test.YtplimbgaoengfaaGreatDoorQB11
import Derived.Test.YtplimbgaoengfaaGreatDoorQB12
import Derived.Test.YtplimbgaoengfaaGreatDoorQB13
import Derived.Test.YtplimbgaoengfaaGreatDoorQB14
import Derived.Test.YtplimbgaoengfaaGreatDoorQB15
import Derived.Test.YtplimbgaoengfaaGreatDoorQB16
import Derived.Test.YtplimbgaoengfaaGreatDoorQB17
import Derived.Test.YtplimbgaoengfaaGreatDoorQB18
import Derived.Test.YtplimbgaoengfaaGreatDoorQB19
import Derived.Test.YtplimbgaoengfaaGreatDoorQB20
import Derived.Test.YtplimbgaoengfaaGreatDoorQB21
import Derived.Test.YtplimbgaoengfaaGreatDoorQB22
import Derived.Test.YtplimbgaoengfaaGreatDoorQB23
import Derived.Test.YtplimbgaoengfaaGreatDoorQB24
import Derived.Test.YtplimbgaoengfaaGreatDoorQB25
import Derived.Test.YtplimbgaoengfaaGreatDoorQB26
import Derived.Test.YtplimbgaoengfaaGreatDoorQB27
import Derived.Test.YtplimbgaoengfaaGreatDoorQB28
import Derived.Test.YtplimbgaoengfaaGreatDoorQB29
import Derived.Test.YtplimbgaoengfaaGreatDoorQB31
import Derived.Test.YtplimbgaoengfaaGreatDoorQB44
import Derived.Test.YtplimbgaoengfaaGreatDoorQB50
import Derived.Test.YtplimbgaoengfaaGreatDoorQB51
import Derived.Test.YtplimbgaoengfaaGreatDoorQB52
import Derived.Test.YtplimbgaoengfaaGreatDoorQB53
namespace Go.Proofs.YtplimbgaoengfaaGreatDoor
open Go Go.RowKit
set_option maxRecDepth 100000 in
set_option maxHeartbeats 8000000 in
theorem compass15_L (n : T2) (w : World) (g : Gd w) (hsz : [n.x, n.y].all sz24 = false) : Calls Tryz.prog 3 #[.agg #[.string n.x, .string n.y]] w (Ret w (.bool true)) := by
  have HG := Lib.hid g
  clear g
  have HSZ := Lib.hid hsz
  clear hsz
  go_enter Tryz.func3, Tryz.ntmps3
  go_wp2_with fail
  refine (known15_c _ (HG.out.ext ((Ext.refl w).alloc _))).mono ?_; rintro e w1 ⟨rfl, e1⟩
  have HX1 : Hid (Ext w w1) := Lib.hid (((Ext.refl w).alloc _).trans e1)
  have HB0_1 : Hid (Blk w1 (w.heap.size) #[.string n.x, .string n.y] 24) := Lib.hid (Blk.ext (Blk.new' (w := _) (cs := #[.string n.x, .string n.y]) (t := 24) (by first | rfl | (simp only [World.size_alloc]; done) | (simp only [World.size_alloc]; omega) | simp)) e1)
  have HGEB0 : Hid (w.heap.size ≤ w.heap.size) := Lib.hid (by first | omega | (simp only []; omega) | (simp; omega))
  clear e1
  have c0_0 := HB0_1.out.cell 0 rfl
  have c0_1 := HB0_1.out.cell 1 rfl
  go_wp2_with fail
  refine (short15_b [n.x, n.y] 2 (w1.heap.size) false _ rfl (by decide) HSZ.out (Blk.new' (w := _) (cs := #[.string n.x, .string n.y]) (t := 22) (by first | rfl | (simp only [World.size_alloc]; done) | (simp only [World.size_alloc]; omega) | simp))).mono ?_; rintro e w2 ⟨rfl, e2⟩
  have HX2 : Hid (Ext w w2) := Lib.hid ((HX1.out.alloc _).trans e2)
  have HB1_2 : Hid (Blk w2 (w1.heap.size) #[.string n.x, .string n.y] 22) := Lib.hid (Blk.ext (Blk.new' (w := _) (cs := #[.string n.x, .string n.y]) (t := 22) (by first | rfl | (simp only [World.size_alloc]; done) | (simp only [World.size_alloc]; omega) | simp)) e2)
  have HGEB1 : Hid (w.heap.size ≤ w1.heap.size) := Lib.hid (by have := HX1.out.size; first | omega | (simp only []; omega) | (simp; omega))
  clear e2 c0_0 c0_1
  go_wp2_with fail
  refine (known15_c _ (HG.out.ext HX2.out)).mono ?_; rintro e w3 ⟨rfl, e3⟩
  have HX3 : Hid (Ext w w3) := Lib.hid (HX2.out.trans e3)
  clear e3
  go_wp2
  go_ret
  exact ⟨rfl, HX3.out⟩

set_option maxRecDepth 100000 in
set_option maxHeartbeats 8000000 in
theorem compass15_E (n : T2) (w : World) (g : Gd w) (hsz : [n.x, n.y].all sz24 = true) (hr : n.l.all rq = false) : Calls Tryz.prog 3 #[.agg #[.string n.x, .string n.y]] w (Ret w (.bool true)) := by
  have HR := Lib.hid hr
  have HG := Lib.hid g
  clear hr g
  have HSZ := Lib.hid hsz
  simp only [List.all_cons, List.all_nil, Bool.and_true, Bool.and_eq_true, sz24_true] at hsz
  obtain ⟨s0, s1⟩ := hsz
  have HN : Hid (TS2 n) := Lib.hid ⟨(Nat.le_trans s0 (by decide)), (Nat.le_trans s1 (by decide))⟩
  clear s0 s1
  go_enter Tryz.func3, Tryz.ntmps3
  go_wp2_with fail
  refine (known15_c _ (HG.out.ext ((Ext.refl w).alloc _))).mono ?_; rintro e w1 ⟨rfl, e1⟩
  have HX1 : Hid (Ext w w1) := Lib.hid (((Ext.refl w).alloc _).trans e1)
  have HB0_1 : Hid (Blk w1 (w.heap.size) #[.string n.x, .string n.y] 24) := Lib.hid (Blk.ext (Blk.new' (w := _) (cs := #[.string n.x, .string n.y]) (t := 24) (by first | rfl | (simp only [World.size_alloc]; done) | (simp only [World.size_alloc]; omega) | simp)) e1)
  have HGEB0 : Hid (w.heap.size ≤ w.heap.size) := Lib.hid (by first | omega | (simp only []; omega) | (simp; omega))
  clear e1
  have c0_0 := HB0_1.out.cell 0 rfl
  have c0_1 := HB0_1.out.cell 1 rfl
  go_wp2_with fail
  refine (short15_b [n.x, n.y] 2 (w1.heap.size) true _ rfl (by decide) HSZ.out (Blk.new' (w := _) (cs := #[.string n.x, .string n.y]) (t := 22) (by first | rfl | (simp only [World.size_alloc]; done) | (simp only [World.size_alloc]; omega) | simp))).mono ?_; rintro e w2 ⟨rfl, e2⟩
  have HX2 : Hid (Ext w w2) := Lib.hid ((HX1.out.alloc _).trans e2)
  have HB0_2 : Hid (Blk w2 (w.heap.size) #[.string n.x, .string n.y] 24) := Lib.hid (Blk.ext (HB0_1.out.alloc _) e2)
  have HB1_2 : Hid (Blk w2 (w1.heap.size) #[.string n.x, .string n.y] 22) := Lib.hid (Blk.ext (Blk.new' (w := _) (cs := #[.string n.x, .string n.y]) (t := 22) (by first | rfl | (simp only [World.size_alloc]; done) | (simp only [World.size_alloc]; omega) | simp)) e2)
  have HGEB1 : Hid (w.heap.size ≤ w1.heap.size) := Lib.hid (by have := HX1.out.size; first | omega | (simp only []; omega) | (simp; omega))
  clear e2 c0_0 c0_1
  have c0_0 := HB0_2.out.cell 0 rfl
  have c0_1 := HB0_2.out.cell 1 rfl
  go_wp2_with fail
  refine (aof_e n _ (HG.out.ext HX2.out) HN.out (terr_2 HR.out)).mono ?_; rintro e w3 ⟨rfl, e3⟩
  have HX3 : Hid (Ext w w3) := Lib.hid (HX2.out.trans e3)
  have HB0_3 := Lib.hid (Blk.ext HB0_2.out e3)
  clear e3 c0_0 c0_1
  go_upto_region 4 with fail
  refine wp_name (fun W => Ext w W ∧ Blk W (w.heap.size) #[.string n.x, .string n.y] 24 ∧ Blk W (w3.heap.size) #[.int .i64 0, .string ⟨#[]⟩] 28) ⟨(HX3.out.alloc _), (HB0_3.out.alloc _), (Blk.new' (w := _) (cs := #[.int .i64 0, .string ⟨#[]⟩]) (t := 28) (by first | rfl | (simp only [World.size_alloc]; done) | (simp only [World.size_alloc]; omega) | simp))⟩ ?_
  rintro w4 ⟨e4, bB0_4, bB2_4⟩
  have HX4 := Lib.hid e4; have HB0_4 := Lib.hid bB0_4; have HB2_4 := Lib.hid bB2_4
  have HGEB2 : Hid (w.heap.size ≤ w3.heap.size) := Lib.hid (by have := HX3.out.size; first | omega | (simp only []; omega) | (simp; omega))
  clear e4 bB0_4 bB2_4
  have c0_0 := HB0_4.out.cell 0 rfl
  have c0_1 := HB0_4.out.cell 1 rfl
  go_wp2_with fail
  refine (ldir_e n _ (HG.out.ext HX4.out) HN.out HR.out).mono ?_; rintro e w5 ⟨rfl, e5⟩
  have HX5 : Hid (Ext w w5) := Lib.hid (HX4.out.trans e5)
  have HB2_5 := Lib.hid (Blk.ext HB2_4.out e5)
  clear e5 c0_0 c0_1
  have c2_0 := HB2_5.out.cell 0 rfl
  have c2_1 := HB2_5.out.cell 1 rfl
  go_wp2
  go_ret
  exact ⟨rfl, HX5.out⟩

set_option maxRecDepth 100000 in
set_option maxHeartbeats 8000000 in
theorem compass15_Z (n : P2) (w : World) (g : Gd w) (hsz : [qs n.x, qs n.y].all sz24 = true) (hn : PB 200 n) (hz : n.x = 0 ∧ n.y = 0) : Calls Tryz.prog 3 #[.agg #[.string (qs n.x), .string (qs n.y)]] w (Ret w (.bool true)) := by
  have HN := Lib.hid hn
  have HZ := Lib.hid hz
  have HG := Lib.hid g
  clear hn hz g
  have HSZ := Lib.hid hsz
  simp only [List.all_cons, List.all_nil, Bool.and_true, Bool.and_eq_true, sz24_true] at hsz
  obtain ⟨s0, s1⟩ := hsz
  clear s0 s1
  go_enter Tryz.func3, Tryz.ntmps3
  go_wp2_with fail
  refine (known15_c _ (HG.out.ext ((Ext.refl w).alloc _))).mono ?_; rintro e w1 ⟨rfl, e1⟩
  have HX1 : Hid (Ext w w1) := Lib.hid (((Ext.refl w).alloc _).trans e1)
  have HB0_1 : Hid (Blk w1 (w.heap.size) #[.string (qs n.x), .string (qs n.y)] 24) := Lib.hid (Blk.ext (Blk.new' (w := _) (cs := #[.string (qs n.x), .string (qs n.y)]) (t := 24) (by first | rfl | (simp only [World.size_alloc]; done) | (simp only [World.size_alloc]; omega) | simp)) e1)
  have HGEB0 : Hid (w.heap.size ≤ w.heap.size) := Lib.hid (by first | omega | (simp only []; omega) | (simp; omega))
  clear e1
  have c0_0 := HB0_1.out.cell 0 rfl
  have c0_1 := HB0_1.out.cell 1 rfl
  go_wp2_with fail
  refine (short15_b [qs n.x, qs n.y] 2 (w1.heap.size) true _ rfl (by decide) HSZ.out (Blk.new' (w := _) (cs := #[.string (qs n.x), .string (qs n.y)]) (t := 22) (by first | rfl | (simp only [World.size_alloc]; done) | (simp only [World.size_alloc]; omega) | simp))).mono ?_; rintro e w2 ⟨rfl, e2⟩
  have HX2 : Hid (Ext w w2) := Lib.hid ((HX1.out.alloc _).trans e2)
  have HB0_2 : Hid (Blk w2 (w.heap.size) #[.string (qs n.x), .string (qs n.y)] 24) := Lib.hid (Blk.ext (HB0_1.out.alloc _) e2)
  have HB1_2 : Hid (Blk w2 (w1.heap.size) #[.string (qs n.x), .string (qs n.y)] 22) := Lib.hid (Blk.ext (Blk.new' (w := _) (cs := #[.string (qs n.x), .string (qs n.y)]) (t := 22) (by first | rfl | (simp only [World.size_alloc]; done) | (simp only [World.size_alloc]; omega) | simp)) e2)
  have HGEB1 : Hid (w.heap.size ≤ w1.heap.size) := Lib.hid (by have := HX1.out.size; first | omega | (simp only []; omega) | (simp; omega))
  clear e2 c0_0 c0_1
  have c0_0 := HB0_2.out.cell 0 rfl
  have c0_1 := HB0_2.out.cell 1 rfl
  go_wp2_with fail
  refine (aof_z n _ (HG.out.ext HX2.out) HN.out HZ.out).mono ?_; rintro e w3 ⟨rfl, e3⟩
  have HX3 : Hid (Ext w w3) := Lib.hid (HX2.out.trans e3)
  have HB0_3 := Lib.hid (Blk.ext HB0_2.out e3)
  clear e3 c0_0 c0_1
  go_upto_region 4 with fail
  refine wp_name (fun W => Ext w W ∧ Blk W (w.heap.size) #[.string (qs n.x), .string (qs n.y)] 24 ∧ Blk W (w3.heap.size) #[.int .i64 0, .string ⟨#[]⟩] 28) ⟨(HX3.out.alloc _), (HB0_3.out.alloc _), (Blk.new' (w := _) (cs := #[.int .i64 0, .string ⟨#[]⟩]) (t := 28) (by first | rfl | (simp only [World.size_alloc]; done) | (simp only [World.size_alloc]; omega) | simp))⟩ ?_
  rintro w4 ⟨e4, bB0_4, bB2_4⟩
  have HX4 := Lib.hid e4; have HB0_4 := Lib.hid bB0_4; have HB2_4 := Lib.hid bB2_4
  have HGEB2 : Hid (w.heap.size ≤ w3.heap.size) := Lib.hid (by have := HX3.out.size; first | omega | (simp only []; omega) | (simp; omega))
  clear e4 bB0_4 bB2_4
  have c0_0 := HB0_4.out.cell 0 rfl
  have c0_1 := HB0_4.out.cell 1 rfl
  go_wp2_with fail
  refine (ldir_z n _ (HG.out.ext HX4.out) HN.out HZ.out).mono ?_; rintro e w5 ⟨rfl, e5⟩
  have HX5 : Hid (Ext w w5) := Lib.hid (HX4.out.trans e5)
  have HB2_5 := Lib.hid (Blk.ext HB2_4.out e5)
  clear e5 c0_0 c0_1
  have c2_0 := HB2_5.out.cell 0 rfl
  have c2_1 := HB2_5.out.cell 1 rfl
  go_wp2
  go_ret
  exact ⟨rfl, HX5.out⟩

theorem of_r1 (n : P2) (k : Int) (t : Rat) (hk : cq n.x n.y = (k, t)) (w : World) (g : Gd w) (hn : PB 24 n) (hz : ¬ (n.x = 0 ∧ n.y = 0)) : Calls Tryz.prog 13 #[.agg #[.string (qs n.x), .string (qs n.y)]] w (Ret w (.tuple #[.agg #[.int .i64 k, .string (qs t)], .int .i64 0])) := by
  have := aof_c n w g (hn.mono (by decide)) hz
  rwa [hk] at this
theorem of_r3 (n : P2) (k : Int) (t : Rat) (hk : cq n.x n.y = (k, t)) (w : World) (g : Gd w) (hn : PB 24 n) (hz : ¬ (n.x = 0 ∧ n.y = 0)) : Calls Tryz.prog 13 #[.agg #[.string (qs (n.x * 3)), .string (qs (n.y * 3))]] w (Ret w (.tuple #[.agg #[.int .i64 k, .string (qs t)], .int .i64 0])) := by
  have q3 : QB 1 3 := ⟨by decide, by decide⟩
  have hne : ∀ q : Rat, q * 3 = 0 → q = 0 := fun q h => (Rat.mul_eq_zero.1 h).resolve_right (by decide)
  have := aof_c ⟨n.x * 3, n.y * 3⟩ w g ⟨(hn.x.mul q3).mono (by decide), (hn.y.mul q3).mono (by decide)⟩ (fun h => hz ⟨hne _ h.1, hne _ h.2⟩)
  simp only [] at this
  rwa [cq_three n.x n.y hz, hk] at this
theorem comp_r (n : P2) (k : Int) (t : Rat) (hk : cq n.x n.y = (k, t)) (w : World) (g : Gd w) (hn : PB 24 n) (hz : ¬ (n.x = 0 ∧ n.y = 0)) : Calls Tryz.prog 16 #[.agg #[.string (qs n.x), .string (qs n.y)]] w (Ret w (.agg #[.int .i64 k, .string (qs t)])) := by
  have := lcomp_c n w g hn hz
  rwa [hk] at this

set_option maxRecDepth 100000 in
set_option maxHeartbeats 8000000 in
theorem compass15_R (n : P2) (w : World) (g : Gd w) (hsz : [qs n.x, qs n.y].all sz24 = true) (hz : ¬ (n.x = 0 ∧ n.y = 0)) (k : Int) (t : Rat) (hk : cq n.x n.y = (k, t)) : Calls Tryz.prog 3 #[.agg #[.string (qs n.x), .string (qs n.y)]] w (Ret w (.bool true)) := by
  have HZ := Lib.hid hz
  have HK := Lib.hid hk
  have HG := Lib.hid g
  clear hz hk g
  have HSZ := Lib.hid hsz
  simp only [List.all_cons, List.all_nil, Bool.and_true, Bool.and_eq_true, sz24_true] at hsz
  obtain ⟨s0, s1⟩ := hsz
  have HN4 : Hid (PB 24 n) := Lib.hid ⟨qb_of_size s0, qb_of_size s1⟩
  clear s0 s1
  go_enter Tryz.func3, Tryz.ntmps3
  go_wp2_with fail
  refine (known15_c _ (HG.out.ext ((Ext.refl w).alloc _))).mono ?_; rintro e w1 ⟨rfl, e1⟩
  have HX1 : Hid (Ext w w1) := Lib.hid (((Ext.refl w).alloc _).trans e1)
  have HB0_1 : Hid (Blk w1 (w.heap.size) #[.string (qs n.x), .string (qs n.y)] 24) := Lib.hid (Blk.ext (Blk.new' (w := _) (cs := #[.string (qs n.x), .string (qs n.y)]) (t := 24) (by first | rfl | (simp only [World.size_alloc]; done) | (simp only [World.size_alloc]; omega) | simp)) e1)
  have HGEB0 : Hid (w.heap.size ≤ w.heap.size) := Lib.hid (by first | omega | (simp only []; omega) | (simp; omega))
  clear e1
  have c0_0 := HB0_1.out.cell 0 rfl
  have c0_1 := HB0_1.out.cell 1 rfl
  go_wp2_with fail
  refine (short15_b [qs n.x, qs n.y] 2 (w1.heap.size) true _ rfl (by decide) HSZ.out (Blk.new' (w := _) (cs := #[.string (qs n.x), .string (qs n.y)]) (t := 22) (by first | rfl | (simp only [World.size_alloc]; done) | (simp only [World.size_alloc]; omega) | simp))).mono ?_; rintro e w2 ⟨rfl, e2⟩
  have HX2 : Hid (Ext w w2) := Lib.hid ((HX1.out.alloc _).trans e2)
  have HB0_2 : Hid (Blk w2 (w.heap.size) #[.string (qs n.x), .string (qs n.y)] 24) := Lib.hid (Blk.ext (HB0_1.out.alloc _) e2)
  have HB1_2 : Hid (Blk w2 (w1.heap.size) #[.string (qs n.x), .string (qs n.y)] 22) := Lib.hid (Blk.ext (Blk.new' (w := _) (cs := #[.string (qs n.x), .string (qs n.y)]) (t := 22) (by first | rfl | (simp only [World.size_alloc]; done) | (simp only [World.size_alloc]; omega) | simp)) e2)
  have HGEB1 : Hid (w.heap.size ≤ w1.heap.size) := Lib.hid (by have := HX1.out.size; first | omega | (simp only []; omega) | (simp; omega))
  clear e2 c0_0 c0_1
  have c0_0 := HB0_2.out.cell 0 rfl
  have c0_1 := HB0_2.out.cell 1 rfl
  go_wp2_with fail
  refine (of_r1 n k t HK.out _ (HG.out.ext HX2.out) HN4.out HZ.out).mono ?_; rintro e w3 ⟨rfl, e3⟩
  have HX3 : Hid (Ext w w3) := Lib.hid (HX2.out.trans e3)
  have HB0_3 := Lib.hid (Blk.ext HB0_2.out e3)
  clear e3 c0_0 c0_1
  go_upto_region 4 with fail
  refine wp_name (fun W => Ext w W ∧ Blk W (w.heap.size) #[.string (qs n.x), .string (qs n.y)] 24 ∧ Blk W (w3.heap.size) #[.int .i64 k, .string (qs t)] 28) ⟨(HX3.out.alloc _), (HB0_3.out.alloc _), (Blk.new' (w := _) (cs := #[.int .i64 k, .string (qs t)]) (t := 28) (by first | rfl | (simp only [World.size_alloc]; done) | (simp only [World.size_alloc]; omega) | simp))⟩ ?_
  rintro w4 ⟨e4, bB0_4, bB2_4⟩
  have HX4 := Lib.hid e4; have HB0_4 := Lib.hid bB0_4; have HB2_4 := Lib.hid bB2_4
  have HGEB2 : Hid (w.heap.size ≤ w3.heap.size) := Lib.hid (by have := HX3.out.size; first | omega | (simp only []; omega) | (simp; omega))
  clear e4 bB0_4 bB2_4
  have c0_0 := HB0_4.out.cell 0 rfl
  have c0_1 := HB0_4.out.cell 1 rfl
  go_wp2_with fail
  refine (ldir_ok n _ (HG.out.ext HX4.out) (HN4.out.mono (by decide)) HZ.out).mono ?_; rintro e w5 ⟨rfl, e5⟩
  have HX5 : Hid (Ext w w5) := Lib.hid (HX4.out.trans e5)
  have HB0_5 := Lib.hid (Blk.ext HB0_4.out e5)
  have HB2_5 := Lib.hid (Blk.ext HB2_4.out e5)
  clear e5 c0_0 c0_1
  go_wp2_with fail
  refine wp_name (fun W => Ext w W ∧ Blk W (w.heap.size) #[.string (qs n.x), .string (qs n.y)] 24 ∧ Blk W (w3.heap.size) #[.int .i64 k, .string (qs t)] 28) ⟨HX5.out, HB0_5.out, HB2_5.out⟩ ?_
  rintro w6 ⟨e6, bB0_6, bB2_6⟩
  have HX6 := Lib.hid e6; have HB0_6 := Lib.hid bB0_6; have HB2_6 := Lib.hid bB2_6
  clear e6 bB0_6 bB2_6
  refine region_lin [.val (.pointer (some ⟨w.heap.size, 0, none⟩)), .val (.string (qs n.x)), .val (.string (qs (n.x * 3))), .val (.pointer (some ⟨w.heap.size, 1, none⟩)), .val (.string (qs n.y)), .val (.string (qs (n.y * 3))), .val (.agg #[.string (qs (n.x * 3)), .string (qs (n.y * 3))]), .val (.tuple #[.agg #[.int .i64 k, .string (qs t)], .int .i64 0]), .val (.tuple #[.agg #[.int .i64 k, .string (qs t)], .int .i64 0]), .val (.agg #[.int .i64 k, .string (qs t)]), .val (.int .i64 0), .mem (fun b_ => .pointer (some ⟨b_, 0, none⟩)) #[.int .i64 0, .string ⟨#[]⟩] 28 (Option.some 12), .put 11 #[.int .i64 k, .string (qs t)], .val (.int .i64 0)] (by kernel_rfl) (by kernel_rfl) (by kernel_rfl) ?_ (fun g6 w7 hx_ hm_ hne_ => ?_)
  · skip
    refine RnL.cons (fun g6 A_ W_ hs_ => ?_) ?_
    · have q1_ := (hs_.old 1 (by kernel_rfl) : A_.tmps[1]?.getD undef = .pointer (some ⟨w.heap.size, 0, none⟩))
      refine Rn.val fun K_ hK_ => ?_
      go_simp
      exact hK_.out _ (Ext.refl _)
    refine RnL.cons (fun g6 A_ W_ hs_ => ?_) ?_
    · have q38_ := hs_.val 0 rfl rfl rfl
      have cB0_0 := ((HB0_6.out.drew.ext hs_.1)).cell 0 rfl
      refine Rn.val fun K_ hK_ => ?_
      go_simp
      exact hK_.out _ (Ext.refl _)
    refine RnL.cons (fun g6 A_ W_ hs_ => ?_) ?_
    · have q39_ := hs_.val 1 rfl rfl rfl
      refine Rn.val fun K_ hK_ => ?_
      go_simp
      refine (rmul3_c n.x _ (HG.out.ext (HX6.out.drew.trans hs_.1)) HN4.out.x (by omega)).mono ?_; rintro e W9_ ⟨rfl, e9_⟩; exact hK_.out _ e9_
    refine RnL.cons (fun g6 A_ W_ hs_ => ?_) ?_
    · have q1_ := (hs_.old 1 (by kernel_rfl) : A_.tmps[1]?.getD undef = .pointer (some ⟨w.heap.size, 0, none⟩))
      refine Rn.val fun K_ hK_ => ?_
      go_simp
      exact hK_.out _ (Ext.refl _)
    refine RnL.cons (fun g6 A_ W_ hs_ => ?_) ?_
    · have q41_ := hs_.val 3 rfl rfl rfl
      have cB0_1 := ((HB0_6.out.drew.ext hs_.1)).cell 1 rfl
      refine Rn.val fun K_ hK_ => ?_
      go_simp
      exact hK_.out _ (Ext.refl _)
    refine RnL.cons (fun g6 A_ W_ hs_ => ?_) ?_
    · have q42_ := hs_.val 4 rfl rfl rfl
      refine Rn.val fun K_ hK_ => ?_
      go_simp
      refine (rmul3_c n.y _ (HG.out.ext (HX6.out.drew.trans hs_.1)) HN4.out.y (by omega)).mono ?_; rintro e W9_ ⟨rfl, e9_⟩; exact hK_.out _ e9_
    refine RnL.cons (fun g6 A_ W_ hs_ => ?_) ?_
    · have q40_ := hs_.val 2 rfl rfl rfl
      have q43_ := hs_.val 5 rfl rfl rfl
      refine Rn.val fun K_ hK_ => ?_
      go_simp
      exact hK_.out _ (Ext.refl _)
    refine RnL.cons (fun g6 A_ W_ hs_ => ?_) ?_
    · have q44_ := hs_.val 6 rfl rfl rfl
      refine Rn.val fun K_ hK_ => ?_
      go_simp
      refine (of_r3 n k t HK.out _ (HG.out.ext (HX6.out.drew.trans hs_.1)) HN4.out HZ.out).mono ?_; rintro e W9_ ⟨rfl, e9_⟩; exact hK_.out _ e9_
    refine RnL.cons (fun g6 A_ W_ hs_ => ?_) ?_
    · have q45_ := hs_.val 7 rfl rfl rfl
      refine Rn.val fun K_ hK_ => ?_
      go_simp
      exact hK_.out _ (Ext.refl _)
    refine RnL.cons (fun g6 A_ W_ hs_ => ?_) ?_
    · have q37_ := hs_.val 8 rfl rfl rfl
      refine Rn.val fun K_ hK_ => ?_
      go_simp
      exact hK_.out _ (Ext.refl _)
    refine RnL.cons (fun g6 A_ W_ hs_ => ?_) ?_
    · have q37_ := hs_.val 8 rfl rfl rfl
      refine Rn.val fun K_ hK_ => ?_
      go_simp
      exact hK_.out _ (Ext.refl _)
    refine RnL.cons (fun g6 A_ W_ hs_ => ?_) ?_
    · refine Rn.mem fun K_ hK_ => ?_
      go_simp
      exact hK_.out
    refine RnL.cons (fun g6 A_ W_ hs_ => ?_) ?_
    · have q6_ := (hs_.mem 11 rfl rfl rfl).1
      have q46_ := hs_.val 9 rfl rfl rfl
      refine Rn.put (z := #[.int .i64 0, .string ⟨#[]⟩]) (t := 28) rfl fun hB K_ hK_ => ?_
      have c_0 := hB.cell 0 rfl; have f_0 := hB.free 0
      have c_1 := hB.cell 1 rfl; have f_1 := hB.free 1
      have HB := Lib.hid hB; clear hB
      go_simp
      exact hK_.out _ (((Only.refl _ _).set 0 _).set 1 _) ((HB.out.set 0 _).set 1 _)
    refine RnL.cons (fun g6 A_ W_ hs_ => ?_) ?_
    · have q47_ := hs_.val 10 rfl rfl rfl
      refine Rn.val fun K_ hK_ => ?_
      go_simp
      exact hK_.out _ (Ext.refl _)
    exact RnL.nil
  simp only [fs, Kd.value, puts, Act.put, List.setIfInBounds_toArray, List.set_cons_zero, List.set_cons_succ, Nat.reduceAdd]
  have HX7 : Hid (Ext w w7) := Lib.hid (HX6.out.drew.trans hx_)
  have HB0_7 := Lib.hid (HB0_6.out.drew.ext hx_)
  have HB2_7 := Lib.hid (HB2_6.out.drew.ext hx_)
  have HB3_7 : Hid (Blk w7 (g6 11) #[.int .i64 k, .string (qs t)] 28) := Lib.hid (hm_ 11 _ _ _ _ rfl).2; have HGEB3 : Hid (w.heap.size ≤ g6 11) := Lib.hid (Nat.le_trans HX6.out.size (hm_ 11 _ _ _ _ rfl).1)
  have HNEB0B3 : Hid (w.heap.size ≠ g6 11) := Lib.hid (Nat.ne_of_lt (Nat.lt_of_lt_of_le HB0_6.out.lt (hm_ 11 _ _ _ _ rfl).1))
  have HNEB2B3 : Hid (w3.heap.size ≠ g6 11) := Lib.hid (Nat.ne_of_lt (Nat.lt_of_lt_of_le HB2_6.out.lt (hm_ 11 _ _ _ _ rfl).1))
  clear hx_ hm_ hne_
  generalize g6 11 = i3 at *
  clear g6
  go_wp2_with fail
  refine wp_name (fun W => Ext w W ∧ Blk W (w.heap.size) #[.string (qs n.x), .string (qs n.y)] 24 ∧ Blk W (w3.heap.size) #[.int .i64 k, .string (qs t)] 28 ∧ Blk W (i3) #[.int .i64 k, .string (qs t)] 28) ⟨HX7.out, HB0_7.out, HB2_7.out, HB3_7.out⟩ ?_
  rintro w8 ⟨e8, bB0_8, bB2_8, bB3_8⟩
  have HX8 := Lib.hid e8; have HB0_8 := Lib.hid bB0_8; have HB2_8 := Lib.hid bB2_8; have HB3_8 := Lib.hid bB3_8
  clear e8 bB0_8 bB2_8 bB3_8
  refine region_lin [.val (.agg #[.int .i64 k, .string (qs t)]), .val (.agg #[.string (qs n.x), .string (qs n.y)]), .val (.agg #[.int .i64 k, .string (qs t)]), .val (.bool true), .val (.bool true), .val (.int .i64 0), .val (.bool true), .val (.bool true), .val (.bool true), .val (.agg #[.int .i64 k, .string (qs t)]), .val (.agg #[.int .i64 k, .string (qs t)]), .val (.bool true), .val (.bool true), .val (.bool true), .val (.int .i64 0), .val (.bool true), .val (.bool true), .val (.bool true)] (by kernel_rfl) (by kernel_rfl) (by kernel_rfl) ?_ (fun g8 w9 hx_ hm_ hne_ => ?_)
  · skip
    refine RnL.cons (fun g8 A_ W_ hs_ => ?_) ?_
    · have q3_ := (hs_.old 3 (by kernel_rfl) : A_.tmps[3]?.getD undef = .pointer (some ⟨w3.heap.size, 0, none⟩))
      have cB2_0 := ((HB2_8.out.drew.ext hs_.1)).cell 0 rfl
      have cB2_1 := ((HB2_8.out.drew.ext hs_.1)).cell 1 rfl
      refine Rn.val fun K_ hK_ => ?_
      go_simp
      exact hK_.out _ (Ext.refl _)
    refine RnL.cons (fun g8 A_ W_ hs_ => ?_) ?_
    · have q1_ := (hs_.old 1 (by kernel_rfl) : A_.tmps[1]?.getD undef = .pointer (some ⟨w.heap.size, 0, none⟩))
      have cB0_0 := ((HB0_8.out.drew.ext hs_.1)).cell 0 rfl
      have cB0_1 := ((HB0_8.out.drew.ext hs_.1)).cell 1 rfl
      refine Rn.val fun K_ hK_ => ?_
      go_simp
      exact hK_.out _ (Ext.refl _)
    refine RnL.cons (fun g8 A_ W_ hs_ => ?_) ?_
    · have q49_ := hs_.val 1 rfl rfl rfl
      refine Rn.val fun K_ hK_ => ?_
      go_simp
      refine (comp_r n k t HK.out _ (HG.out.ext (HX8.out.drew.trans hs_.1)) HN4.out HZ.out).mono ?_; rintro e W9_ ⟨rfl, e9_⟩; exact hK_.out _ e9_
    refine RnL.cons (fun g8 A_ W_ hs_ => ?_) ?_
    · have q48_ := hs_.val 0 rfl rfl rfl
      have q50_ := hs_.val 2 rfl rfl rfl
      refine Rn.val fun K_ hK_ => ?_
      go_simp
      exact hK_.out _ (Ext.refl _)
    refine RnL.cons (fun g8 A_ W_ hs_ => ?_) ?_
    · have q51_ := hs_.val 3 rfl rfl rfl
      refine Rn.val fun K_ hK_ => ?_
      go_simp
      exact hK_.out _ (Ext.refl _)
    refine RnL.cons (fun g8 A_ W_ hs_ => ?_) ?_
    · have q4_ := (hs_.old 4 (by kernel_rfl) : A_.tmps[4]?.getD undef = .int .i64 0)
      refine Rn.val fun K_ hK_ => ?_
      go_simp
      exact hK_.out _ (Ext.refl _)
    refine RnL.cons (fun g8 A_ W_ hs_ => ?_) ?_
    · have q53_ := hs_.val 5 rfl rfl rfl
      refine Rn.val fun K_ hK_ => ?_
      go_simp
      exact hK_.out _ (Ext.refl _)
    refine RnL.cons (fun g8 A_ W_ hs_ => ?_) ?_
    · have q52_ := hs_.val 4 rfl rfl rfl
      have q54_ := hs_.val 6 rfl rfl rfl
      refine Rn.val fun K_ hK_ => ?_
      go_simp
      exact hK_.out _ (Ext.refl _)
    refine RnL.cons (fun g8 A_ W_ hs_ => ?_) ?_
    · have q55_ := hs_.val 7 rfl rfl rfl
      refine Rn.val fun K_ hK_ => ?_
      go_simp
      exact hK_.out _ (Ext.refl _)
    refine RnL.cons (fun g8 A_ W_ hs_ => ?_) ?_
    · have q6_ := (hs_.old 6 (by kernel_rfl) : A_.tmps[6]?.getD undef = .pointer (some ⟨i3, 0, none⟩))
      have cB3_0 := ((HB3_8.out.drew.ext hs_.1)).cell 0 rfl
      have cB3_1 := ((HB3_8.out.drew.ext hs_.1)).cell 1 rfl
      refine Rn.val fun K_ hK_ => ?_
      go_simp
      exact hK_.out _ (Ext.refl _)
    refine RnL.cons (fun g8 A_ W_ hs_ => ?_) ?_
    · have q3_ := (hs_.old 3 (by kernel_rfl) : A_.tmps[3]?.getD undef = .pointer (some ⟨w3.heap.size, 0, none⟩))
      have cB2_0 := ((HB2_8.out.drew.ext hs_.1)).cell 0 rfl
      have cB2_1 := ((HB2_8.out.drew.ext hs_.1)).cell 1 rfl
      refine Rn.val fun K_ hK_ => ?_
      go_simp
      exact hK_.out _ (Ext.refl _)
    refine RnL.cons (fun g8 A_ W_ hs_ => ?_) ?_
    · have q57_ := hs_.val 9 rfl rfl rfl
      have q58_ := hs_.val 10 rfl rfl rfl
      refine Rn.val fun K_ hK_ => ?_
      go_simp
      exact hK_.out _ (Ext.refl _)
    refine RnL.cons (fun g8 A_ W_ hs_ => ?_) ?_
    · have q56_ := hs_.val 8 rfl rfl rfl
      have q59_ := hs_.val 11 rfl rfl rfl
      refine Rn.val fun K_ hK_ => ?_
      go_simp
      exact hK_.out _ (Ext.refl _)
    refine RnL.cons (fun g8 A_ W_ hs_ => ?_) ?_
    · have q60_ := hs_.val 12 rfl rfl rfl
      refine Rn.val fun K_ hK_ => ?_
      go_simp
      exact hK_.out _ (Ext.refl _)
    refine RnL.cons (fun g8 A_ W_ hs_ => ?_) ?_
    · have q7_ := (hs_.old 7 (by kernel_rfl) : A_.tmps[7]?.getD undef = .int .i64 0)
      refine Rn.val fun K_ hK_ => ?_
      go_simp
      exact hK_.out _ (Ext.refl _)
    refine RnL.cons (fun g8 A_ W_ hs_ => ?_) ?_
    · have q62_ := hs_.val 14 rfl rfl rfl
      refine Rn.val fun K_ hK_ => ?_
      go_simp
      exact hK_.out _ (Ext.refl _)
    refine RnL.cons (fun g8 A_ W_ hs_ => ?_) ?_
    · have q61_ := hs_.val 13 rfl rfl rfl
      have q63_ := hs_.val 15 rfl rfl rfl
      refine Rn.val fun K_ hK_ => ?_
      go_simp
      exact hK_.out _ (Ext.refl _)
    refine RnL.cons (fun g8 A_ W_ hs_ => ?_) ?_
    · have q64_ := hs_.val 16 rfl rfl rfl
      refine Rn.val fun K_ hK_ => ?_
      go_simp
      exact hK_.out _ (Ext.refl _)
    exact RnL.nil
  simp only [fs, Kd.value, puts, Act.put, List.setIfInBounds_toArray, List.set_cons_zero, List.set_cons_succ]
  have HX9 : Hid (Ext w w9) := Lib.hid (HX8.out.drew.trans hx_)
  clear hx_ hm_ hne_
  go_wp2
  go_ret
  exact ⟨rfl, HX9.out⟩

theorem compass15_walk (n : T2) (w : World) (g : Gd w) : Calls Tryz.prog 3 #[tp n] w (Ret w (.bool true)) := by
  cases hs : [n.x, n.y].all sz24 with
  | false => exact compass15_L n w g hs
  | true =>
    cases r : n.l.all rq with
    | false => exact compass15_E n w g hs r
    | true =>
      obtain ⟨v, rfl, hv⟩ := right_p r
      by_cases hz : v.x = 0 ∧ v.y = 0
      · exact compass15_Z v w g hs hv hz
      · exact compass15_R v w g hs hz _ _ rfl
end Go.Proofs.YtplimbgaoengfaaGreatDoor
