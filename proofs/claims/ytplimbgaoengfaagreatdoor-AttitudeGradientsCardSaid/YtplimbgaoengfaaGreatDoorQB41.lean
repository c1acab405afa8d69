/- Part 41 of the proof: N2. -/
import Derived.Test.YtplimbgaoengfaaGreatDoorQB1
import Derived.Test.YtplimbgaoengfaaGreatDoorQB2
import Derived.Test.YtplimbgaoengfaaGreatDoorQB3
import Derived.Test.YtplimbgaoengfaaGreatDoorQB4
import Derived.Test.YtplimbgaoengfaaGreatDoorQB5
import Derived.Test.YtplimbgaoengfaaGreatDoorQB6
import Derived.Test.YtplimbgaoengfaaGreatDoorQB7
import Derived.Test.YtplimbgaoengfaaGreatDoorQB8
import Derived.Test.YtplimbgaoengfaaGreatDoorQB9
import Derived.Test.YtplimbgaoengfaaGreatDoorQB10
import Derived.Test.YtplimbgaoengfaaGreatDoorQB11
import Derived.Test.YtplimbgaoengfaaGreatDoorQB12
import Derived.Test.YtplimbgaoengfaaGreatDoorQB13
import Derived.Test.YtplimbgaoengfaaGreatDoorQB14
import Derived.Test.YtplimbgaoengfaaGreatDoorQB15
import Derived.Test.YtplimbgaoengfaaGreatDoorQB16
import Derived.Test.YtplimbgaoengfaaGreatDoorQB17
import Derived.Test.YtplimbgaoengfaaGreatDoorQB18
import Derived.Test.YtplimbgaoengfaaGreatDoorQB19
import Derived.Test.YtplimbgaoengfaaGreatDoorQB20
import Derived.Test.YtplimbgaoengfaaGreatDoorQB21
import Derived.Test.YtplimbgaoengfaaGreatDoorQB22
import Derived.Test.YtplimbgaoengfaaGreatDoorQB23
import Derived.Test.YtplimbgaoengfaaGreatDoorQB24
import Derived.Test.YtplimbgaoengfaaGreatDoorQB25
import Derived.Test.YtplimbgaoengfaaGreatDoorQB27
import Derived.Test.YtplimbgaoengfaaGreatDoorQB28
import Derived.Test.YtplimbgaoengfaaGreatDoorQB29
import Derived.Test.YtplimbgaoengfaaGreatDoorQB30
import Derived.Test.YtplimbgaoengfaaGreatDoorQB31
import Derived.Test.YtplimbgaoengfaaGreatDoorQB32
import Derived.Test.YtplimbgaoengfaaGreatDoorQB39
import Derived.Test.YtplimbgaoengfaaGreatDoorQB40
namespace Go.Proofs.YtplimbgaoengfaaGreatDoor
open Go Go.RowKit
set_option maxRecDepth 100000 in
set_option maxHeartbeats 2000000 in
theorem agrad_z (n : V3) (w : World) (g : Gd w) (hn : VB 200 n) (hz : n.x = 0 ∧ n.y = 0 ∧ n.z = 0) : Calls Tryz.prog 27 #[.agg #[.string (qs n.x), .string (qs n.y), .string (qs n.z)]] w (Ret w (.tuple #[.agg #[.string ⟨#[]⟩, .string ⟨#[]⟩], .int .i64 17])) := by
  have HN := Lib.hid hn
  have HZ := Lib.hid hz
  have HG := Lib.hid g
  clear hn hz g
  go_enter Tryz.func27, Tryz.ntmps27
  go_wp2_with fail
  refine (acheck_z n _ (HG.out.ext (((Ext.refl w).alloc _).alloc _)) HN.out HZ.out.1 HZ.out.2.1 HZ.out.2.2).mono ?_; rintro e w1 ⟨rfl, e1⟩
  have HX1 : Hid (Ext w w1) := Lib.hid ((((Ext.refl w).alloc _).alloc _).trans e1)
  have HB1_1 : Hid (Blk w1 (w.heap.size + 1) #[.string ⟨#[]⟩, .string ⟨#[]⟩] 24) := Lib.hid (Blk.ext (Blk.new' (w := _) (cs := #[.string ⟨#[]⟩, .string ⟨#[]⟩]) (t := 24) (by first | rfl | (simp only [World.size_alloc]; done) | (simp only [World.size_alloc]; omega) | simp)) e1)
  have HGEB1 : Hid (w.heap.size ≤ w.heap.size + 1) := Lib.hid (by first | omega | (simp only []; omega) | (simp; omega))
  clear e1
  have c1_0 := HB1_1.out.cell 0 rfl
  have f1_0 := HB1_1.out.free 0
  have c1_1 := HB1_1.out.cell 1 rfl
  have f1_1 := HB1_1.out.free 1
  go_wp2_with fail
  refine wp_name (fun W => Ext w W ∧ Blk W (w.heap.size + 1) #[.string ⟨#[]⟩, .string ⟨#[]⟩] 24) ⟨((HX1.out.setCell (by have := HGEB1.out; first | omega | (simp only []; omega) | (simp; omega)) _).setCell (by have := HGEB1.out; first | omega | (simp only []; omega) | (simp; omega)) _), ((HB1_1.out.set 0 (.string ⟨#[]⟩)).set 1 (.string ⟨#[]⟩))⟩ ?_
  rintro w2 ⟨e2, bB1_2⟩
  have HX2 := Lib.hid e2; have HB1_2 := Lib.hid bB1_2
  clear e2 bB1_2 c1_0 f1_0 c1_1 f1_1
  have gB1_0 := HB1_2.out.cell 0 rfl
  have gB1_1 := HB1_2.out.cell 1 rfl
  refine bodyPost_ret (v := .tuple #[.agg #[.string ⟨#[]⟩, .string ⟨#[]⟩], .int .i64 17]) (by simp [results, Tryz.results27, go_sem, gB1_0, gB1_1]) rfl ⟨rfl, HX2.out⟩

set_option maxRecDepth 100000 in
set_option maxHeartbeats 2000000 in
theorem agrad_u (n : V3) (w : World) (g : Gd w) (hn : VB 200 n) (hz : ¬ (n.x = 0 ∧ n.y = 0 ∧ n.z = 0)) (h0 : n.z = 0) : Calls Tryz.prog 27 #[.agg #[.string (qs n.x), .string (qs n.y), .string (qs n.z)]] w (Ret w (.tuple #[.agg #[.string ⟨#[]⟩, .string ⟨#[]⟩], .int .i64 21])) := by
  have HN := Lib.hid hn
  have HZ := Lib.hid hz
  have HG := Lib.hid g
  clear hn hz g
  have h0_t := qs_is0 h0
  clear h0
  go_enter Tryz.func27, Tryz.ntmps27
  go_wp2_with fail
  refine (acheck_ok n _ (HG.out.ext (((Ext.refl w).alloc _).alloc _)) HN.out HZ.out).mono ?_; rintro e w1 ⟨rfl, e1⟩
  have HX1 : Hid (Ext w w1) := Lib.hid ((((Ext.refl w).alloc _).alloc _).trans e1)
  have HB0_1 : Hid (Blk w1 (w.heap.size) #[.string (qs n.x), .string (qs n.y), .string (qs n.z)] 37) := Lib.hid (Blk.ext ((Blk.new' (w := _) (cs := #[.string (qs n.x), .string (qs n.y), .string (qs n.z)]) (t := 37) (by first | rfl | (simp only [World.size_alloc]; done) | (simp only [World.size_alloc]; omega) | simp)).alloc _) e1)
  have HB1_1 : Hid (Blk w1 (w.heap.size + 1) #[.string ⟨#[]⟩, .string ⟨#[]⟩] 24) := Lib.hid (Blk.ext (Blk.new' (w := _) (cs := #[.string ⟨#[]⟩, .string ⟨#[]⟩]) (t := 24) (by first | rfl | (simp only [World.size_alloc]; done) | (simp only [World.size_alloc]; omega) | simp)) e1)
  have HGEB0 : Hid (w.heap.size ≤ w.heap.size) := Lib.hid (by first | omega | (simp only []; omega) | (simp; omega))
  have HGEB1 : Hid (w.heap.size ≤ w.heap.size + 1) := Lib.hid (by first | omega | (simp only []; omega) | (simp; omega))
  clear e1
  have c0_2 := HB0_1.out.cell 2 rfl
  have c1_0 := HB1_1.out.cell 0 rfl
  have f1_0 := HB1_1.out.free 0
  have c1_1 := HB1_1.out.cell 1 rfl
  have f1_1 := HB1_1.out.free 1
  go_wp2_with fail
  refine wp_name (fun W => Ext w W ∧ Blk W (w.heap.size + 1) #[.string ⟨#[]⟩, .string ⟨#[]⟩] 24) ⟨((HX1.out.setCell (by have := HGEB1.out; first | omega | (simp only []; omega) | (simp; omega)) _).setCell (by have := HGEB1.out; first | omega | (simp only []; omega) | (simp; omega)) _), ((HB1_1.out.set 0 (.string ⟨#[]⟩)).set 1 (.string ⟨#[]⟩))⟩ ?_
  rintro w2 ⟨e2, bB1_2⟩
  have HX2 := Lib.hid e2; have HB1_2 := Lib.hid bB1_2
  clear e2 bB1_2 c0_2 c1_0 f1_0 c1_1 f1_1
  have gB1_0 := HB1_2.out.cell 0 rfl
  have gB1_1 := HB1_2.out.cell 1 rfl
  refine bodyPost_ret (v := .tuple #[.agg #[.string ⟨#[]⟩, .string ⟨#[]⟩], .int .i64 21]) (by simp [results, Tryz.results27, go_sem, gB1_0, gB1_1]) rfl ⟨rfl, HX2.out⟩

set_option maxRecDepth 100000 in
set_option maxHeartbeats 2000000 in
theorem anorm_e (a : T2) (w : World) (g : Gd w) (ha : TS2 a) (ha2 : terr a.l = 2) : Calls Tryz.prog 28 #[.agg #[.string a.x, .string a.y]] w (Ret w (.tuple #[.agg #[.string ⟨#[]⟩, .string ⟨#[]⟩, .string ⟨#[]⟩], .int .i64 2])) := by
  have HA := Lib.hid ha
  have HA2 := Lib.hid ha2
  have HG := Lib.hid g
  clear ha ha2 g
  go_enter Tryz.func28, Tryz.ntmps28
  go_wp2_with fail
  refine ((HA2.out ▸ vcheckp_c a _ (HG.out.ext (((Ext.refl w).alloc _).alloc _)) HA.out)).mono ?_; rintro e w1 ⟨rfl, e1⟩
  have HX1 : Hid (Ext w w1) := Lib.hid ((((Ext.refl w).alloc _).alloc _).trans e1)
  have HB1_1 : Hid (Blk w1 (w.heap.size + 1) #[.string ⟨#[]⟩, .string ⟨#[]⟩, .string ⟨#[]⟩] 37) := Lib.hid (Blk.ext (Blk.new' (w := _) (cs := #[.string ⟨#[]⟩, .string ⟨#[]⟩, .string ⟨#[]⟩]) (t := 37) (by first | rfl | (simp only [World.size_alloc]; done) | (simp only [World.size_alloc]; omega) | simp)) e1)
  have HGEB1 : Hid (w.heap.size ≤ w.heap.size + 1) := Lib.hid (by first | omega | (simp only []; omega) | (simp; omega))
  clear e1
  have c1_0 := HB1_1.out.cell 0 rfl
  have f1_0 := HB1_1.out.free 0
  have c1_1 := HB1_1.out.cell 1 rfl
  have f1_1 := HB1_1.out.free 1
  have c1_2 := HB1_1.out.cell 2 rfl
  have f1_2 := HB1_1.out.free 2
  go_wp2_with fail
  refine wp_name (fun W => Ext w W ∧ Blk W (w.heap.size + 1) #[.string ⟨#[]⟩, .string ⟨#[]⟩, .string ⟨#[]⟩] 37) ⟨(((HX1.out.setCell (by have := HGEB1.out; first | omega | (simp only []; omega) | (simp; omega)) _).setCell (by have := HGEB1.out; first | omega | (simp only []; omega) | (simp; omega)) _).setCell (by have := HGEB1.out; first | omega | (simp only []; omega) | (simp; omega)) _), (((HB1_1.out.set 0 (.string ⟨#[]⟩)).set 1 (.string ⟨#[]⟩)).set 2 (.string ⟨#[]⟩))⟩ ?_
  rintro w2 ⟨e2, bB1_2⟩
  have HX2 := Lib.hid e2; have HB1_2 := Lib.hid bB1_2
  clear e2 bB1_2 c1_0 f1_0 c1_1 f1_1 c1_2 f1_2
  have gB1_0 := HB1_2.out.cell 0 rfl
  have gB1_1 := HB1_2.out.cell 1 rfl
  have gB1_2 := HB1_2.out.cell 2 rfl
  refine bodyPost_ret (v := .tuple #[.agg #[.string ⟨#[]⟩, .string ⟨#[]⟩, .string ⟨#[]⟩], .int .i64 2]) (by simp [results, Tryz.results28, go_sem, gB1_0, gB1_1, gB1_2]) rfl ⟨rfl, HX2.out⟩

set_option maxRecDepth 100000 in
set_option maxHeartbeats 2000000 in
theorem anorm_ok (a : P2) (w : World) (g : Gd w) (ha : PB 200 a) : Calls Tryz.prog 28 #[.agg #[.string (qs a.x), .string (qs a.y)]] w (Ret w (.tuple #[.agg #[.string (qs (-a.x)), .string (qs (-a.y)), .string ⟨#[49]⟩], .int .i64 0])) := by
  have HA := Lib.hid ha
  have HG := Lib.hid g
  clear ha g
  go_enter Tryz.func28, Tryz.ntmps28
  go_wp2_with fail
  refine (vCheckPoint_ok a _ (HG.out.ext (((Ext.refl w).alloc _).alloc _)) HA.out).mono ?_; rintro e w1 ⟨rfl, e1⟩
  have HX1 : Hid (Ext w w1) := Lib.hid ((((Ext.refl w).alloc _).alloc _).trans e1)
  have HB0_1 : Hid (Blk w1 (w.heap.size) #[.string (qs a.x), .string (qs a.y)] 24) := Lib.hid (Blk.ext ((Blk.new' (w := _) (cs := #[.string (qs a.x), .string (qs a.y)]) (t := 24) (by first | rfl | (simp only [World.size_alloc]; done) | (simp only [World.size_alloc]; omega) | simp)).alloc _) e1)
  have HB1_1 : Hid (Blk w1 (w.heap.size + 1) #[.string ⟨#[]⟩, .string ⟨#[]⟩, .string ⟨#[]⟩] 37) := Lib.hid (Blk.ext (Blk.new' (w := _) (cs := #[.string ⟨#[]⟩, .string ⟨#[]⟩, .string ⟨#[]⟩]) (t := 37) (by first | rfl | (simp only [World.size_alloc]; done) | (simp only [World.size_alloc]; omega) | simp)) e1)
  have HGEB0 : Hid (w.heap.size ≤ w.heap.size) := Lib.hid (by first | omega | (simp only []; omega) | (simp; omega))
  have HGEB1 : Hid (w.heap.size ≤ w.heap.size + 1) := Lib.hid (by first | omega | (simp only []; omega) | (simp; omega))
  clear e1
  go_wp2_with fail
  refine wp_name (fun W => Ext w W ∧ Blk W (w.heap.size) #[.string (qs a.x), .string (qs a.y)] 24 ∧ Blk W (w.heap.size + 1) #[.string ⟨#[]⟩, .string ⟨#[]⟩, .string ⟨#[]⟩] 37) ⟨HX1.out, HB0_1.out, HB1_1.out⟩ ?_
  rintro w2 ⟨e2, bB0_2, bB1_2⟩
  have HX2 := Lib.hid e2; have HB0_2 := Lib.hid bB0_2; have HB1_2 := Lib.hid bB1_2
  clear e2 bB0_2 bB1_2
  refine region_lin_s (X := w) [⟨w.heap.size + 1, #[.string ⟨#[]⟩, .string ⟨#[]⟩, .string ⟨#[]⟩], #[.string (qs (-a.x)), .string (qs (-a.y)), .string ⟨#[49]⟩], 37⟩] [.val (.pointer (some ⟨w.heap.size, 0, none⟩)), .val (.string (qs a.x)), .val (.string (qs (-a.x))), .val (.pointer (some ⟨w.heap.size, 1, none⟩)), .val (.string (qs a.y)), .val (.string (qs (-a.y))), .val (.agg #[.string (qs (-a.x)), .string (qs (-a.y)), .string ⟨#[49]⟩]), .st 0, .val (.int .i64 0)] (by kernel_rfl) (by kernel_rfl) (by kernel_rfl) HX2.out.drew (List.forall_mem_cons.2 ⟨⟨HGEB1.out, HB1_2.out.drew⟩, (fun _ h => by cases h)⟩) dis1 ?_ (fun g2 w3 hx_ hk_ hb_ hm_ hne_ => ?_)
  · skip
    refine RnL.cons (fun g2 A_ W_ hs_ => ?_) ?_
    · have q1_ := (hs_.old 1 (by kernel_rfl) : A_.tmps[1]?.getD undef = .pointer (some ⟨w.heap.size, 0, none⟩))
      refine Rn.val fun K_ hK_ => ?_
      go_simp
      exact hK_.out _ (Ext.refl _)
    refine RnL.cons (fun g2 A_ W_ hs_ => ?_) ?_
    · have q8_ := hs_.val 0 rfl rfl rfl
      have cB0_0 := ((hs_.keep (fm2 (show w.heap.size + 1 ≠ w.heap.size from by first | omega | (simp only []; omega) | (simp; omega)) fm0) HB0_2.out.drew)).cell 0 rfl
      refine Rn.val fun K_ hK_ => ?_
      go_simp
      exact hK_.out _ (Ext.refl _)
    refine RnL.cons (fun g2 A_ W_ hs_ => ?_) ?_
    · have q9_ := hs_.val 1 rfl rfl rfl
      refine Rn.val fun K_ hK_ => ?_
      go_simp
      refine (rneg_c a.x _ HA.out.x (by omega)).mono ?_; rintro e W9_ ⟨rfl, e9_⟩; exact hK_.out _ e9_
    refine RnL.cons (fun g2 A_ W_ hs_ => ?_) ?_
    · have q1_ := (hs_.old 1 (by kernel_rfl) : A_.tmps[1]?.getD undef = .pointer (some ⟨w.heap.size, 0, none⟩))
      refine Rn.val fun K_ hK_ => ?_
      go_simp
      exact hK_.out _ (Ext.refl _)
    refine RnL.cons (fun g2 A_ W_ hs_ => ?_) ?_
    · have q11_ := hs_.val 3 rfl rfl rfl
      have cB0_1 := ((hs_.keep (fm2 (show w.heap.size + 1 ≠ w.heap.size from by first | omega | (simp only []; omega) | (simp; omega)) fm0) HB0_2.out.drew)).cell 1 rfl
      refine Rn.val fun K_ hK_ => ?_
      go_simp
      exact hK_.out _ (Ext.refl _)
    refine RnL.cons (fun g2 A_ W_ hs_ => ?_) ?_
    · have q12_ := hs_.val 4 rfl rfl rfl
      refine Rn.val fun K_ hK_ => ?_
      go_simp
      refine (rneg_c a.y _ HA.out.y (by omega)).mono ?_; rintro e W9_ ⟨rfl, e9_⟩; exact hK_.out _ e9_
    refine RnL.cons (fun g2 A_ W_ hs_ => ?_) ?_
    · have q10_ := hs_.val 2 rfl rfl rfl
      have q13_ := hs_.val 5 rfl rfl rfl
      refine Rn.val fun K_ hK_ => ?_
      go_simp
      exact hK_.out _ (Ext.refl _)
    refine RnL.cons (fun g2 A_ W_ hs_ => ?_) ?_
    · have q2_ := (hs_.old 2 (by kernel_rfl) : A_.tmps[2]?.getD undef = .pointer (some ⟨w.heap.size + 1, 0, none⟩))
      have q14_ := hs_.val 6 rfl rfl rfl
      refine Rn.st (n := 0) rfl fun hB0 K_ hK_ => ?_
      have hB : Blk W_ (w.heap.size + 1) #[.string ⟨#[]⟩, .string ⟨#[]⟩, .string ⟨#[]⟩] 37 := hB0; clear hB0
      have c_0 := hB.cell 0 rfl; have f_0 := hB.free 0
      have c_1 := hB.cell 1 rfl; have f_1 := hB.free 1
      have c_2 := hB.cell 2 rfl; have f_2 := hB.free 2
      have HB := Lib.hid hB; clear hB
      go_simp
      exact hK_.out _ ((((Only.refl _ _).set 0 _).set 1 _).set 2 _) (((HB.out.set 0 _).set 1 _).set 2 _)
    refine RnL.cons (fun g2 A_ W_ hs_ => ?_) ?_
    · refine Rn.val fun K_ hK_ => ?_
      go_simp
      exact hK_.out _ (Ext.refl _)
    exact RnL.nil
  simp only [fs, Kd.value, puts, Act.put, List.setIfInBounds_toArray, List.set_cons_zero, List.set_cons_succ]
  have HX3 : Hid (Ext w w3) := Lib.hid hx_
  have HB1_3 : Hid (Blk w3 (w.heap.size + 1) #[.string (qs (-a.x)), .string (qs (-a.y)), .string ⟨#[49]⟩] 37) := Lib.hid (hb_ 0 _ rfl)
  clear hx_ hm_ hne_ hk_ hb_
  go_wp2_with fail
  have gB1_0 := HB1_3.out.cell 0 rfl
  have gB1_1 := HB1_3.out.cell 1 rfl
  have gB1_2 := HB1_3.out.cell 2 rfl
  refine bodyPost_ret (v := .tuple #[.agg #[.string (qs (-a.x)), .string (qs (-a.y)), .string ⟨#[49]⟩], .int .i64 0]) (by simp [results, Tryz.results28, go_sem, gB1_0, gB1_1, gB1_2]) rfl ⟨rfl, HX3.out⟩
end Go.Proofs.YtplimbgaoengfaaGreatDoor
