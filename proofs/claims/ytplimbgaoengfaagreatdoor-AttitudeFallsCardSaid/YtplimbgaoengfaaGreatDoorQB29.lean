/- Part 29 of the proof: N1, N4. -/
import Derived.Test.YtplimbgaoengfaaGreatDoorQB1
import Derived.Test.YtplimbgaoengfaaGreatDoorQB2
import Derived.Test.YtplimbgaoengfaaGreatDoorQB3
import Derived.Test.YtplimbgaoengfaaGreatDoorQB4
import Derived.Test.YtplimbgaoengfaaGreatDoorQB5
import Derived.Test.YtplimbgaoengfaaGreatDoorQB6
import Derived.Test.YtplimbgaoengfaaGreatDoorQB7
import Derived.Test.YtplimbgaoengfaaGreatDoorQB8
import Derived.Test.YtplimbgaoengfaaGreatDoorQB9
import Derived.Test.YtplimbgaoengfaaGreatDoorQB10
import Derived.Test.YtplimbgaoengfaaGreatDoorQB11
import Derived.Test.YtplimbgaoengfaaGreatDoorQB12
import Derived.Test.YtplimbgaoengfaaGreatDoorQB13
import Derived.Test.YtplimbgaoengfaaGreatDoorQB14
import Derived.Test.YtplimbgaoengfaaGreatDoorQB15
import Derived.Test.YtplimbgaoengfaaGreatDoorQB16
import Derived.Test.YtplimbgaoengfaaGreatDoorQB17
import Derived.Test.YtplimbgaoengfaaGreatDoorQB18
import Derived.Test.YtplimbgaoengfaaGreatDoorQB19
import Derived.Test.YtplimbgaoengfaaGreatDoorQB20
import Derived.Test.YtplimbgaoengfaaGreatDoorQB21
import Derived.Test.YtplimbgaoengfaaGreatDoorQB22
import Derived.Test.YtplimbgaoengfaaGreatDoorQB23
import Derived.Test.YtplimbgaoengfaaGreatDoorQB24
import Derived.Test.YtplimbgaoengfaaGreatDoorQB25
import Derived.Test.YtplimbgaoengfaaGreatDoorQB26
import Derived.Test.YtplimbgaoengfaaGreatDoorQB27
import Derived.Test.YtplimbgaoengfaaGreatDoorQB28
namespace Go.Proofs.YtplimbgaoengfaaGreatDoor
open Go Go.RowKit
set_option maxRecDepth 100000 in
set_option maxHeartbeats 2000000 in
theorem lnorm_e (n : T3) (w : World) (g : Gd w) (hn : TS n) (he : n.l.all rq = false) : Calls Tryz.prog 18 #[.agg #[.string n.x, .string n.y, .string n.z]] w (Ret w (.int .i64 2)) := by
  have HN := Lib.hid hn
  have HE := Lib.hid he
  have HG := Lib.hid g
  clear hn he g
  go_enter Tryz.func18, Tryz.ntmps18
  go_wp2_with fail
  refine (right15_b [n.x, n.y, n.z] 3 (w.heap.size + 1) false _ (HG.out.ext (((Ext.refl w).alloc _).alloc _)) rfl (by decide) (sizes3 HN.out.x HN.out.y HN.out.z) HE.out (Blk.new' (w := _) (cs := #[.string n.x, .string n.y, .string n.z]) (t := 22) (by first | rfl | (simp only [World.size_alloc]; done) | (simp only [World.size_alloc]; omega) | simp))).mono ?_; rintro e w1 ⟨rfl, e1⟩
  have HX1 : Hid (Ext w w1) := Lib.hid ((((Ext.refl w).alloc _).alloc _).trans e1)
  have HB1_1 : Hid (Blk w1 (w.heap.size + 1) #[.string n.x, .string n.y, .string n.z] 22) := Lib.hid (Blk.ext (Blk.new' (w := _) (cs := #[.string n.x, .string n.y, .string n.z]) (t := 22) (by first | rfl | (simp only [World.size_alloc]; done) | (simp only [World.size_alloc]; omega) | simp)) e1)
  have HGEB1 : Hid (w.heap.size ≤ w.heap.size + 1) := Lib.hid (by first | omega | (simp only []; omega) | (simp; omega))
  clear e1
  go_wp2
  go_ret
  exact ⟨rfl, HX1.out⟩

set_option maxRecDepth 100000 in
set_option maxHeartbeats 2000000 in
theorem lnorm_0 (n : V3) (w : World) (g : Gd w) (hn : VB 200 n) (h0 : n.x ≠ 0) : Calls Tryz.prog 18 #[.agg #[.string (qs n.x), .string (qs n.y), .string (qs n.z)]] w (Ret w (.int .i64 0)) := by
  have HN := Lib.hid hn
  have HG := Lib.hid g
  clear hn g
  have h0_t := qs_not0 h0
  clear h0
  go_enter Tryz.func18, Tryz.ntmps18
  go_wp2_with fail
  refine (right15_b [qs n.x, qs n.y, qs n.z] 3 (w.heap.size + 1) true _ (HG.out.ext (((Ext.refl w).alloc _).alloc _)) rfl (by decide) (sizes3 HN.out.ts.x HN.out.ts.y HN.out.ts.z) HN.out.all (Blk.new' (w := _) (cs := #[.string (qs n.x), .string (qs n.y), .string (qs n.z)]) (t := 22) (by first | rfl | (simp only [World.size_alloc]; done) | (simp only [World.size_alloc]; omega) | simp))).mono ?_; rintro e w1 ⟨rfl, e1⟩
  have HX1 : Hid (Ext w w1) := Lib.hid ((((Ext.refl w).alloc _).alloc _).trans e1)
  have HB0_1 : Hid (Blk w1 (w.heap.size) #[.string (qs n.x), .string (qs n.y), .string (qs n.z)] 37) := Lib.hid (Blk.ext ((Blk.new' (w := _) (cs := #[.string (qs n.x), .string (qs n.y), .string (qs n.z)]) (t := 37) (by first | rfl | (simp only [World.size_alloc]; done) | (simp only [World.size_alloc]; omega) | simp)).alloc _) e1)
  have HB1_1 : Hid (Blk w1 (w.heap.size + 1) #[.string (qs n.x), .string (qs n.y), .string (qs n.z)] 22) := Lib.hid (Blk.ext (Blk.new' (w := _) (cs := #[.string (qs n.x), .string (qs n.y), .string (qs n.z)]) (t := 22) (by first | rfl | (simp only [World.size_alloc]; done) | (simp only [World.size_alloc]; omega) | simp)) e1)
  have HGEB0 : Hid (w.heap.size ≤ w.heap.size) := Lib.hid (by first | omega | (simp only []; omega) | (simp; omega))
  have HGEB1 : Hid (w.heap.size ≤ w.heap.size + 1) := Lib.hid (by first | omega | (simp only []; omega) | (simp; omega))
  clear e1
  have c0_0 := HB0_1.out.cell 0 rfl
  go_wp2
  go_ret
  exact ⟨rfl, HX1.out⟩

set_option maxRecDepth 100000 in
set_option maxHeartbeats 2000000 in
theorem lnorm_1 (n : V3) (w : World) (g : Gd w) (hn : VB 200 n) (h0 : n.x = 0) (h1 : n.y ≠ 0) : Calls Tryz.prog 18 #[.agg #[.string (qs n.x), .string (qs n.y), .string (qs n.z)]] w (Ret w (.int .i64 0)) := by
  have HN := Lib.hid hn
  have HG := Lib.hid g
  clear hn g
  have h0_t := qs_is0 h0
  have h1_t := qs_not0 h1
  clear h0 h1
  go_enter Tryz.func18, Tryz.ntmps18
  go_wp2_with fail
  refine (right15_b [qs n.x, qs n.y, qs n.z] 3 (w.heap.size + 1) true _ (HG.out.ext (((Ext.refl w).alloc _).alloc _)) rfl (by decide) (sizes3 HN.out.ts.x HN.out.ts.y HN.out.ts.z) HN.out.all (Blk.new' (w := _) (cs := #[.string (qs n.x), .string (qs n.y), .string (qs n.z)]) (t := 22) (by first | rfl | (simp only [World.size_alloc]; done) | (simp only [World.size_alloc]; omega) | simp))).mono ?_; rintro e w1 ⟨rfl, e1⟩
  have HX1 : Hid (Ext w w1) := Lib.hid ((((Ext.refl w).alloc _).alloc _).trans e1)
  have HB0_1 : Hid (Blk w1 (w.heap.size) #[.string (qs n.x), .string (qs n.y), .string (qs n.z)] 37) := Lib.hid (Blk.ext ((Blk.new' (w := _) (cs := #[.string (qs n.x), .string (qs n.y), .string (qs n.z)]) (t := 37) (by first | rfl | (simp only [World.size_alloc]; done) | (simp only [World.size_alloc]; omega) | simp)).alloc _) e1)
  have HB1_1 : Hid (Blk w1 (w.heap.size + 1) #[.string (qs n.x), .string (qs n.y), .string (qs n.z)] 22) := Lib.hid (Blk.ext (Blk.new' (w := _) (cs := #[.string (qs n.x), .string (qs n.y), .string (qs n.z)]) (t := 22) (by first | rfl | (simp only [World.size_alloc]; done) | (simp only [World.size_alloc]; omega) | simp)) e1)
  have HGEB0 : Hid (w.heap.size ≤ w.heap.size) := Lib.hid (by first | omega | (simp only []; omega) | (simp; omega))
  have HGEB1 : Hid (w.heap.size ≤ w.heap.size + 1) := Lib.hid (by first | omega | (simp only []; omega) | (simp; omega))
  clear e1
  have c0_0 := HB0_1.out.cell 0 rfl
  have c0_1 := HB0_1.out.cell 1 rfl
  go_wp2
  go_ret
  exact ⟨rfl, HX1.out⟩

set_option maxRecDepth 100000 in
set_option maxHeartbeats 2000000 in
theorem lnorm_2 (n : V3) (w : World) (g : Gd w) (hn : VB 200 n) (h0 : n.x = 0) (h1 : n.y = 0) (h2 : n.z ≠ 0) : Calls Tryz.prog 18 #[.agg #[.string (qs n.x), .string (qs n.y), .string (qs n.z)]] w (Ret w (.int .i64 0)) := by
  have HN := Lib.hid hn
  have HG := Lib.hid g
  clear hn g
  have h0_t := qs_is0 h0
  have h1_t := qs_is0 h1
  have h2_t := qs_not0 h2
  clear h0 h1 h2
  go_enter Tryz.func18, Tryz.ntmps18
  go_wp2_with fail
  refine (right15_b [qs n.x, qs n.y, qs n.z] 3 (w.heap.size + 1) true _ (HG.out.ext (((Ext.refl w).alloc _).alloc _)) rfl (by decide) (sizes3 HN.out.ts.x HN.out.ts.y HN.out.ts.z) HN.out.all (Blk.new' (w := _) (cs := #[.string (qs n.x), .string (qs n.y), .string (qs n.z)]) (t := 22) (by first | rfl | (simp only [World.size_alloc]; done) | (simp only [World.size_alloc]; omega) | simp))).mono ?_; rintro e w1 ⟨rfl, e1⟩
  have HX1 : Hid (Ext w w1) := Lib.hid ((((Ext.refl w).alloc _).alloc _).trans e1)
  have HB0_1 : Hid (Blk w1 (w.heap.size) #[.string (qs n.x), .string (qs n.y), .string (qs n.z)] 37) := Lib.hid (Blk.ext ((Blk.new' (w := _) (cs := #[.string (qs n.x), .string (qs n.y), .string (qs n.z)]) (t := 37) (by first | rfl | (simp only [World.size_alloc]; done) | (simp only [World.size_alloc]; omega) | simp)).alloc _) e1)
  have HB1_1 : Hid (Blk w1 (w.heap.size + 1) #[.string (qs n.x), .string (qs n.y), .string (qs n.z)] 22) := Lib.hid (Blk.ext (Blk.new' (w := _) (cs := #[.string (qs n.x), .string (qs n.y), .string (qs n.z)]) (t := 22) (by first | rfl | (simp only [World.size_alloc]; done) | (simp only [World.size_alloc]; omega) | simp)) e1)
  have HGEB0 : Hid (w.heap.size ≤ w.heap.size) := Lib.hid (by first | omega | (simp only []; omega) | (simp; omega))
  have HGEB1 : Hid (w.heap.size ≤ w.heap.size + 1) := Lib.hid (by first | omega | (simp only []; omega) | (simp; omega))
  clear e1
  have c0_0 := HB0_1.out.cell 0 rfl
  have c0_1 := HB0_1.out.cell 1 rfl
  have c0_2 := HB0_1.out.cell 2 rfl
  go_wp2
  go_ret
  exact ⟨rfl, HX1.out⟩

set_option maxRecDepth 100000 in
set_option maxHeartbeats 2000000 in
theorem lnorm_z (n : V3) (w : World) (g : Gd w) (hn : VB 200 n) (h0 : n.x = 0) (h1 : n.y = 0) (h2 : n.z = 0) : Calls Tryz.prog 18 #[.agg #[.string (qs n.x), .string (qs n.y), .string (qs n.z)]] w (Ret w (.int .i64 17)) := by
  have HN := Lib.hid hn
  have HG := Lib.hid g
  clear hn g
  have h0_t := qs_is0 h0
  have h1_t := qs_is0 h1
  have h2_t := qs_is0 h2
  clear h0 h1 h2
  go_enter Tryz.func18, Tryz.ntmps18
  go_wp2_with fail
  refine (right15_b [qs n.x, qs n.y, qs n.z] 3 (w.heap.size + 1) true _ (HG.out.ext (((Ext.refl w).alloc _).alloc _)) rfl (by decide) (sizes3 HN.out.ts.x HN.out.ts.y HN.out.ts.z) HN.out.all (Blk.new' (w := _) (cs := #[.string (qs n.x), .string (qs n.y), .string (qs n.z)]) (t := 22) (by first | rfl | (simp only [World.size_alloc]; done) | (simp only [World.size_alloc]; omega) | simp))).mono ?_; rintro e w1 ⟨rfl, e1⟩
  have HX1 : Hid (Ext w w1) := Lib.hid ((((Ext.refl w).alloc _).alloc _).trans e1)
  have HB0_1 : Hid (Blk w1 (w.heap.size) #[.string (qs n.x), .string (qs n.y), .string (qs n.z)] 37) := Lib.hid (Blk.ext ((Blk.new' (w := _) (cs := #[.string (qs n.x), .string (qs n.y), .string (qs n.z)]) (t := 37) (by first | rfl | (simp only [World.size_alloc]; done) | (simp only [World.size_alloc]; omega) | simp)).alloc _) e1)
  have HB1_1 : Hid (Blk w1 (w.heap.size + 1) #[.string (qs n.x), .string (qs n.y), .string (qs n.z)] 22) := Lib.hid (Blk.ext (Blk.new' (w := _) (cs := #[.string (qs n.x), .string (qs n.y), .string (qs n.z)]) (t := 22) (by first | rfl | (simp only [World.size_alloc]; done) | (simp only [World.size_alloc]; omega) | simp)) e1)
  have HGEB0 : Hid (w.heap.size ≤ w.heap.size) := Lib.hid (by first | omega | (simp only []; omega) | (simp; omega))
  have HGEB1 : Hid (w.heap.size ≤ w.heap.size + 1) := Lib.hid (by first | omega | (simp only []; omega) | (simp; omega))
  clear e1
  have c0_0 := HB0_1.out.cell 0 rfl
  have c0_1 := HB0_1.out.cell 1 rfl
  have c0_2 := HB0_1.out.cell 2 rfl
  go_wp2
  go_ret
  exact ⟨rfl, HX1.out⟩

theorem lnorm_ok (n : V3) (w : World) (g : Gd w) (hn : VB 200 n) (h : ¬ (n.x = 0 ∧ n.y = 0 ∧ n.z = 0)) : Calls Tryz.prog 18 #[vv n] w (Ret w (.int .i64 0)) := by
  by_cases h0 : n.x = 0
  · by_cases h1 : n.y = 0
    · exact lnorm_2 n w g hn h0 h1 (fun e => h ⟨h0, h1, e⟩)
    · exact lnorm_1 n w g hn h0 h1
  · exact lnorm_0 n w g hn h0

end Go.Proofs.YtplimbgaoengfaaGreatDoor

namespace Go.Proofs.YtplimbgaoengfaaGreatDoor
open Go Go.RowKit
theorem qb_of_size {q : Rat} {k : Nat} (h : (qs q).size ≤ k) : QB k q := by
  rw [qs_size] at h
  by_cases hd : q.den = 1
  · rw [ql_one hd] at h
    refine ⟨lt_of_zl_len h, ?_⟩
    have := List.length_pos_iff.2 (zl_ne q.num)
    rw [hd]
    exact Nat.one_lt_pow (by omega) (by decide)
  · rw [ql_frac hd, List.length_append, List.length_cons] at h
    exact ⟨lt_of_zl_len (by omega), lt_of_dec_len (by omega)⟩
end Go.Proofs.YtplimbgaoengfaaGreatDoor
