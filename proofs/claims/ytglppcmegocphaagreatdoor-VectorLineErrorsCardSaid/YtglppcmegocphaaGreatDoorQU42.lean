/- Part 42 of the proof: V1, V4, V10. -/
import Derived.Test.YtglppcmegocphaaGreatDoorQU1
import Derived.Test.YtglppcmegocphaaGreatDoorQU2
import Derived.Test.YtglppcmegocphaaGreatDoorQU3
import Derived.Test.YtglppcmegocphaaGreatDoorQU4
import Derived.Test.YtglppcmegocphaaGreatDoorQU5
import Derived.Test.YtglppcmegocphaaGreatDoorQU6
import Derived.Test.YtglppcmegocphaaGreatDoorQU7
import Derived.Test.YtglppcmegocphaaGreatDoorQU8
import Derived.Test.YtglppcmegocphaaGreatDoorQU9
import Derived.Test.YtglppcmegocphaaGreatDoorQU10
import Derived.Test.YtglppcmegocphaaGreatDoorQU11
import Derived.Test.YtglppcmegocphaaGreatDoorQU12
import Derived.Test.YtglppcmegocphaaGreatDoorQU13
import Derived.Test.YtglppcmegocphaaGreatDoorQU14
import Derived.Test.YtglppcmegocphaaGreatDoorQU15
import Derived.Test.YtglppcmegocphaaGreatDoorQU16
import Derived.Test.YtglppcmegocphaaGreatDoorQU17
import Derived.Test.YtglppcmegocphaaGreatDoorQU18
import Derived.Test.YtglppcmegocphaaGreatDoorQU19
import Derived.Test.YtglppcmegocphaaGreatDoorQU20
import Derived.Test.YtglppcmegocphaaGreatDoorQU21
import Derived.Test.YtglppcmegocphaaGreatDoorQU22
import Derived.Test.YtglppcmegocphaaGreatDoorQU23
import Derived.Test.YtglppcmegocphaaGreatDoorQU24
import Derived.Test.YtglppcmegocphaaGreatDoorQU32
import Derived.Test.YtglppcmegocphaaGreatDoorQU34
import Derived.Test.YtglppcmegocphaaGreatDoorQU35
import Derived.Test.YtglppcmegocphaaGreatDoorQU36
import Derived.Test.YtglppcmegocphaaGreatDoorQU37
namespace Go.Proofs.YtglppcmegocphaaGreatDoor
open Go Go.RowKit
theorem numbers3_c (a b c : ByteArray) (kb : Nat) (w : World) (g : Gd w) (ha : a.size ≤ 1000000) (hb : b.size ≤ 1000000) (hc : c.size ≤ 1000000) (hB : Blk w kb #[.string a, .string b, .string c] 28) : Calls Tryz.prog 94 #[.slice (some ⟨kb, 0, none⟩) 3 3] w (Ret w (.int .i64 (terr [a, b, c]))) :=
  numbers_c [a, b, c] kb 3 3 w g rfl (by decide) (fun i hi => match i, hi with | 0, _ => ha | 1, _ => hb | 2, _ => hc) hB.lt (fun i hi => match i, hi with | 0, _ => hB.cell 0 rfl | 1, _ => hB.cell 1 rfl | 2, _ => hB.cell 2 rfl)
theorem numbers3_ok (a b c : Rat) (kb : Nat) (w : World) (g : Gd w) (ha : QB 200 a) (hb : QB 200 b) (hc : QB 200 c) (hB : Blk w kb #[.string (qs a), .string (qs b), .string (qs c)] 28) : Calls Tryz.prog 94 #[.slice (some ⟨kb, 0, none⟩) 3 3] w (Ret w (.int .i64 0)) := by
  have := numbers3_c (qs a) (qs b) (qs c) kb w g (ha.len (by decide)) (hb.len (by decide)) (hc.len (by decide)) hB
  rwa [show terr [qs a, qs b, qs c] = 0 from terr_0 (by simp only [List.all_cons, List.all_nil, rq_qs ha, rq_qs hb, rq_qs hc]; rfl)] at this

end Go.Proofs.YtglppcmegocphaaGreatDoor

namespace Go.Proofs.YtglppcmegocphaaGreatDoor
open Go Go.RowKit
set_option maxRecDepth 100000 in
set_option maxHeartbeats 2000000 in
theorem vLine_0 (l : V3) (w : World) (g : Gd w) (hl : VB 200 l) (h0 : l.x ≠ 0) : Calls Tryz.prog 98 #[.agg #[.string (qs l.x), .string (qs l.y), .string (qs l.z)]] w (Ret w (.int .i64 0)) := by
  have HL := Lib.hid hl
  have HG := Lib.hid g
  clear hl g
  have h0_t := qs_not0 h0
  go_enter Tryz.func98, Tryz.ntmps98
  go_wp2_with fail
  refine (numbers3_ok l.x l.y l.z (w.heap.size + 1) _ (HG.out.ext (((Ext.refl w).alloc _).alloc _)) HL.out.x HL.out.y HL.out.z (Blk.new' (w := _) (cs := #[.string (qs l.x), .string (qs l.y), .string (qs l.z)]) (t := 28) (by first | rfl | (simp only [World.size_alloc]; done) | (simp only [World.size_alloc]; omega) | simp))).mono ?_; rintro e w1 ⟨rfl, e1⟩
  have HX1 : Hid (Ext w w1) := Lib.hid ((((Ext.refl w).alloc _).alloc _).trans e1)
  have HB0_1 : Hid (Blk w1 (w.heap.size) #[.string (qs l.x), .string (qs l.y), .string (qs l.z)] 73) := Lib.hid (Blk.ext ((Blk.new' (w := _) (cs := #[.string (qs l.x), .string (qs l.y), .string (qs l.z)]) (t := 73) (by first | rfl | (simp only [World.size_alloc]; done) | (simp only [World.size_alloc]; omega) | simp)).alloc _) e1)
  have HB1_1 : Hid (Blk w1 (w.heap.size + 1) #[.string (qs l.x), .string (qs l.y), .string (qs l.z)] 28) := Lib.hid (Blk.ext (Blk.new' (w := _) (cs := #[.string (qs l.x), .string (qs l.y), .string (qs l.z)]) (t := 28) (by first | rfl | (simp only [World.size_alloc]; done) | (simp only [World.size_alloc]; omega) | simp)) e1)
  have HGEB0 : Hid (w.heap.size ≤ w.heap.size) := Lib.hid (by first | omega | (simp only []; omega) | (simp; omega))
  have HGEB1 : Hid (w.heap.size ≤ w.heap.size + 1) := Lib.hid (by first | omega | (simp only []; omega) | (simp; omega))
  clear e1
  have c0_0 := HB0_1.out.cell 0 rfl
  go_wp2
  go_ret
  exact ⟨rfl, HX1.out⟩

set_option maxRecDepth 100000 in
set_option maxHeartbeats 2000000 in
theorem vLine_1 (l : V3) (w : World) (g : Gd w) (hl : VB 200 l) (h0 : l.x = 0) (h1 : l.y ≠ 0) : Calls Tryz.prog 98 #[.agg #[.string (qs l.x), .string (qs l.y), .string (qs l.z)]] w (Ret w (.int .i64 0)) := by
  have HL := Lib.hid hl
  have HG := Lib.hid g
  clear hl g
  have h0_t := qs_is0 h0
  have h1_t := qs_not0 h1
  clear h0
  go_enter Tryz.func98, Tryz.ntmps98
  go_wp2_with fail
  refine (numbers3_ok l.x l.y l.z (w.heap.size + 1) _ (HG.out.ext (((Ext.refl w).alloc _).alloc _)) HL.out.x HL.out.y HL.out.z (Blk.new' (w := _) (cs := #[.string (qs l.x), .string (qs l.y), .string (qs l.z)]) (t := 28) (by first | rfl | (simp only [World.size_alloc]; done) | (simp only [World.size_alloc]; omega) | simp))).mono ?_; rintro e w1 ⟨rfl, e1⟩
  have HX1 : Hid (Ext w w1) := Lib.hid ((((Ext.refl w).alloc _).alloc _).trans e1)
  have HB0_1 : Hid (Blk w1 (w.heap.size) #[.string (qs l.x), .string (qs l.y), .string (qs l.z)] 73) := Lib.hid (Blk.ext ((Blk.new' (w := _) (cs := #[.string (qs l.x), .string (qs l.y), .string (qs l.z)]) (t := 73) (by first | rfl | (simp only [World.size_alloc]; done) | (simp only [World.size_alloc]; omega) | simp)).alloc _) e1)
  have HB1_1 : Hid (Blk w1 (w.heap.size + 1) #[.string (qs l.x), .string (qs l.y), .string (qs l.z)] 28) := Lib.hid (Blk.ext (Blk.new' (w := _) (cs := #[.string (qs l.x), .string (qs l.y), .string (qs l.z)]) (t := 28) (by first | rfl | (simp only [World.size_alloc]; done) | (simp only [World.size_alloc]; omega) | simp)) e1)
  have HGEB0 : Hid (w.heap.size ≤ w.heap.size) := Lib.hid (by first | omega | (simp only []; omega) | (simp; omega))
  have HGEB1 : Hid (w.heap.size ≤ w.heap.size + 1) := Lib.hid (by first | omega | (simp only []; omega) | (simp; omega))
  clear e1
  have c0_0 := HB0_1.out.cell 0 rfl
  have c0_1 := HB0_1.out.cell 1 rfl
  go_wp2
  go_ret
  exact ⟨rfl, HX1.out⟩

set_option maxRecDepth 100000 in
set_option maxHeartbeats 2000000 in
theorem vLine_zero (l : V3) (w : World) (g : Gd w) (hl : VB 200 l) (h0 : l.x = 0) (h1 : l.y = 0) : Calls Tryz.prog 98 #[.agg #[.string (qs l.x), .string (qs l.y), .string (qs l.z)]] w (Ret w (.int .i64 17)) := by
  have HL := Lib.hid hl
  have HG := Lib.hid g
  clear hl g
  have h0_t := qs_is0 h0
  have h1_t := qs_is0 h1
  clear h0 h1
  go_enter Tryz.func98, Tryz.ntmps98
  go_wp2_with fail
  refine (numbers3_ok l.x l.y l.z (w.heap.size + 1) _ (HG.out.ext (((Ext.refl w).alloc _).alloc _)) HL.out.x HL.out.y HL.out.z (Blk.new' (w := _) (cs := #[.string (qs l.x), .string (qs l.y), .string (qs l.z)]) (t := 28) (by first | rfl | (simp only [World.size_alloc]; done) | (simp only [World.size_alloc]; omega) | simp))).mono ?_; rintro e w1 ⟨rfl, e1⟩
  have HX1 : Hid (Ext w w1) := Lib.hid ((((Ext.refl w).alloc _).alloc _).trans e1)
  have HB0_1 : Hid (Blk w1 (w.heap.size) #[.string (qs l.x), .string (qs l.y), .string (qs l.z)] 73) := Lib.hid (Blk.ext ((Blk.new' (w := _) (cs := #[.string (qs l.x), .string (qs l.y), .string (qs l.z)]) (t := 73) (by first | rfl | (simp only [World.size_alloc]; done) | (simp only [World.size_alloc]; omega) | simp)).alloc _) e1)
  have HB1_1 : Hid (Blk w1 (w.heap.size + 1) #[.string (qs l.x), .string (qs l.y), .string (qs l.z)] 28) := Lib.hid (Blk.ext (Blk.new' (w := _) (cs := #[.string (qs l.x), .string (qs l.y), .string (qs l.z)]) (t := 28) (by first | rfl | (simp only [World.size_alloc]; done) | (simp only [World.size_alloc]; omega) | simp)) e1)
  have HGEB0 : Hid (w.heap.size ≤ w.heap.size) := Lib.hid (by first | omega | (simp only []; omega) | (simp; omega))
  have HGEB1 : Hid (w.heap.size ≤ w.heap.size + 1) := Lib.hid (by first | omega | (simp only []; omega) | (simp; omega))
  clear e1
  have c0_0 := HB0_1.out.cell 0 rfl
  have c0_1 := HB0_1.out.cell 1 rfl
  go_wp2
  go_ret
  exact ⟨rfl, HX1.out⟩

theorem vLine_ok (l : V3) (w : World) (g : Gd w) (hl : VB 200 l) (h : ¬ (l.x = 0 ∧ l.y = 0)) : Calls Tryz.prog 98 #[vv l] w (Ret w (.int .i64 0)) := by
  by_cases h0 : l.x = 0
  · exact vLine_1 l w g hl h0 (fun e => h ⟨h0, e⟩)
  · exact vLine_0 l w g hl h0
end Go.Proofs.YtglppcmegocphaaGreatDoor

namespace Go.Proofs.YtglppcmegocphaaGreatDoor
open Go Go.RowKit
noncomputable def lerr (t : T3) : Int := if t.l.all rq then (if t.x = ⟨#[48]⟩ ∧ t.y = ⟨#[48]⟩ then 17 else 0) else 2
theorem lerr_2 {t : T3} (h : t.l.all rq = false) : lerr t = 2 := by unfold lerr; simp [h]
theorem lerr_q {v : V3} (h : VB 200 v) : lerr ⟨qs v.x, qs v.y, qs v.z⟩ = if v.x = 0 ∧ v.y = 0 then 17 else 0 := by
  unfold lerr
  rw [if_pos h.all]
  have e : ∀ q : Rat, (qs q = ⟨#[48]⟩) = (q = 0) := fun q => propext ⟨fun e => by rw [← qs_zero] at e; exact ql_inj (by rw [← qs_toList, ← qs_toList, e]), fun e => by rw [e, qs_zero]⟩
  simp only [e]
theorem right_v {t : T3} (h : t.l.all rq = true) : ∃ v : V3, t = ⟨qs v.x, qs v.y, qs v.z⟩ ∧ VB 200 v := by
  simp only [T3.l, List.all_cons, List.all_nil, Bool.and_true, Bool.and_eq_true] at h
  obtain ⟨x, ex, hx⟩ := right_q h.1; obtain ⟨y, ey, hy⟩ := right_q h.2.1; obtain ⟨z, ez, hz⟩ := right_q h.2.2
  refine ⟨⟨x, y, z⟩, ?_, hx, hy, hz⟩
  cases t
  simp only at ex ey ez
  rw [ex, ey, ez]
set_option maxRecDepth 100000 in
set_option maxHeartbeats 2000000 in
theorem vLine_e (a : T3) (w : World) (g : Gd w) (ha : TS a) (he : terr [a.x, a.y, a.z] = 2) : Calls Tryz.prog 98 #[.agg #[.string a.x, .string a.y, .string a.z]] w (Ret w (.int .i64 2)) := by
  have HA := Lib.hid ha
  have HE := Lib.hid he
  have HG := Lib.hid g
  clear ha he g
  go_enter Tryz.func98, Tryz.ntmps98
  go_wp2_with fail
  refine ((HE.out ▸ numbers3_c a.x a.y a.z (w.heap.size + 1) _ (HG.out.ext (((Ext.refl w).alloc _).alloc _)) HA.out.x HA.out.y HA.out.z (Blk.new' (w := _) (cs := #[.string a.x, .string a.y, .string a.z]) (t := 28) (by first | rfl | (simp only [World.size_alloc]; done) | (simp only [World.size_alloc]; omega) | simp)))).mono ?_; rintro e w1 ⟨rfl, e1⟩
  have HX1 : Hid (Ext w w1) := Lib.hid ((((Ext.refl w).alloc _).alloc _).trans e1)
  have HB1_1 : Hid (Blk w1 (w.heap.size + 1) #[.string a.x, .string a.y, .string a.z] 28) := Lib.hid (Blk.ext (Blk.new' (w := _) (cs := #[.string a.x, .string a.y, .string a.z]) (t := 28) (by first | rfl | (simp only [World.size_alloc]; done) | (simp only [World.size_alloc]; omega) | simp)) e1)
  have HGEB1 : Hid (w.heap.size ≤ w.heap.size + 1) := Lib.hid (by first | omega | (simp only []; omega) | (simp; omega))
  clear e1
  go_wp2
  go_ret
  exact ⟨rfl, HX1.out⟩

theorem vLine_t (a : T3) (w : World) (g : Gd w) (ha : TS a) : Calls Tryz.prog 98 #[tv a] w (Ret w (.int .i64 (lerr a))) := by
  cases h : a.l.all rq with
  | false => rw [lerr_2 h]; exact vLine_e a w g ha (terr_2 h)
  | true =>
    obtain ⟨v, rfl, hv⟩ := right_v h
    rw [lerr_q hv]
    by_cases h0 : v.x = 0 ∧ v.y = 0
    · rw [if_pos h0]; exact vLine_zero v w g hv h0.1 h0.2
    · rw [if_neg h0]; exact vLine_ok v w g hv h0

set_option maxRecDepth 100000 in
set_option maxHeartbeats 2000000 in
theorem ofl_e0 (a : T3) (w : World) (g : Gd w) (ha : TS a)  (hx : rq a.x = false) : Calls Tryz.prog 48 #[.agg #[.string a.x, .string a.y, .string a.z]] w (Ret w (.int .i64 2)) := by
  have HA := Lib.hid ha
  have HG := Lib.hid g
  have Hx := Lib.hid hx
  clear ha g hx
  go_enter Tryz.func48, Tryz.ntmps48
  go_wp2_with fail
  refine (fright_no a.x _ (HG.out.ext ((Ext.refl w).alloc _)) HA.out.x Hx.out).mono ?_; rintro e w1 ⟨rfl, e1⟩
  have HX1 : Hid (Ext w w1) := Lib.hid (((Ext.refl w).alloc _).trans e1)
  clear e1
  go_wp2
  go_ret
  exact ⟨rfl, HX1.out⟩

set_option maxRecDepth 100000 in
set_option maxHeartbeats 2000000 in
theorem ofl_e1 (a : T3) (w : World) (g : Gd w) (ha : TS a) (hx : rq a.x = true) (hy : rq a.y = false) : Calls Tryz.prog 48 #[.agg #[.string a.x, .string a.y, .string a.z]] w (Ret w (.int .i64 2)) := by
  have HA := Lib.hid ha
  have HG := Lib.hid g
  have Hx := Lib.hid hx
  have Hy := Lib.hid hy
  clear ha g hx hy
  go_enter Tryz.func48, Tryz.ntmps48
  go_wp2_with fail
  refine (fright_yes a.x _ (HG.out.ext ((Ext.refl w).alloc _)) HA.out.x Hx.out).mono ?_; rintro e w1 ⟨rfl, e1⟩
  have HX1 : Hid (Ext w w1) := Lib.hid (((Ext.refl w).alloc _).trans e1)
  have HB0_1 : Hid (Blk w1 (w.heap.size) #[.string a.x, .string a.y, .string a.z] 73) := Lib.hid (Blk.ext (Blk.new' (w := _) (cs := #[.string a.x, .string a.y, .string a.z]) (t := 73) (by first | rfl | (simp only [World.size_alloc]; done) | (simp only [World.size_alloc]; omega) | simp)) e1)
  have HGEB0 : Hid (w.heap.size ≤ w.heap.size) := Lib.hid (by first | omega | (simp only []; omega) | (simp; omega))
  clear e1
  have c0_1 := HB0_1.out.cell 1 rfl
  go_wp2_with fail
  refine (fright_no a.y _ (HG.out.ext HX1.out) HA.out.y Hy.out).mono ?_; rintro e w2 ⟨rfl, e2⟩
  have HX2 : Hid (Ext w w2) := Lib.hid (HX1.out.trans e2)
  clear e2 c0_1
  go_wp2
  go_ret
  exact ⟨rfl, HX2.out⟩

set_option maxRecDepth 100000 in
set_option maxHeartbeats 2000000 in
theorem ofl_e2 (a : T3) (w : World) (g : Gd w) (ha : TS a) (hx : rq a.x = true) (hy : rq a.y = true) (hz : rq a.z = false) : Calls Tryz.prog 48 #[.agg #[.string a.x, .string a.y, .string a.z]] w (Ret w (.int .i64 2)) := by
  have HA := Lib.hid ha
  have HG := Lib.hid g
  have Hx := Lib.hid hx
  have Hy := Lib.hid hy
  have Hz := Lib.hid hz
  clear ha g hx hy hz
  go_enter Tryz.func48, Tryz.ntmps48
  go_wp2_with fail
  refine (fright_yes a.x _ (HG.out.ext ((Ext.refl w).alloc _)) HA.out.x Hx.out).mono ?_; rintro e w1 ⟨rfl, e1⟩
  have HX1 : Hid (Ext w w1) := Lib.hid (((Ext.refl w).alloc _).trans e1)
  have HB0_1 : Hid (Blk w1 (w.heap.size) #[.string a.x, .string a.y, .string a.z] 73) := Lib.hid (Blk.ext (Blk.new' (w := _) (cs := #[.string a.x, .string a.y, .string a.z]) (t := 73) (by first | rfl | (simp only [World.size_alloc]; done) | (simp only [World.size_alloc]; omega) | simp)) e1)
  have HGEB0 : Hid (w.heap.size ≤ w.heap.size) := Lib.hid (by first | omega | (simp only []; omega) | (simp; omega))
  clear e1
  have c0_1 := HB0_1.out.cell 1 rfl
  go_wp2_with fail
  refine (fright_yes a.y _ (HG.out.ext HX1.out) HA.out.y Hy.out).mono ?_; rintro e w2 ⟨rfl, e2⟩
  have HX2 : Hid (Ext w w2) := Lib.hid (HX1.out.trans e2)
  have HB0_2 := Lib.hid (Blk.ext HB0_1.out e2)
  clear e2 c0_1
  have c0_2 := HB0_2.out.cell 2 rfl
  go_wp2_with fail
  refine (fright_no a.z _ (HG.out.ext HX2.out) HA.out.z Hz.out).mono ?_; rintro e w3 ⟨rfl, e3⟩
  have HX3 : Hid (Ext w w3) := Lib.hid (HX2.out.trans e3)
  clear e3 c0_2
  go_wp2
  go_ret
  exact ⟨rfl, HX3.out⟩

set_option maxRecDepth 100000 in
set_option maxHeartbeats 2000000 in
theorem ofl_0 (l : V3) (w : World) (g : Gd w) (hl : VB 200 l) (h0 : l.x ≠ 0) : Calls Tryz.prog 48 #[.agg #[.string (qs l.x), .string (qs l.y), .string (qs l.z)]] w (Ret w (.int .i64 0)) := by
  have HL := Lib.hid hl
  have HG := Lib.hid g
  clear hl g
  have h0_t := qs_not0 h0
  go_enter Tryz.func48, Tryz.ntmps48
  go_wp2_with fail
  refine (fright_yes (qs l.x) _ (HG.out.ext ((Ext.refl w).alloc _)) (HL.out.x.len (by decide)) (rq_qs HL.out.x)).mono ?_; rintro e w1 ⟨rfl, e1⟩
  have HX1 : Hid (Ext w w1) := Lib.hid (((Ext.refl w).alloc _).trans e1)
  have HB0_1 : Hid (Blk w1 (w.heap.size) #[.string (qs l.x), .string (qs l.y), .string (qs l.z)] 73) := Lib.hid (Blk.ext (Blk.new' (w := _) (cs := #[.string (qs l.x), .string (qs l.y), .string (qs l.z)]) (t := 73) (by first | rfl | (simp only [World.size_alloc]; done) | (simp only [World.size_alloc]; omega) | simp)) e1)
  have HGEB0 : Hid (w.heap.size ≤ w.heap.size) := Lib.hid (by first | omega | (simp only []; omega) | (simp; omega))
  clear e1
  have c0_1 := HB0_1.out.cell 1 rfl
  go_wp2_with fail
  refine (fright_yes (qs l.y) _ (HG.out.ext HX1.out) (HL.out.y.len (by decide)) (rq_qs HL.out.y)).mono ?_; rintro e w2 ⟨rfl, e2⟩
  have HX2 : Hid (Ext w w2) := Lib.hid (HX1.out.trans e2)
  have HB0_2 := Lib.hid (Blk.ext HB0_1.out e2)
  clear e2 c0_1
  have c0_2 := HB0_2.out.cell 2 rfl
  go_wp2_with fail
  refine (fright_yes (qs l.z) _ (HG.out.ext HX2.out) (HL.out.z.len (by decide)) (rq_qs HL.out.z)).mono ?_; rintro e w3 ⟨rfl, e3⟩
  have HX3 : Hid (Ext w w3) := Lib.hid (HX2.out.trans e3)
  have HB0_3 := Lib.hid (Blk.ext HB0_2.out e3)
  clear e3 c0_2
  have c0_0 := HB0_3.out.cell 0 rfl
  go_wp2
  go_ret
  exact ⟨rfl, HX3.out⟩

set_option maxRecDepth 100000 in
set_option maxHeartbeats 2000000 in
theorem ofl_1 (l : V3) (w : World) (g : Gd w) (hl : VB 200 l) (h0 : l.x = 0) (h1 : l.y ≠ 0) : Calls Tryz.prog 48 #[.agg #[.string (qs l.x), .string (qs l.y), .string (qs l.z)]] w (Ret w (.int .i64 0)) := by
  have HL := Lib.hid hl
  have HG := Lib.hid g
  clear hl g
  have h0_t := qs_is0 h0
  have h1_t := qs_not0 h1
  clear h0
  go_enter Tryz.func48, Tryz.ntmps48
  go_wp2_with fail
  refine (fright_yes (qs l.x) _ (HG.out.ext ((Ext.refl w).alloc _)) (HL.out.x.len (by decide)) (rq_qs HL.out.x)).mono ?_; rintro e w1 ⟨rfl, e1⟩
  have HX1 : Hid (Ext w w1) := Lib.hid (((Ext.refl w).alloc _).trans e1)
  have HB0_1 : Hid (Blk w1 (w.heap.size) #[.string (qs l.x), .string (qs l.y), .string (qs l.z)] 73) := Lib.hid (Blk.ext (Blk.new' (w := _) (cs := #[.string (qs l.x), .string (qs l.y), .string (qs l.z)]) (t := 73) (by first | rfl | (simp only [World.size_alloc]; done) | (simp only [World.size_alloc]; omega) | simp)) e1)
  have HGEB0 : Hid (w.heap.size ≤ w.heap.size) := Lib.hid (by first | omega | (simp only []; omega) | (simp; omega))
  clear e1
  have c0_1 := HB0_1.out.cell 1 rfl
  go_wp2_with fail
  refine (fright_yes (qs l.y) _ (HG.out.ext HX1.out) (HL.out.y.len (by decide)) (rq_qs HL.out.y)).mono ?_; rintro e w2 ⟨rfl, e2⟩
  have HX2 : Hid (Ext w w2) := Lib.hid (HX1.out.trans e2)
  have HB0_2 := Lib.hid (Blk.ext HB0_1.out e2)
  clear e2 c0_1
  have c0_2 := HB0_2.out.cell 2 rfl
  go_wp2_with fail
  refine (fright_yes (qs l.z) _ (HG.out.ext HX2.out) (HL.out.z.len (by decide)) (rq_qs HL.out.z)).mono ?_; rintro e w3 ⟨rfl, e3⟩
  have HX3 : Hid (Ext w w3) := Lib.hid (HX2.out.trans e3)
  have HB0_3 := Lib.hid (Blk.ext HB0_2.out e3)
  clear e3 c0_2
  have c0_0 := HB0_3.out.cell 0 rfl
  have c0_1 := HB0_3.out.cell 1 rfl
  go_wp2
  go_ret
  exact ⟨rfl, HX3.out⟩

set_option maxRecDepth 100000 in
set_option maxHeartbeats 2000000 in
theorem ofl_z (l : V3) (w : World) (g : Gd w) (hl : VB 200 l) (h0 : l.x = 0) (h1 : l.y = 0) : Calls Tryz.prog 48 #[.agg #[.string (qs l.x), .string (qs l.y), .string (qs l.z)]] w (Ret w (.int .i64 17)) := by
  have HL := Lib.hid hl
  have HG := Lib.hid g
  clear hl g
  have h0_t := qs_is0 h0
  have h1_t := qs_is0 h1
  clear h0 h1
  go_enter Tryz.func48, Tryz.ntmps48
  go_wp2_with fail
  refine (fright_yes (qs l.x) _ (HG.out.ext ((Ext.refl w).alloc _)) (HL.out.x.len (by decide)) (rq_qs HL.out.x)).mono ?_; rintro e w1 ⟨rfl, e1⟩
  have HX1 : Hid (Ext w w1) := Lib.hid (((Ext.refl w).alloc _).trans e1)
  have HB0_1 : Hid (Blk w1 (w.heap.size) #[.string (qs l.x), .string (qs l.y), .string (qs l.z)] 73) := Lib.hid (Blk.ext (Blk.new' (w := _) (cs := #[.string (qs l.x), .string (qs l.y), .string (qs l.z)]) (t := 73) (by first | rfl | (simp only [World.size_alloc]; done) | (simp only [World.size_alloc]; omega) | simp)) e1)
  have HGEB0 : Hid (w.heap.size ≤ w.heap.size) := Lib.hid (by first | omega | (simp only []; omega) | (simp; omega))
  clear e1
  have c0_1 := HB0_1.out.cell 1 rfl
  go_wp2_with fail
  refine (fright_yes (qs l.y) _ (HG.out.ext HX1.out) (HL.out.y.len (by decide)) (rq_qs HL.out.y)).mono ?_; rintro e w2 ⟨rfl, e2⟩
  have HX2 : Hid (Ext w w2) := Lib.hid (HX1.out.trans e2)
  have HB0_2 := Lib.hid (Blk.ext HB0_1.out e2)
  clear e2 c0_1
  have c0_2 := HB0_2.out.cell 2 rfl
  go_wp2_with fail
  refine (fright_yes (qs l.z) _ (HG.out.ext HX2.out) (HL.out.z.len (by decide)) (rq_qs HL.out.z)).mono ?_; rintro e w3 ⟨rfl, e3⟩
  have HX3 : Hid (Ext w w3) := Lib.hid (HX2.out.trans e3)
  have HB0_3 := Lib.hid (Blk.ext HB0_2.out e3)
  clear e3 c0_2
  have c0_0 := HB0_3.out.cell 0 rfl
  have c0_1 := HB0_3.out.cell 1 rfl
  go_wp2
  go_ret
  exact ⟨rfl, HX3.out⟩

theorem ofl_c (a : T3) (w : World) (g : Gd w) (ha : TS a) : Calls Tryz.prog 48 #[tv a] w (Ret w (.int .i64 (lerr a))) := by
  cases h : a.l.all rq with
  | false =>
    rw [lerr_2 h]
    cases hx : rq a.x with
    | false => exact ofl_e0 a w g ha hx
    | true =>
      cases hy : rq a.y with
      | false => exact ofl_e1 a w g ha hx hy
      | true =>
        cases hz : rq a.z with
        | false => exact ofl_e2 a w g ha hx hy hz
        | true => exact absurd h (by simp [T3.l, hx, hy, hz])
  | true =>
    obtain ⟨v, rfl, hv⟩ := right_v h
    rw [lerr_q hv]
    by_cases h0 : v.x = 0
    · by_cases h1 : v.y = 0
      · rw [if_pos ⟨h0, h1⟩]; exact ofl_z v w g hv h0 h1
      · rw [if_neg (fun e => h1 e.2)]; exact ofl_1 v w g hv h0 h1
    · rw [if_neg (fun e => h0 e.1)]; exact ofl_0 v w g hv h0

set_option maxRecDepth 100000 in
set_option maxHeartbeats 2000000 in
theorem vMeet_a2 (a b : T3) (w : World) (g : Gd w) (ha : TS a) (hb : TS b) (he : lerr a = 2) : Calls Tryz.prog 43 #[.agg #[.string a.x, .string a.y, .string a.z], .agg #[.string b.x, .string b.y, .string b.z]] w (Ret w (.tuple #[.agg #[.string ⟨#[]⟩, .string ⟨#[]⟩], .bool false, .int .i64 2])) := by
  have HA := Lib.hid ha
  have HB := Lib.hid hb
  have HE := Lib.hid he
  have HG := Lib.hid g
  clear ha hb he g
  have ix0 : ∀ W, (Instr.index 129 (.agg #[.string a.x, .string a.y, .string a.z, .string b.x, .string b.y, .string b.z]) (.int .i64 0)).run Tryz.prog W = .ok (.agg #[.string a.x, .string a.y, .string a.z]) W := fun W => by kernel_rfl
  go_enter Tryz.func43, Tryz.ntmps43
  go_wp2_with fail
  refine wp_loop_rounds 3 ?_
  rw [rounds_succ]
  go_wp2_with fail
  refine ((HE.out ▸ vLine_t a _ (HG.out.ext (((((Ext.refl w).alloc _).alloc _).alloc _).alloc _)) HA.out)).mono ?_; rintro e w1 ⟨rfl, e1⟩
  have HX1 : Hid (Ext w w1) := Lib.hid ((((((Ext.refl w).alloc _).alloc _).alloc _).alloc _).trans e1)
  have HB2_1 : Hid (Blk w1 (w.heap.size + 1 + 1) #[.string ⟨#[]⟩, .string ⟨#[]⟩] 62) := Lib.hid (Blk.ext ((Blk.new' (w := _) (cs := #[.string ⟨#[]⟩, .string ⟨#[]⟩]) (t := 62) (by first | rfl | (simp only [World.size_alloc]; done) | (simp only [World.size_alloc]; omega) | simp)).alloc _) e1)
  have HGEB2 : Hid (w.heap.size ≤ w.heap.size + 1 + 1) := Lib.hid (by first | omega | (simp only []; omega) | (simp; omega))
  clear e1
  have c2_0 := HB2_1.out.cell 0 rfl
  have f2_0 := HB2_1.out.free 0
  have c2_1 := HB2_1.out.cell 1 rfl
  have f2_1 := HB2_1.out.free 1
  go_wp2_with fail
  refine wp_name (fun W => Ext w W ∧ Blk W (w.heap.size + 1 + 1) #[.string ⟨#[]⟩, .string ⟨#[]⟩] 62) ⟨((HX1.out.setCell (by have := HGEB2.out; first | omega | (simp only []; omega) | (simp; omega)) _).setCell (by have := HGEB2.out; first | omega | (simp only []; omega) | (simp; omega)) _), ((HB2_1.out.set 0 (.string ⟨#[]⟩)).set 1 (.string ⟨#[]⟩))⟩ ?_
  rintro w2 ⟨e2, bB2_2⟩
  have HX2 := Lib.hid e2; have HB2_2 := Lib.hid bB2_2
  clear e2 bB2_2 c2_0 f2_0 c2_1 f2_1
  have gB2_0 := HB2_2.out.cell 0 rfl
  have gB2_1 := HB2_2.out.cell 1 rfl
  refine bodyPost_ret (v := .tuple #[.agg #[.string ⟨#[]⟩, .string ⟨#[]⟩], .bool false, .int .i64 2]) (by simp [results, Tryz.results43, go_sem, gB2_0, gB2_1]) rfl ⟨rfl, HX2.out⟩

set_option maxRecDepth 100000 in
set_option maxHeartbeats 2000000 in
theorem vMeet_b2 (a b : T3) (w : World) (g : Gd w) (ha : TS a) (hb : TS b) (he : lerr a = 0) (hf : lerr b = 2) : Calls Tryz.prog 43 #[.agg #[.string a.x, .string a.y, .string a.z], .agg #[.string b.x, .string b.y, .string b.z]] w (Ret w (.tuple #[.agg #[.string ⟨#[]⟩, .string ⟨#[]⟩], .bool false, .int .i64 2])) := by
  have HA := Lib.hid ha
  have HB := Lib.hid hb
  have HE := Lib.hid he
  have HF := Lib.hid hf
  have HG := Lib.hid g
  clear ha hb he hf g
  have ix0 : ∀ W, (Instr.index 129 (.agg #[.string a.x, .string a.y, .string a.z, .string b.x, .string b.y, .string b.z]) (.int .i64 0)).run Tryz.prog W = .ok (.agg #[.string a.x, .string a.y, .string a.z]) W := fun W => by kernel_rfl
  have ix1 : ∀ W, (Instr.index 129 (.agg #[.string a.x, .string a.y, .string a.z, .string b.x, .string b.y, .string b.z]) (.int .i64 1)).run Tryz.prog W = .ok (.agg #[.string b.x, .string b.y, .string b.z]) W := fun W => by kernel_rfl
  go_enter Tryz.func43, Tryz.ntmps43
  go_wp2_with fail
  refine wp_loop_rounds 3 ?_
  rw [rounds_succ]
  go_wp2_with fail
  refine ((HE.out ▸ vLine_t a _ (HG.out.ext (((((Ext.refl w).alloc _).alloc _).alloc _).alloc _)) HA.out)).mono ?_; rintro e w1 ⟨rfl, e1⟩
  have HX1 : Hid (Ext w w1) := Lib.hid ((((((Ext.refl w).alloc _).alloc _).alloc _).alloc _).trans e1)
  have HB2_1 : Hid (Blk w1 (w.heap.size + 1 + 1) #[.string ⟨#[]⟩, .string ⟨#[]⟩] 62) := Lib.hid (Blk.ext ((Blk.new' (w := _) (cs := #[.string ⟨#[]⟩, .string ⟨#[]⟩]) (t := 62) (by first | rfl | (simp only [World.size_alloc]; done) | (simp only [World.size_alloc]; omega) | simp)).alloc _) e1)
  have HGEB2 : Hid (w.heap.size ≤ w.heap.size + 1 + 1) := Lib.hid (by first | omega | (simp only []; omega) | (simp; omega))
  clear e1
  go_wp2_with fail
  rw [rounds_succ]
  go_upto_region 4 with fail
  refine wp_name (fun W => Ext w W ∧ Blk W (w.heap.size + 1 + 1) #[.string ⟨#[]⟩, .string ⟨#[]⟩] 62 ∧ Blk W (w1.heap.size) #[.string b.x, .string b.y, .string b.z] 73) ⟨(HX1.out.alloc _), (HB2_1.out.alloc _), (Blk.new' (w := _) (cs := #[.string b.x, .string b.y, .string b.z]) (t := 73) (by first | rfl | (simp only [World.size_alloc]; done) | (simp only [World.size_alloc]; omega) | simp))⟩ ?_
  rintro w2 ⟨e2, bB2_2, bB4_2⟩
  have HX2 := Lib.hid e2; have HB2_2 := Lib.hid bB2_2; have HB4_2 := Lib.hid bB4_2
  have HGEB4 : Hid (w.heap.size ≤ w1.heap.size) := Lib.hid (by have := HX1.out.size; first | omega | (simp only []; omega) | (simp; omega))
  clear e2 bB2_2 bB4_2
  have c4_0 := HB4_2.out.cell 0 rfl
  have c4_1 := HB4_2.out.cell 1 rfl
  have c4_2 := HB4_2.out.cell 2 rfl
  go_wp2_with fail
  refine ((HF.out ▸ vLine_t b _ (HG.out.ext HX2.out) HB.out)).mono ?_; rintro e w3 ⟨rfl, e3⟩
  have HX3 : Hid (Ext w w3) := Lib.hid (HX2.out.trans e3)
  have HB2_3 := Lib.hid (Blk.ext HB2_2.out e3)
  clear e3 c4_0 c4_1 c4_2
  have c2_0 := HB2_3.out.cell 0 rfl
  have f2_0 := HB2_3.out.free 0
  have c2_1 := HB2_3.out.cell 1 rfl
  have f2_1 := HB2_3.out.free 1
  go_wp2_with fail
  refine wp_name (fun W => Ext w W ∧ Blk W (w.heap.size + 1 + 1) #[.string ⟨#[]⟩, .string ⟨#[]⟩] 62) ⟨((HX3.out.setCell (by have := HGEB2.out; first | omega | (simp only []; omega) | (simp; omega)) _).setCell (by have := HGEB2.out; first | omega | (simp only []; omega) | (simp; omega)) _), ((HB2_3.out.set 0 (.string ⟨#[]⟩)).set 1 (.string ⟨#[]⟩))⟩ ?_
  rintro w4 ⟨e4, bB2_4⟩
  have HX4 := Lib.hid e4; have HB2_4 := Lib.hid bB2_4
  clear e4 bB2_4 c2_0 f2_0 c2_1 f2_1
  have gB2_0 := HB2_4.out.cell 0 rfl
  have gB2_1 := HB2_4.out.cell 1 rfl
  refine bodyPost_ret (v := .tuple #[.agg #[.string ⟨#[]⟩, .string ⟨#[]⟩], .bool false, .int .i64 2]) (by simp [results, Tryz.results43, go_sem, gB2_0, gB2_1]) rfl ⟨rfl, HX4.out⟩

set_option maxRecDepth 100000 in
set_option maxHeartbeats 2000000 in
theorem vCut_a2 (a : T3) (c d : T2) (w : World) (g : Gd w) (ha : TS a) (he : lerr a = 2) : Calls Tryz.prog 45 #[.agg #[.string a.x, .string a.y, .string a.z], .agg #[.string c.x, .string c.y], .agg #[.string d.x, .string d.y]] w (Ret w (.tuple #[.string ⟨#[]⟩, .bool false, .int .i64 2])) := by
  have HA := Lib.hid ha
  have HE := Lib.hid he
  have HG := Lib.hid g
  clear ha he g
  go_enter Tryz.func45, Tryz.ntmps45
  go_wp2_with fail
  refine ((HE.out ▸ vLine_t a _ (HG.out.ext ((((Ext.refl w).alloc _).alloc _).alloc _)) HA.out)).mono ?_; rintro e w1 ⟨rfl, e1⟩
  have HX1 : Hid (Ext w w1) := Lib.hid (((((Ext.refl w).alloc _).alloc _).alloc _).trans e1)
  clear e1
  go_wp2
  go_ret3
  exact ⟨rfl, HX1.out⟩

set_option maxRecDepth 100000 in
set_option maxHeartbeats 2000000 in
theorem vMeet_a17 (a b : T3) (w : World) (g : Gd w) (ha : TS a) (hb : TS b) (he : lerr a = 17) : Calls Tryz.prog 43 #[.agg #[.string a.x, .string a.y, .string a.z], .agg #[.string b.x, .string b.y, .string b.z]] w (Ret w (.tuple #[.agg #[.string ⟨#[]⟩, .string ⟨#[]⟩], .bool false, .int .i64 17])) := by
  have HA := Lib.hid ha
  have HB := Lib.hid hb
  have HE := Lib.hid he
  have HG := Lib.hid g
  clear ha hb he g
  have ix0 : ∀ W, (Instr.index 129 (.agg #[.string a.x, .string a.y, .string a.z, .string b.x, .string b.y, .string b.z]) (.int .i64 0)).run Tryz.prog W = .ok (.agg #[.string a.x, .string a.y, .string a.z]) W := fun W => by kernel_rfl
  go_enter Tryz.func43, Tryz.ntmps43
  go_wp2_with fail
  refine wp_loop_rounds 3 ?_
  rw [rounds_succ]
  go_wp2_with fail
  refine ((HE.out ▸ vLine_t a _ (HG.out.ext (((((Ext.refl w).alloc _).alloc _).alloc _).alloc _)) HA.out)).mono ?_; rintro e w1 ⟨rfl, e1⟩
  have HX1 : Hid (Ext w w1) := Lib.hid ((((((Ext.refl w).alloc _).alloc _).alloc _).alloc _).trans e1)
  have HB2_1 : Hid (Blk w1 (w.heap.size + 1 + 1) #[.string ⟨#[]⟩, .string ⟨#[]⟩] 62) := Lib.hid (Blk.ext ((Blk.new' (w := _) (cs := #[.string ⟨#[]⟩, .string ⟨#[]⟩]) (t := 62) (by first | rfl | (simp only [World.size_alloc]; done) | (simp only [World.size_alloc]; omega) | simp)).alloc _) e1)
  have HGEB2 : Hid (w.heap.size ≤ w.heap.size + 1 + 1) := Lib.hid (by first | omega | (simp only []; omega) | (simp; omega))
  clear e1
  have c2_0 := HB2_1.out.cell 0 rfl
  have f2_0 := HB2_1.out.free 0
  have c2_1 := HB2_1.out.cell 1 rfl
  have f2_1 := HB2_1.out.free 1
  go_wp2_with fail
  refine wp_name (fun W => Ext w W ∧ Blk W (w.heap.size + 1 + 1) #[.string ⟨#[]⟩, .string ⟨#[]⟩] 62) ⟨((HX1.out.setCell (by have := HGEB2.out; first | omega | (simp only []; omega) | (simp; omega)) _).setCell (by have := HGEB2.out; first | omega | (simp only []; omega) | (simp; omega)) _), ((HB2_1.out.set 0 (.string ⟨#[]⟩)).set 1 (.string ⟨#[]⟩))⟩ ?_
  rintro w2 ⟨e2, bB2_2⟩
  have HX2 := Lib.hid e2; have HB2_2 := Lib.hid bB2_2
  clear e2 bB2_2 c2_0 f2_0 c2_1 f2_1
  have gB2_0 := HB2_2.out.cell 0 rfl
  have gB2_1 := HB2_2.out.cell 1 rfl
  refine bodyPost_ret (v := .tuple #[.agg #[.string ⟨#[]⟩, .string ⟨#[]⟩], .bool false, .int .i64 17]) (by simp [results, Tryz.results43, go_sem, gB2_0, gB2_1]) rfl ⟨rfl, HX2.out⟩

set_option maxRecDepth 100000 in
set_option maxHeartbeats 2000000 in
theorem vMeet_b17 (a b : T3) (w : World) (g : Gd w) (ha : TS a) (hb : TS b) (he : lerr a = 0) (hf : lerr b = 17) : Calls Tryz.prog 43 #[.agg #[.string a.x, .string a.y, .string a.z], .agg #[.string b.x, .string b.y, .string b.z]] w (Ret w (.tuple #[.agg #[.string ⟨#[]⟩, .string ⟨#[]⟩], .bool false, .int .i64 17])) := by
  have HA := Lib.hid ha
  have HB := Lib.hid hb
  have HE := Lib.hid he
  have HF := Lib.hid hf
  have HG := Lib.hid g
  clear ha hb he hf g
  have ix0 : ∀ W, (Instr.index 129 (.agg #[.string a.x, .string a.y, .string a.z, .string b.x, .string b.y, .string b.z]) (.int .i64 0)).run Tryz.prog W = .ok (.agg #[.string a.x, .string a.y, .string a.z]) W := fun W => by kernel_rfl
  have ix1 : ∀ W, (Instr.index 129 (.agg #[.string a.x, .string a.y, .string a.z, .string b.x, .string b.y, .string b.z]) (.int .i64 1)).run Tryz.prog W = .ok (.agg #[.string b.x, .string b.y, .string b.z]) W := fun W => by kernel_rfl
  go_enter Tryz.func43, Tryz.ntmps43
  go_wp2_with fail
  refine wp_loop_rounds 3 ?_
  rw [rounds_succ]
  go_wp2_with fail
  refine ((HE.out ▸ vLine_t a _ (HG.out.ext (((((Ext.refl w).alloc _).alloc _).alloc _).alloc _)) HA.out)).mono ?_; rintro e w1 ⟨rfl, e1⟩
  have HX1 : Hid (Ext w w1) := Lib.hid ((((((Ext.refl w).alloc _).alloc _).alloc _).alloc _).trans e1)
  have HB2_1 : Hid (Blk w1 (w.heap.size + 1 + 1) #[.string ⟨#[]⟩, .string ⟨#[]⟩] 62) := Lib.hid (Blk.ext ((Blk.new' (w := _) (cs := #[.string ⟨#[]⟩, .string ⟨#[]⟩]) (t := 62) (by first | rfl | (simp only [World.size_alloc]; done) | (simp only [World.size_alloc]; omega) | simp)).alloc _) e1)
  have HGEB2 : Hid (w.heap.size ≤ w.heap.size + 1 + 1) := Lib.hid (by first | omega | (simp only []; omega) | (simp; omega))
  clear e1
  go_wp2_with fail
  rw [rounds_succ]
  go_upto_region 4 with fail
  refine wp_name (fun W => Ext w W ∧ Blk W (w.heap.size + 1 + 1) #[.string ⟨#[]⟩, .string ⟨#[]⟩] 62 ∧ Blk W (w1.heap.size) #[.string b.x, .string b.y, .string b.z] 73) ⟨(HX1.out.alloc _), (HB2_1.out.alloc _), (Blk.new' (w := _) (cs := #[.string b.x, .string b.y, .string b.z]) (t := 73) (by first | rfl | (simp only [World.size_alloc]; done) | (simp only [World.size_alloc]; omega) | simp))⟩ ?_
  rintro w2 ⟨e2, bB2_2, bB4_2⟩
  have HX2 := Lib.hid e2; have HB2_2 := Lib.hid bB2_2; have HB4_2 := Lib.hid bB4_2
  have HGEB4 : Hid (w.heap.size ≤ w1.heap.size) := Lib.hid (by have := HX1.out.size; first | omega | (simp only []; omega) | (simp; omega))
  clear e2 bB2_2 bB4_2
  have c4_0 := HB4_2.out.cell 0 rfl
  have c4_1 := HB4_2.out.cell 1 rfl
  have c4_2 := HB4_2.out.cell 2 rfl
  go_wp2_with fail
  refine ((HF.out ▸ vLine_t b _ (HG.out.ext HX2.out) HB.out)).mono ?_; rintro e w3 ⟨rfl, e3⟩
  have HX3 : Hid (Ext w w3) := Lib.hid (HX2.out.trans e3)
  have HB2_3 := Lib.hid (Blk.ext HB2_2.out e3)
  clear e3 c4_0 c4_1 c4_2
  have c2_0 := HB2_3.out.cell 0 rfl
  have f2_0 := HB2_3.out.free 0
  have c2_1 := HB2_3.out.cell 1 rfl
  have f2_1 := HB2_3.out.free 1
  go_wp2_with fail
  refine wp_name (fun W => Ext w W ∧ Blk W (w.heap.size + 1 + 1) #[.string ⟨#[]⟩, .string ⟨#[]⟩] 62) ⟨((HX3.out.setCell (by have := HGEB2.out; first | omega | (simp only []; omega) | (simp; omega)) _).setCell (by have := HGEB2.out; first | omega | (simp only []; omega) | (simp; omega)) _), ((HB2_3.out.set 0 (.string ⟨#[]⟩)).set 1 (.string ⟨#[]⟩))⟩ ?_
  rintro w4 ⟨e4, bB2_4⟩
  have HX4 := Lib.hid e4; have HB2_4 := Lib.hid bB2_4
  clear e4 bB2_4 c2_0 f2_0 c2_1 f2_1
  have gB2_0 := HB2_4.out.cell 0 rfl
  have gB2_1 := HB2_4.out.cell 1 rfl
  refine bodyPost_ret (v := .tuple #[.agg #[.string ⟨#[]⟩, .string ⟨#[]⟩], .bool false, .int .i64 17]) (by simp [results, Tryz.results43, go_sem, gB2_0, gB2_1]) rfl ⟨rfl, HX4.out⟩

set_option maxRecDepth 100000 in
set_option maxHeartbeats 2000000 in
theorem vCut_a17 (a : T3) (c d : T2) (w : World) (g : Gd w) (ha : TS a) (he : lerr a = 17) : Calls Tryz.prog 45 #[.agg #[.string a.x, .string a.y, .string a.z], .agg #[.string c.x, .string c.y], .agg #[.string d.x, .string d.y]] w (Ret w (.tuple #[.string ⟨#[]⟩, .bool false, .int .i64 17])) := by
  have HA := Lib.hid ha
  have HE := Lib.hid he
  have HG := Lib.hid g
  clear ha he g
  go_enter Tryz.func45, Tryz.ntmps45
  go_wp2_with fail
  refine ((HE.out ▸ vLine_t a _ (HG.out.ext ((((Ext.refl w).alloc _).alloc _).alloc _)) HA.out)).mono ?_; rintro e w1 ⟨rfl, e1⟩
  have HX1 : Hid (Ext w w1) := Lib.hid (((((Ext.refl w).alloc _).alloc _).alloc _).trans e1)
  clear e1
  go_wp2
  go_ret3
  exact ⟨rfl, HX1.out⟩

set_option maxRecDepth 100000 in
set_option maxHeartbeats 2000000 in
theorem vCut_p (a : T3) (c d : T2) (w : World) (g : Gd w) (ha : TS a) (hc : TS2 c) (hd : TS2 d) (he : lerr a = 0) (hf : perr [c, d] = 2) : Calls Tryz.prog 45 #[.agg #[.string a.x, .string a.y, .string a.z], .agg #[.string c.x, .string c.y], .agg #[.string d.x, .string d.y]] w (Ret w (.tuple #[.string ⟨#[]⟩, .bool false, .int .i64 2])) := by
  have HA := Lib.hid ha
  have HC := Lib.hid hc
  have HD := Lib.hid hd
  have HE := Lib.hid he
  have HF := Lib.hid hf
  have HG := Lib.hid g
  clear ha hc hd he hf g
  go_enter Tryz.func45, Tryz.ntmps45
  go_wp2_with fail
  refine ((HE.out ▸ vLine_t a _ (HG.out.ext ((((Ext.refl w).alloc _).alloc _).alloc _)) HA.out)).mono ?_; rintro e w1 ⟨rfl, e1⟩
  have HX1 : Hid (Ext w w1) := Lib.hid (((((Ext.refl w).alloc _).alloc _).alloc _).trans e1)
  have HB1_1 : Hid (Blk w1 (w.heap.size + 1) #[.string c.x, .string c.y] 62) := Lib.hid (Blk.ext ((Blk.new' (w := _) (cs := #[.string c.x, .string c.y]) (t := 62) (by first | rfl | (simp only [World.size_alloc]; done) | (simp only [World.size_alloc]; omega) | simp)).alloc _) e1)
  have HB2_1 : Hid (Blk w1 (w.heap.size + 1 + 1) #[.string d.x, .string d.y] 62) := Lib.hid (Blk.ext (Blk.new' (w := _) (cs := #[.string d.x, .string d.y]) (t := 62) (by first | rfl | (simp only [World.size_alloc]; done) | (simp only [World.size_alloc]; omega) | simp)) e1)
  have HGEB1 : Hid (w.heap.size ≤ w.heap.size + 1) := Lib.hid (by first | omega | (simp only []; omega) | (simp; omega))
  have HGEB2 : Hid (w.heap.size ≤ w.heap.size + 1 + 1) := Lib.hid (by first | omega | (simp only []; omega) | (simp; omega))
  clear e1
  have c1_0 := HB1_1.out.cell 0 rfl
  have c1_1 := HB1_1.out.cell 1 rfl
  have c2_0 := HB2_1.out.cell 0 rfl
  have c2_1 := HB2_1.out.cell 1 rfl
  go_wp2_with fail
  refine ((HF.out ▸ points2_c c d (w1.heap.size) _ (HG.out.ext (HX1.out.alloc _)) HC.out HD.out (Blk.new' (w := _) (cs := #[.string c.x, .string c.y, .string d.x, .string d.y]) (t := 62) (by first | rfl | (simp only [World.size_alloc]; done) | (simp only [World.size_alloc]; omega) | simp)))).mono ?_; rintro e w2 ⟨rfl, e2⟩
  have HX2 : Hid (Ext w w2) := Lib.hid ((HX1.out.alloc _).trans e2)
  have HB3_2 : Hid (Blk w2 (w1.heap.size) #[.string c.x, .string c.y, .string d.x, .string d.y] 62) := Lib.hid (Blk.ext (Blk.new' (w := _) (cs := #[.string c.x, .string c.y, .string d.x, .string d.y]) (t := 62) (by first | rfl | (simp only [World.size_alloc]; done) | (simp only [World.size_alloc]; omega) | simp)) e2)
  have HGEB3 : Hid (w.heap.size ≤ w1.heap.size) := Lib.hid (by have := HX1.out.size; first | omega | (simp only []; omega) | (simp; omega))
  clear e2 c1_0 c1_1 c2_0 c2_1
  go_wp2
  go_ret3
  exact ⟨rfl, HX2.out⟩
end Go.Proofs.YtglppcmegocphaaGreatDoor
