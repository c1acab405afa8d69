/- Part 38 of the proof: B9, V1, V4, L2, V9, V10. -/
import Derived.Test.YtglppcmegocphaaGreatDoorQU1
import Derived.Test.YtglppcmegocphaaGreatDoorQU2
import Derived.Test.YtglppcmegocphaaGreatDoorQU3
import Derived.Test.YtglppcmegocphaaGreatDoorQU4
import Derived.Test.YtglppcmegocphaaGreatDoorQU5
import Derived.Test.YtglppcmegocphaaGreatDoorQU6
import Derived.Test.YtglppcmegocphaaGreatDoorQU7
import Derived.Test.YtglppcmegocphaaGreatDoorQU8
import Derived.Test.YtglppcmegocphaaGreatDoorQU9
import Derived.Test.YtglppcmegocphaaGreatDoorQU10
import Derived.Test.YtglppcmegocphaaGreatDoorQU11
import Derived.Test.YtglppcmegocphaaGreatDoorQU12
import Derived.Test.YtglppcmegocphaaGreatDoorQU13
import Derived.Test.YtglppcmegocphaaGreatDoorQU14
import Derived.Test.YtglppcmegocphaaGreatDoorQU15
import Derived.Test.YtglppcmegocphaaGreatDoorQU16
import Derived.Test.YtglppcmegocphaaGreatDoorQU17
import Derived.Test.YtglppcmegocphaaGreatDoorQU18
import Derived.Test.YtglppcmegocphaaGreatDoorQU19
import Derived.Test.YtglppcmegocphaaGreatDoorQU20
import Derived.Test.YtglppcmegocphaaGreatDoorQU21
import Derived.Test.YtglppcmegocphaaGreatDoorQU22
import Derived.Test.YtglppcmegocphaaGreatDoorQU23
import Derived.Test.YtglppcmegocphaaGreatDoorQU24
import Derived.Test.YtglppcmegocphaaGreatDoorQU32
import Derived.Test.YtglppcmegocphaaGreatDoorQU33
import Derived.Test.YtglppcmegocphaaGreatDoorQU34
import Derived.Test.YtglppcmegocphaaGreatDoorQU35
import Derived.Test.YtglppcmegocphaaGreatDoorQU36
import Derived.Test.YtglppcmegocphaaGreatDoorQU37
namespace Go.Proofs.YtglppcmegocphaaGreatDoor
open Go Go.RowKit
set_option maxRecDepth 100000 in
set_option maxHeartbeats 1000000 in
theorem srightp_0 (t : T2) (w : World) (g : Gd w) (hs : TS2 t)  (h0 : rq t.x = false) : Calls Tryz.prog 106 #[tp t] w (Ret w (.bool false)) := by
  have HG := Lib.hid g; have HS := Lib.hid hs; have H0 := Lib.hid h0
  clear g hs h0
  go_enter Tryz.func106, Tryz.ntmps106
  go_wp2_with (first
    | (go_at_call 59; ((with_reducible refine (fright_no t.x _ (HG.out.ext ((Ext.refl w).alloc _)) HS.out.x H0.out).mono ?_); rintro e w1 ⟨rfl, e1⟩)))
  go_ret
  exact ⟨rfl, (((Ext.refl w).alloc _).trans e1)⟩

set_option maxRecDepth 100000 in
set_option maxHeartbeats 1000000 in
theorem srightp_1 (t : T2) (w : World) (g : Gd w) (hs : TS2 t) (h0 : rq t.x = true) (h1 : rq t.y = false) : Calls Tryz.prog 106 #[tp t] w (Ret w (.bool false)) := by
  have HG := Lib.hid g; have HS := Lib.hid hs; have H0 := Lib.hid h0; have H1 := Lib.hid h1
  clear g hs h0 h1
  go_enter Tryz.func106, Tryz.ntmps106
  go_wp2_with (first
    | (go_at_call 59; ((with_reducible refine (fright_yes t.x _ (HG.out.ext ((Ext.refl w).alloc _)) HS.out.x H0.out).mono ?_); rintro e w1 ⟨rfl, e1⟩; have x1 := ((Ext.refl w).alloc _).trans e1; have B1 := (Blk.new w #[.string t.x, .string t.y] 62).ext (e1 : Ext (w.alloc (.cells #[.string t.x, .string t.y] 62)) w1); have c1 := B1.cell 1 rfl; clear B1))
    | (go_at_call 59; ((with_reducible refine (fright_no t.y _ (HG.out.ext (((Ext.refl w).alloc _).trans e1)) HS.out.y H1.out).mono ?_); rintro e w2 ⟨rfl, e2⟩)))
  go_ret
  exact ⟨rfl, ((((Ext.refl w).alloc _).trans e1).trans e2)⟩

set_option maxRecDepth 100000 in
set_option maxHeartbeats 1000000 in
theorem srightp_2 (t : T2) (w : World) (g : Gd w) (hs : TS2 t) (h0 : rq t.x = true) (h1 : rq t.y = true) : Calls Tryz.prog 106 #[tp t] w (Ret w (.bool true)) := by
  have HG := Lib.hid g; have HS := Lib.hid hs; have H0 := Lib.hid h0; have H1 := Lib.hid h1
  clear g hs h0 h1
  go_enter Tryz.func106, Tryz.ntmps106
  go_wp2_with (first
    | (go_at_call 59; ((with_reducible refine (fright_yes t.x _ (HG.out.ext ((Ext.refl w).alloc _)) HS.out.x H0.out).mono ?_); rintro e w1 ⟨rfl, e1⟩; have x1 := ((Ext.refl w).alloc _).trans e1; have B1 := (Blk.new w #[.string t.x, .string t.y] 62).ext (e1 : Ext (w.alloc (.cells #[.string t.x, .string t.y] 62)) w1); have c1 := B1.cell 1 rfl; clear B1))
    | (go_at_call 59; ((with_reducible refine (fright_yes t.y _ (HG.out.ext (((Ext.refl w).alloc _).trans e1)) HS.out.y H1.out).mono ?_); rintro e w2 ⟨rfl, e2⟩)))
  go_ret
  exact ⟨rfl, ((((Ext.refl w).alloc _).trans e1).trans e2)⟩

theorem srightp_c (t : T2) (w : World) (g : Gd w) (hs : TS2 t) : Calls Tryz.prog 106 #[tp t] w (Ret w (.bool (t.l.all rq))) := by
  cases h0 : rq t.x with
  | false =>
    have e : t.l.all rq = false := by simp [T2.l, h0]
    rw [e]; exact srightp_0 t w g hs h0
  | true =>
    cases h1 : rq t.y with
    | false =>
      have e : t.l.all rq = false := by simp [T2.l, h0, h1]
      rw [e]; exact srightp_1 t w g hs h0 h1
    | true =>
      have e : t.l.all rq = true := by simp [T2.l, h0, h1]
      rw [e]; exact srightp_2 t w g hs h0 h1
end Go.Proofs.YtglppcmegocphaaGreatDoor

namespace Go.Proofs.YtglppcmegocphaaGreatDoor
open Go Go.RowKit
theorem numbers1_c (a : ByteArray) (kb : Nat) (w : World) (g : Gd w) (ha : a.size ≤ 1000000) (hB : Blk w kb #[.string a] 28) : Calls Tryz.prog 94 #[.slice (some ⟨kb, 0, none⟩) 1 1] w (Ret w (.int .i64 (terr [a]))) :=
  numbers_c [a] kb 1 1 w g rfl (by decide) (fun i hi => match i, hi with | 0, _ => ha) hB.lt (fun i hi => match i, hi with | 0, _ => hB.cell 0 rfl)
end Go.Proofs.YtglppcmegocphaaGreatDoor

namespace Go.Proofs.YtglppcmegocphaaGreatDoor
open Go Go.RowKit
set_option maxRecDepth 100000 in
set_option maxHeartbeats 2000000 in
theorem vThrough_same (a : P2) (w : World) (g : Gd w) (ha : PB 200 a) : Calls Tryz.prog 40 #[.agg #[.string (qs a.x), .string (qs a.y)], .agg #[.string (qs a.x), .string (qs a.y)]] w (Ret w (.tuple #[.agg #[.string ⟨#[]⟩, .string ⟨#[]⟩, .string ⟨#[]⟩], .int .i64 17])) := by
  have HA := Lib.hid ha
  have HG := Lib.hid g
  clear ha g
  go_enter Tryz.func40, Tryz.ntmps40
  go_wp2_with fail
  refine (points2_ok a a (w.heap.size + 1 + 1 + 1) _ (HG.out.ext (((((Ext.refl w).alloc _).alloc _).alloc _).alloc _)) (HA.out.mono (by omega)) (HA.out.mono (by omega)) (Blk.new' (w := _) (cs := #[.string (qs a.x), .string (qs a.y), .string (qs a.x), .string (qs a.y)]) (t := 62) (by first | rfl | (simp only [World.size_alloc]; done) | (simp only [World.size_alloc]; omega) | simp))).mono ?_; rintro e w1 ⟨rfl, e1⟩
  have HX1 : Hid (Ext w w1) := Lib.hid ((((((Ext.refl w).alloc _).alloc _).alloc _).alloc _).trans e1)
  have HB0_1 : Hid (Blk w1 (w.heap.size) #[.string (qs a.x), .string (qs a.y)] 62) := Lib.hid (Blk.ext ((((Blk.new' (w := _) (cs := #[.string (qs a.x), .string (qs a.y)]) (t := 62) (by first | rfl | (simp only [World.size_alloc]; done) | (simp only [World.size_alloc]; omega) | simp)).alloc _).alloc _).alloc _) e1)
  have HB1_1 : Hid (Blk w1 (w.heap.size + 1) #[.string (qs a.x), .string (qs a.y)] 62) := Lib.hid (Blk.ext (((Blk.new' (w := _) (cs := #[.string (qs a.x), .string (qs a.y)]) (t := 62) (by first | rfl | (simp only [World.size_alloc]; done) | (simp only [World.size_alloc]; omega) | simp)).alloc _).alloc _) e1)
  have HB2_1 : Hid (Blk w1 (w.heap.size + 1 + 1) #[.string ⟨#[]⟩, .string ⟨#[]⟩, .string ⟨#[]⟩] 73) := Lib.hid (Blk.ext ((Blk.new' (w := _) (cs := #[.string ⟨#[]⟩, .string ⟨#[]⟩, .string ⟨#[]⟩]) (t := 73) (by first | rfl | (simp only [World.size_alloc]; done) | (simp only [World.size_alloc]; omega) | simp)).alloc _) e1)
  have HB3_1 : Hid (Blk w1 (w.heap.size + 1 + 1 + 1) #[.string (qs a.x), .string (qs a.y), .string (qs a.x), .string (qs a.y)] 62) := Lib.hid (Blk.ext (Blk.new' (w := _) (cs := #[.string (qs a.x), .string (qs a.y), .string (qs a.x), .string (qs a.y)]) (t := 62) (by first | rfl | (simp only [World.size_alloc]; done) | (simp only [World.size_alloc]; omega) | simp)) e1)
  have HGEB0 : Hid (w.heap.size ≤ w.heap.size) := Lib.hid (by first | omega | (simp only []; omega) | (simp; omega))
  have HGEB1 : Hid (w.heap.size ≤ w.heap.size + 1) := Lib.hid (by first | omega | (simp only []; omega) | (simp; omega))
  have HGEB2 : Hid (w.heap.size ≤ w.heap.size + 1 + 1) := Lib.hid (by first | omega | (simp only []; omega) | (simp; omega))
  have HGEB3 : Hid (w.heap.size ≤ w.heap.size + 1 + 1 + 1) := Lib.hid (by first | omega | (simp only []; omega) | (simp; omega))
  clear e1
  have c0_0 := HB0_1.out.cell 0 rfl
  have c0_1 := HB0_1.out.cell 1 rfl
  have c1_0 := HB1_1.out.cell 0 rfl
  have c1_1 := HB1_1.out.cell 1 rfl
  have c2_0 := HB2_1.out.cell 0 rfl
  have f2_0 := HB2_1.out.free 0
  have c2_1 := HB2_1.out.cell 1 rfl
  have f2_1 := HB2_1.out.free 1
  have c2_2 := HB2_1.out.cell 2 rfl
  have f2_2 := HB2_1.out.free 2
  go_wp2_with fail
  refine wp_name (fun W => Ext w W ∧ Blk W (w.heap.size + 1 + 1) #[.string ⟨#[]⟩, .string ⟨#[]⟩, .string ⟨#[]⟩] 73) ⟨(((HX1.out.setCell (by have := HGEB2.out; first | omega | (simp only []; omega) | (simp; omega)) _).setCell (by have := HGEB2.out; first | omega | (simp only []; omega) | (simp; omega)) _).setCell (by have := HGEB2.out; first | omega | (simp only []; omega) | (simp; omega)) _), (((HB2_1.out.set 0 (.string ⟨#[]⟩)).set 1 (.string ⟨#[]⟩)).set 2 (.string ⟨#[]⟩))⟩ ?_
  rintro w2 ⟨e2, bB2_2⟩
  have HX2 := Lib.hid e2; have HB2_2 := Lib.hid bB2_2
  clear e2 bB2_2 c0_0 c0_1 c1_0 c1_1 c2_0 f2_0 c2_1 f2_1 c2_2 f2_2
  have gB2_0 := HB2_2.out.cell 0 rfl
  have gB2_1 := HB2_2.out.cell 1 rfl
  have gB2_2 := HB2_2.out.cell 2 rfl
  refine bodyPost_ret (v := .tuple #[.agg #[.string ⟨#[]⟩, .string ⟨#[]⟩, .string ⟨#[]⟩], .int .i64 17]) (by simp [results, Tryz.results40, go_sem, gB2_0, gB2_1, gB2_2]) rfl ⟨rfl, HX2.out⟩

end Go.Proofs.YtglppcmegocphaaGreatDoor

namespace Go.Proofs.YtglppcmegocphaaGreatDoor
open Go Go.RowKit
theorem first3_c (x0 x1 x2 : Int) (kb : Nat) (w : World) (hB : Blk w kb #[.int .i64 x0, .int .i64 x1, .int .i64 x2] 32) : Calls Tryz.prog 26 #[.slice (some ⟨kb, 0, none⟩) 3 3] w fun e w' => e = .returned (.int .i64 (ferr [x0, x1, x2])) ∧ w = w' :=
  first_c [x0, x1, x2] kb 3 3 w rfl (by decide) (fun i hi => match i, hi with | 0, _ => hB.cell 0 rfl | 1, _ => hB.cell 1 rfl | 2, _ => hB.cell 2 rfl)
end Go.Proofs.YtglppcmegocphaaGreatDoor

namespace Go.Proofs.YtglppcmegocphaaGreatDoor
open Go Go.RowKit
set_option maxRecDepth 100000 in
set_option maxHeartbeats 2000000 in
theorem ofp_0 (a : T2) (w : World) (g : Gd w) (ha : TS2 a) (hr : a.l.all rq = true) : Calls Tryz.prog 57 #[.agg #[.string a.x, .string a.y]] w (Ret w (.int .i64 0)) := by
  have HA := Lib.hid ha
  have HR := Lib.hid hr
  have HG := Lib.hid g
  clear ha hr g
  go_enter Tryz.func57, Tryz.ntmps57
  go_wp2_with fail
  refine ((HR.out ▸ srightp_c a _ (HG.out.ext ((Ext.refl w).alloc _)) HA.out)).mono ?_; rintro e w1 ⟨rfl, e1⟩
  have HX1 : Hid (Ext w w1) := Lib.hid (((Ext.refl w).alloc _).trans e1)
  clear e1
  go_wp2
  go_ret
  exact ⟨rfl, HX1.out⟩

set_option maxRecDepth 100000 in
set_option maxHeartbeats 2000000 in
theorem ofp_2 (a : T2) (w : World) (g : Gd w) (ha : TS2 a) (hr : a.l.all rq = false) : Calls Tryz.prog 57 #[.agg #[.string a.x, .string a.y]] w (Ret w (.int .i64 2)) := by
  have HA := Lib.hid ha
  have HR := Lib.hid hr
  have HG := Lib.hid g
  clear ha hr g
  go_enter Tryz.func57, Tryz.ntmps57
  go_wp2_with fail
  refine ((HR.out ▸ srightp_c a _ (HG.out.ext ((Ext.refl w).alloc _)) HA.out)).mono ?_; rintro e w1 ⟨rfl, e1⟩
  have HX1 : Hid (Ext w w1) := Lib.hid (((Ext.refl w).alloc _).trans e1)
  clear e1
  go_wp2
  go_ret
  exact ⟨rfl, HX1.out⟩

theorem ofpe_c (a : T2) (w : World) (g : Gd w) (ha : TS2 a) : Calls Tryz.prog 57 #[tp a] w (Ret w (.int .i64 (terr a.l))) := by
  cases h : a.l.all rq with
  | true => rw [terr_0 h]; exact ofp_0 a w g ha h
  | false => rw [terr_2 h]; exact ofp_2 a w g ha h

end Go.Proofs.YtglppcmegocphaaGreatDoor

namespace Go.Proofs.YtglppcmegocphaaGreatDoor
open Go Go.RowKit
set_option maxRecDepth 100000 in
set_option maxHeartbeats 2000000 in
theorem vTurn_err (a b c : T2) (w : World) (g : Gd w) (ha : TS2 a) (hb : TS2 b) (hc : TS2 c) (he : perr [a, b, c] = 2) : Calls Tryz.prog 34 #[.agg #[.string a.x, .string a.y], .agg #[.string b.x, .string b.y], .agg #[.string c.x, .string c.y]] w (Ret w (.tuple #[.int .i64 0, .int .i64 2])) := by
  have HA := Lib.hid ha
  have HB := Lib.hid hb
  have HC := Lib.hid hc
  have HE := Lib.hid he
  have HG := Lib.hid g
  clear ha hb hc he g
  go_enter Tryz.func34, Tryz.ntmps34
  go_wp2_with fail
  refine ((HE.out ▸ points3_c a b c (w.heap.size + 1 + 1 + 1) _ (HG.out.ext (((((Ext.refl w).alloc _).alloc _).alloc _).alloc _)) HA.out HB.out HC.out (Blk.new' (w := _) (cs := #[.string a.x, .string a.y, .string b.x, .string b.y, .string c.x, .string c.y]) (t := 62) (by first | rfl | (simp only [World.size_alloc]; done) | (simp only [World.size_alloc]; omega) | simp)))).mono ?_; rintro e w1 ⟨rfl, e1⟩
  have HX1 : Hid (Ext w w1) := Lib.hid ((((((Ext.refl w).alloc _).alloc _).alloc _).alloc _).trans e1)
  have HB3_1 : Hid (Blk w1 (w.heap.size + 1 + 1 + 1) #[.string a.x, .string a.y, .string b.x, .string b.y, .string c.x, .string c.y] 62) := Lib.hid (Blk.ext (Blk.new' (w := _) (cs := #[.string a.x, .string a.y, .string b.x, .string b.y, .string c.x, .string c.y]) (t := 62) (by first | rfl | (simp only [World.size_alloc]; done) | (simp only [World.size_alloc]; omega) | simp)) e1)
  have HGEB3 : Hid (w.heap.size ≤ w.heap.size + 1 + 1 + 1) := Lib.hid (by first | omega | (simp only []; omega) | (simp; omega))
  clear e1
  go_wp2
  go_ret2
  exact ⟨rfl, HX1.out⟩

set_option maxRecDepth 100000 in
set_option maxHeartbeats 2000000 in
theorem vArea_err (a b c : T2) (w : World) (g : Gd w) (ha : TS2 a) (hb : TS2 b) (hc : TS2 c) (he : perr [a, b, c] = 2) : Calls Tryz.prog 60 #[.agg #[.string a.x, .string a.y], .agg #[.string b.x, .string b.y], .agg #[.string c.x, .string c.y]] w (Ret w (.tuple #[.string ⟨#[]⟩, .int .i64 2])) := by
  have HA := Lib.hid ha
  have HB := Lib.hid hb
  have HC := Lib.hid hc
  have HE := Lib.hid he
  have HG := Lib.hid g
  clear ha hb hc he g
  go_enter Tryz.func60, Tryz.ntmps60
  go_wp2_with fail
  refine ((HE.out ▸ points3_c a b c (w.heap.size + 1 + 1 + 1) _ (HG.out.ext (((((Ext.refl w).alloc _).alloc _).alloc _).alloc _)) HA.out HB.out HC.out (Blk.new' (w := _) (cs := #[.string a.x, .string a.y, .string b.x, .string b.y, .string c.x, .string c.y]) (t := 62) (by first | rfl | (simp only [World.size_alloc]; done) | (simp only [World.size_alloc]; omega) | simp)))).mono ?_; rintro e w1 ⟨rfl, e1⟩
  have HX1 : Hid (Ext w w1) := Lib.hid ((((((Ext.refl w).alloc _).alloc _).alloc _).alloc _).trans e1)
  have HB3_1 : Hid (Blk w1 (w.heap.size + 1 + 1 + 1) #[.string a.x, .string a.y, .string b.x, .string b.y, .string c.x, .string c.y] 62) := Lib.hid (Blk.ext (Blk.new' (w := _) (cs := #[.string a.x, .string a.y, .string b.x, .string b.y, .string c.x, .string c.y]) (t := 62) (by first | rfl | (simp only [World.size_alloc]; done) | (simp only [World.size_alloc]; omega) | simp)) e1)
  have HGEB3 : Hid (w.heap.size ≤ w.heap.size + 1 + 1 + 1) := Lib.hid (by first | omega | (simp only []; omega) | (simp; omega))
  clear e1
  go_wp2
  go_ret2
  exact ⟨rfl, HX1.out⟩

set_option maxRecDepth 100000 in
set_option maxHeartbeats 2000000 in
theorem vBetween_err (a b c : T2) (w : World) (g : Gd w) (ha : TS2 a) (hb : TS2 b) (hc : TS2 c) (he : perr [a, b, c] = 2) : Calls Tryz.prog 61 #[.agg #[.string a.x, .string a.y], .agg #[.string b.x, .string b.y], .agg #[.string c.x, .string c.y]] w (Ret w (.tuple #[.bool false, .int .i64 2])) := by
  have HA := Lib.hid ha
  have HB := Lib.hid hb
  have HC := Lib.hid hc
  have HE := Lib.hid he
  have HG := Lib.hid g
  clear ha hb hc he g
  go_enter Tryz.func61, Tryz.ntmps61
  go_wp2_with fail
  refine ((HE.out ▸ points3_c a b c (w.heap.size + 1 + 1 + 1) _ (HG.out.ext (((((Ext.refl w).alloc _).alloc _).alloc _).alloc _)) HA.out HB.out HC.out (Blk.new' (w := _) (cs := #[.string a.x, .string a.y, .string b.x, .string b.y, .string c.x, .string c.y]) (t := 62) (by first | rfl | (simp only [World.size_alloc]; done) | (simp only [World.size_alloc]; omega) | simp)))).mono ?_; rintro e w1 ⟨rfl, e1⟩
  have HX1 : Hid (Ext w w1) := Lib.hid ((((((Ext.refl w).alloc _).alloc _).alloc _).alloc _).trans e1)
  have HB3_1 : Hid (Blk w1 (w.heap.size + 1 + 1 + 1) #[.string a.x, .string a.y, .string b.x, .string b.y, .string c.x, .string c.y] 62) := Lib.hid (Blk.ext (Blk.new' (w := _) (cs := #[.string a.x, .string a.y, .string b.x, .string b.y, .string c.x, .string c.y]) (t := 62) (by first | rfl | (simp only [World.size_alloc]; done) | (simp only [World.size_alloc]; omega) | simp)) e1)
  have HGEB3 : Hid (w.heap.size ≤ w.heap.size + 1 + 1 + 1) := Lib.hid (by first | omega | (simp only []; omega) | (simp; omega))
  clear e1
  go_wp2
  go_ret2
  exact ⟨rfl, HX1.out⟩

set_option maxRecDepth 100000 in
set_option maxHeartbeats 2000000 in
theorem vToward_err (a b : T2) (k : ByteArray) (w : World) (g : Gd w) (ha : TS2 a) (hb : TS2 b) (he : perr [a, b] = 2) : Calls Tryz.prog 62 #[.agg #[.string a.x, .string a.y], .agg #[.string b.x, .string b.y], .string k] w (Ret w (.tuple #[.agg #[.string ⟨#[]⟩, .string ⟨#[]⟩], .int .i64 2])) := by
  have HA := Lib.hid ha
  have HB := Lib.hid hb
  have HE := Lib.hid he
  have HG := Lib.hid g
  clear ha hb he g
  go_enter Tryz.func62, Tryz.ntmps62
  go_wp2_with fail
  refine ((HE.out ▸ points2_c a b (w.heap.size + 1 + 1 + 1) _ (HG.out.ext (((((Ext.refl w).alloc _).alloc _).alloc _).alloc _)) HA.out HB.out (Blk.new' (w := _) (cs := #[.string a.x, .string a.y, .string b.x, .string b.y]) (t := 62) (by first | rfl | (simp only [World.size_alloc]; done) | (simp only [World.size_alloc]; omega) | simp)))).mono ?_; rintro e w1 ⟨rfl, e1⟩
  have HX1 : Hid (Ext w w1) := Lib.hid ((((((Ext.refl w).alloc _).alloc _).alloc _).alloc _).trans e1)
  have HB2_1 : Hid (Blk w1 (w.heap.size + 1 + 1) #[.string ⟨#[]⟩, .string ⟨#[]⟩] 62) := Lib.hid (Blk.ext ((Blk.new' (w := _) (cs := #[.string ⟨#[]⟩, .string ⟨#[]⟩]) (t := 62) (by first | rfl | (simp only [World.size_alloc]; done) | (simp only [World.size_alloc]; omega) | simp)).alloc _) e1)
  have HB3_1 : Hid (Blk w1 (w.heap.size + 1 + 1 + 1) #[.string a.x, .string a.y, .string b.x, .string b.y] 62) := Lib.hid (Blk.ext (Blk.new' (w := _) (cs := #[.string a.x, .string a.y, .string b.x, .string b.y]) (t := 62) (by first | rfl | (simp only [World.size_alloc]; done) | (simp only [World.size_alloc]; omega) | simp)) e1)
  have HGEB2 : Hid (w.heap.size ≤ w.heap.size + 1 + 1) := Lib.hid (by first | omega | (simp only []; omega) | (simp; omega))
  have HGEB3 : Hid (w.heap.size ≤ w.heap.size + 1 + 1 + 1) := Lib.hid (by first | omega | (simp only []; omega) | (simp; omega))
  clear e1
  have c2_0 := HB2_1.out.cell 0 rfl
  have f2_0 := HB2_1.out.free 0
  have c2_1 := HB2_1.out.cell 1 rfl
  have f2_1 := HB2_1.out.free 1
  go_wp2_with fail
  refine wp_name (fun W => Ext w W ∧ Blk W (w.heap.size + 1 + 1) #[.string ⟨#[]⟩, .string ⟨#[]⟩] 62) ⟨((HX1.out.setCell (by have := HGEB2.out; first | omega | (simp only []; omega) | (simp; omega)) _).setCell (by have := HGEB2.out; first | omega | (simp only []; omega) | (simp; omega)) _), ((HB2_1.out.set 0 (.string ⟨#[]⟩)).set 1 (.string ⟨#[]⟩))⟩ ?_
  rintro w2 ⟨e2, bB2_2⟩
  have HX2 := Lib.hid e2; have HB2_2 := Lib.hid bB2_2
  clear e2 bB2_2 c2_0 f2_0 c2_1 f2_1
  have gB2_0 := HB2_2.out.cell 0 rfl
  have gB2_1 := HB2_2.out.cell 1 rfl
  refine bodyPost_ret (v := .tuple #[.agg #[.string ⟨#[]⟩, .string ⟨#[]⟩], .int .i64 2]) (by simp [results, Tryz.results62, go_sem, gB2_0, gB2_1]) rfl ⟨rfl, HX2.out⟩

set_option maxRecDepth 100000 in
set_option maxHeartbeats 2000000 in
theorem vToward_err2 (a b : T2) (k : ByteArray) (w : World) (g : Gd w) (ha : TS2 a) (hb : TS2 b) (he : perr [a, b] = 0) (hk : k.size ≤ 1000000) (hf : terr [k] = 2) : Calls Tryz.prog 62 #[.agg #[.string a.x, .string a.y], .agg #[.string b.x, .string b.y], .string k] w (Ret w (.tuple #[.agg #[.string ⟨#[]⟩, .string ⟨#[]⟩], .int .i64 2])) := by
  have HA := Lib.hid ha
  have HB := Lib.hid hb
  have HE := Lib.hid he
  have HK := Lib.hid hk
  have HF := Lib.hid hf
  have HG := Lib.hid g
  clear ha hb he hk hf g
  go_enter Tryz.func62, Tryz.ntmps62
  go_wp2_with fail
  refine ((HE.out ▸ points2_c a b (w.heap.size + 1 + 1 + 1) _ (HG.out.ext (((((Ext.refl w).alloc _).alloc _).alloc _).alloc _)) HA.out HB.out (Blk.new' (w := _) (cs := #[.string a.x, .string a.y, .string b.x, .string b.y]) (t := 62) (by first | rfl | (simp only [World.size_alloc]; done) | (simp only [World.size_alloc]; omega) | simp)))).mono ?_; rintro e w1 ⟨rfl, e1⟩
  have HX1 : Hid (Ext w w1) := Lib.hid ((((((Ext.refl w).alloc _).alloc _).alloc _).alloc _).trans e1)
  have HB2_1 : Hid (Blk w1 (w.heap.size + 1 + 1) #[.string ⟨#[]⟩, .string ⟨#[]⟩] 62) := Lib.hid (Blk.ext ((Blk.new' (w := _) (cs := #[.string ⟨#[]⟩, .string ⟨#[]⟩]) (t := 62) (by first | rfl | (simp only [World.size_alloc]; done) | (simp only [World.size_alloc]; omega) | simp)).alloc _) e1)
  have HB3_1 : Hid (Blk w1 (w.heap.size + 1 + 1 + 1) #[.string a.x, .string a.y, .string b.x, .string b.y] 62) := Lib.hid (Blk.ext (Blk.new' (w := _) (cs := #[.string a.x, .string a.y, .string b.x, .string b.y]) (t := 62) (by first | rfl | (simp only [World.size_alloc]; done) | (simp only [World.size_alloc]; omega) | simp)) e1)
  have HGEB2 : Hid (w.heap.size ≤ w.heap.size + 1 + 1) := Lib.hid (by first | omega | (simp only []; omega) | (simp; omega))
  have HGEB3 : Hid (w.heap.size ≤ w.heap.size + 1 + 1 + 1) := Lib.hid (by first | omega | (simp only []; omega) | (simp; omega))
  clear e1
  go_wp2_with fail
  refine ((HF.out ▸ numbers1_c k (w1.heap.size) _ (HG.out.ext (HX1.out.alloc _)) HK.out (Blk.new' (w := _) (cs := #[.string k]) (t := 28) (by first | rfl | (simp only [World.size_alloc]; done) | (simp only [World.size_alloc]; omega) | simp)))).mono ?_; rintro e w2 ⟨rfl, e2⟩
  have HX2 : Hid (Ext w w2) := Lib.hid ((HX1.out.alloc _).trans e2)
  have HB2_2 : Hid (Blk w2 (w.heap.size + 1 + 1) #[.string ⟨#[]⟩, .string ⟨#[]⟩] 62) := Lib.hid (Blk.ext (HB2_1.out.alloc _) e2)
  have HB4_2 : Hid (Blk w2 (w1.heap.size) #[.string k] 28) := Lib.hid (Blk.ext (Blk.new' (w := _) (cs := #[.string k]) (t := 28) (by first | rfl | (simp only [World.size_alloc]; done) | (simp only [World.size_alloc]; omega) | simp)) e2)
  have HGEB4 : Hid (w.heap.size ≤ w1.heap.size) := Lib.hid (by have := HX1.out.size; first | omega | (simp only []; omega) | (simp; omega))
  clear e2
  have c2_0 := HB2_2.out.cell 0 rfl
  have f2_0 := HB2_2.out.free 0
  have c2_1 := HB2_2.out.cell 1 rfl
  have f2_1 := HB2_2.out.free 1
  go_wp2_with fail
  refine wp_name (fun W => Ext w W ∧ Blk W (w.heap.size + 1 + 1) #[.string ⟨#[]⟩, .string ⟨#[]⟩] 62) ⟨((HX2.out.setCell (by have := HGEB2.out; first | omega | (simp only []; omega) | (simp; omega)) _).setCell (by have := HGEB2.out; first | omega | (simp only []; omega) | (simp; omega)) _), ((HB2_2.out.set 0 (.string ⟨#[]⟩)).set 1 (.string ⟨#[]⟩))⟩ ?_
  rintro w3 ⟨e3, bB2_3⟩
  have HX3 := Lib.hid e3; have HB2_3 := Lib.hid bB2_3
  clear e3 bB2_3 c2_0 f2_0 c2_1 f2_1
  have gB2_0 := HB2_3.out.cell 0 rfl
  have gB2_1 := HB2_3.out.cell 1 rfl
  refine bodyPost_ret (v := .tuple #[.agg #[.string ⟨#[]⟩, .string ⟨#[]⟩], .int .i64 2]) (by simp [results, Tryz.results62, go_sem, gB2_0, gB2_1]) rfl ⟨rfl, HX3.out⟩

theorem right_p {t : T2} (h : t.l.all rq = true) : ∃ v : P2, t = ⟨qs v.x, qs v.y⟩ ∧ PB 200 v := by
  simp only [T2.l, List.all_cons, List.all_nil, Bool.and_true, Bool.and_eq_true] at h
  obtain ⟨x, ex, hx⟩ := right_q h.1; obtain ⟨y, ey, hy⟩ := right_q h.2
  refine ⟨⟨x, y⟩, ?_, hx, hy⟩
  cases t
  simp only at ex ey
  rw [ex, ey]

end Go.Proofs.YtglppcmegocphaaGreatDoor
