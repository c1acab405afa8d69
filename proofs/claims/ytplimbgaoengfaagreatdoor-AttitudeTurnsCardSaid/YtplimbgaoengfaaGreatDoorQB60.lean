/- Part 60 of the proof: N11t. -/
import Derived.Test.YtplimbgaoengfaaGreatDoorQB1
import Derived.Test.YtplimbgaoengfaaGreatDoorQB2
import Derived.Test.YtplimbgaoengfaaGreatDoorQB3
import Derived.Test.YtplimbgaoengfaaGreatDoorQB4
import Derived.Test.YtplimbgaoengfaaGreatDoorQB5
import Derived.Test.YtplimbgaoengfaaGreatDoorQB6
import Derived.Test.YtplimbgaoengfaaGreatDoorQB7
import Derived.Test.YtplimbgaoengfaaGreatDoorQB8
import Derived.Test.YtplimbgaoengfaaGreatDoorQB9
import Derived.Test.YtplimbgaoengfaaGreatDoorQB10
import Derived.Test.YtplimbgaoengfaaGreatDoorQB11
import Derived.Test.YtplimbgaoengfaaGreatDoorQB12
import Derived.Test.YtplimbgaoengfaaGreatDoorQB13
import Derived.Test.YtplimbgaoengfaaGreatDoorQB14
import Derived.Test.YtplimbgaoengfaaGreatDoorQB15
import Derived.Test.YtplimbgaoengfaaGreatDoorQB16
import Derived.Test.YtplimbgaoengfaaGreatDoorQB17
import Derived.Test.YtplimbgaoengfaaGreatDoorQB18
import Derived.Test.YtplimbgaoengfaaGreatDoorQB19
import Derived.Test.YtplimbgaoengfaaGreatDoorQB20
import Derived.Test.YtplimbgaoengfaaGreatDoorQB21
import Derived.Test.YtplimbgaoengfaaGreatDoorQB22
import Derived.Test.YtplimbgaoengfaaGreatDoorQB23
import Derived.Test.YtplimbgaoengfaaGreatDoorQB24
import Derived.Test.YtplimbgaoengfaaGreatDoorQB25
import Derived.Test.YtplimbgaoengfaaGreatDoorQB26
import Derived.Test.YtplimbgaoengfaaGreatDoorQB28
import Derived.Test.YtplimbgaoengfaaGreatDoorQB30
import Derived.Test.YtplimbgaoengfaaGreatDoorQB44
import Derived.Test.YtplimbgaoengfaaGreatDoorQB45
import Derived.Test.YtplimbgaoengfaaGreatDoorQB57
import Derived.Test.YtplimbgaoengfaaGreatDoorQB58
namespace Go.Proofs.YtplimbgaoengfaaGreatDoor
open Go Go.RowKit
set_option linter.unusedVariables false
theorem keepsH2 {w w' : World} (e : Ext w w') {b0 o0 b1 o1 : Nat} {x0 x1 : Value} (h : w.cell? ⟨b0, o0, none⟩ = some x0 ∧ w.cell? ⟨b1, o1, none⟩ = some x1) : w'.cell? ⟨b0, o0, none⟩ = some x0 ∧ w'.cell? ⟨b1, o1, none⟩ = some x1 :=
  ⟨e.keeps h.1, e.keeps h.2⟩
theorem cell_set_ne9 {w : World} {b b2 o o2 : Nat} {u : Value} (h : b ≠ b2) : (w.setCell ⟨b2, o2, none⟩ u).cell? ⟨b, o, none⟩ = w.cell? ⟨b, o, none⟩ := by
  have := Below.heap_setCell w ⟨b2, o2, none⟩ u b h
  simp only [World.cell?, this]
theorem prim24 (a : V3) {k : Nat} (hk1 : 1 ≤ k) (hk : k ≤ 24) (hz : ¬ (a.x = 0 ∧ a.y = 0 ∧ a.z = 0)) (ha : VB k a) : VB 97 (vwhole a) ∧ pnum (vwhole a) ≠ 0 ∧ VB (8 * k + 2) (vprim a) := by
  obtain ⟨X, Y, Z, e, hd, hne, c, hc, hs⟩ := vprim_int a hz
  have pd := IB.pden ha
  have w0 : VB (4 * k + 1) (vwhole a) := ⟨(ha.x.mul (QB.int pd (by omega))).mono (by omega), (ha.y.mul (QB.int pd (by omega))).mono (by omega), (ha.z.mul (QB.int pd (by omega))).mono (by omega)⟩
  have pn := IB.pnum w0
  have q1 := QB.mk1 hne pn (by omega)
  exact ⟨w0.mono (by omega), hne, ⟨(w0.x.mul q1).mono (by omega), (w0.y.mul q1).mono (by omega), (w0.z.mul q1).mono (by omega)⟩⟩
def flatv (n : V3) : V3 := if n.z < 0 then ⟨-n.x, -n.y, 0⟩ else ⟨n.x, n.y, 0⟩
def todir (n : V3) : P2 := ⟨(vprim (flatv n)).x, (vprim (flatv n)).y⟩
structure TowOk (n : V3) (k : Nat) (d : P2) : Prop where
  pb : PB (8 * k + 2) d
  ix : d.x.den = 1
  iy : d.y.den = 1
  gcd : Int.gcd d.x.num d.y.num = 1
  scale : ∃ c : Rat, 0 < c ∧ d.x = (flatv n).x * c ∧ d.y = (flatv n).y * c
theorem flat_nz {n : V3} (h : ¬ (n.x = 0 ∧ n.y = 0)) : ¬ ((flatv n).x = 0 ∧ (flatv n).y = 0 ∧ (flatv n).z = 0) := by
  unfold flatv
  split
  · rintro ⟨h1, h2, _⟩; exact h ⟨by simp only at h1; grind, by simp only at h2; grind⟩
  · rintro ⟨h1, h2, _⟩; exact h ⟨h1, h2⟩
theorem flat_vb {n : V3} {k : Nat} (hk : 1 ≤ k) (h : VB k n) : VB k (flatv n) := by
  have q0 : QB k 0 := (⟨by decide, by decide⟩ : QB 1 0).mono hk
  unfold flatv
  split
  · exact ⟨h.x.neg, h.y.neg, q0⟩
  · exact ⟨h.x, h.y, q0⟩
theorem flat_z (n : V3) : (flatv n).z = 0 := by unfold flatv; split <;> rfl
theorem tow_ok {n : V3} {k : Nat} (hk1 : 1 ≤ k) (hk : k ≤ 24) (hn : VB k n) (h : ¬ (n.x = 0 ∧ n.y = 0)) : TowOk n k (todir n) := by
  have hz := flat_nz h
  have hb := (prim24 _ hk1 hk hz (flat_vb hk1 hn)).2.2
  obtain ⟨X, Y, Z, e, hd, hne, c, hc, hs⟩ := vprim_int (flatv n) hz
  have hZ : Z = 0 := by
    have h1 := congrArg V3.z e; have h2 := congrArg V3.z hs
    rw [h2] at h1
    simp only [flat_z, Rat.zero_mul] at h1
    exact (Rat.intCast_eq_zero_iff.1 h1.symm)
  have ex : (vprim (flatv n)).x = (X : Rat) := congrArg V3.x e
  have ey : (vprim (flatv n)).y = (Y : Rat) := congrArg V3.y e
  refine ⟨⟨hb.x, hb.y⟩, ?_, ?_, ?_, c, hc, congrArg V3.x hs, congrArg V3.y hs⟩
  · show (vprim (flatv n)).x.den = 1; rw [ex]; exact Rat.den_intCast _
  · show (vprim (flatv n)).y.den = 1; rw [ey]; exact Rat.den_intCast _
  · show Int.gcd (vprim (flatv n)).x.num (vprim (flatv n)).y.num = 1
    rw [ex, ey, Rat.num_intCast, Rat.num_intCast]
    have := hd (Int.gcd X Y : Nat) (Int.gcd_dvd_left _ _) (Int.gcd_dvd_right _ _) (by rw [hZ]; exact Int.dvd_zero _)
    have h1 := Int.natAbs_dvd_natAbs.2 this
    simpa using h1
theorem vprim_flat (n : V3) (w : World) (g : Gd w) (hn : VB 24 n) (h : ¬ (n.x = 0 ∧ n.y = 0)) : Calls Tryz.prog 63 #[.agg #[.string (qs (flatv n).x), .string (qs (flatv n).y), .string ⟨#[48]⟩]] w (Ret w (.tuple #[.agg #[.string (qs (todir n).x), .string (qs (todir n).y), .string (qs ((vprim (flatv n)).z))], .int .i64 0])) := by
  have hz := flat_nz h
  have hp := prim24 _ (by decide) (by decide) hz (flat_vb (by decide) hn)
  have := vPrim_ok (flatv n) w g (flat_vb (by decide) hn) hz hp.1 hp.2.1 (hp.2.2.mono (by decide))
  rw [flat_z, qs_zero] at this
  exact this

set_option maxRecDepth 100000 in
set_option maxHeartbeats 2000000 in
theorem atow_l (n : T3) (e : Int) (w : World) (g : Gd w) (hen : NErr n e) (he : e ≠ 0) : Calls Tryz.prog 34 #[.agg #[.string n.x, .string n.y, .string n.z]] w (Ret w (.tuple #[.agg #[.string ⟨#[]⟩, .string ⟨#[]⟩], .int .i64 e])) := by
  have HEN := Lib.hid hen
  have HG := Lib.hid g
  clear hen g
  have e_d : (e != 0) = true := bne_iff_ne.2 he
  have e_e : (e == 0) = false := beq_eq_false_iff_ne.2 he
  clear he
  go_enter Tryz.func34, Tryz.ntmps34
  go_wp2_with fail
  refine (acheck_l _ (HG.out.ext (((Ext.refl w).alloc _).alloc _)) HEN.out).mono ?_; rintro e w1 ⟨rfl, e1⟩
  have HX1 : Hid (Ext w w1) := Lib.hid ((((Ext.refl w).alloc _).alloc _).trans e1)
  have HB1_1 : Hid (Blk w1 (w.heap.size + 1) #[.string ⟨#[]⟩, .string ⟨#[]⟩] 24) := Lib.hid (Blk.ext (Blk.new' (w := _) (cs := #[.string ⟨#[]⟩, .string ⟨#[]⟩]) (t := 24) (by first | rfl | (simp only [World.size_alloc]; done) | (simp only [World.size_alloc]; omega) | simp)) e1)
  have HGEB1 : Hid (w.heap.size ≤ w.heap.size + 1) := Lib.hid (by first | omega | (simp only []; omega) | (simp; omega))
  clear e1
  have c1_0 := HB1_1.out.cell 0 rfl
  have f1_0 := HB1_1.out.free 0
  have c1_1 := HB1_1.out.cell 1 rfl
  have f1_1 := HB1_1.out.free 1
  go_wp2_with fail
  refine wp_name (fun W => Ext w W ∧ Blk W (w.heap.size + 1) #[.string ⟨#[]⟩, .string ⟨#[]⟩] 24) ⟨((HX1.out.setCell (by have := HGEB1.out; first | omega | (simp only []; omega) | (simp; omega)) _).setCell (by have := HGEB1.out; first | omega | (simp only []; omega) | (simp; omega)) _), ((HB1_1.out.set 0 (.string ⟨#[]⟩)).set 1 (.string ⟨#[]⟩))⟩ ?_
  rintro w2 ⟨e2, bB1_2⟩
  have HX2 := Lib.hid e2; have HB1_2 := Lib.hid bB1_2
  clear e2 bB1_2 c1_0 f1_0 c1_1 f1_1
  have gB1_0 := HB1_2.out.cell 0 rfl
  have gB1_1 := HB1_2.out.cell 1 rfl
  refine bodyPost_ret (v := .tuple #[.agg #[.string ⟨#[]⟩, .string ⟨#[]⟩], .int .i64 e]) (by simp [results, Tryz.results34, go_sem, gB1_0, gB1_1]) rfl ⟨rfl, HX2.out⟩

set_option maxRecDepth 100000 in
set_option maxHeartbeats 2000000 in
theorem atow_n (n : V3) (w : World) (g : Gd w) (hn : VB 24 n) (hz : ¬ (n.x = 0 ∧ n.y = 0 ∧ n.z = 0)) (hx0 : n.x = 0) (hy0 : n.y = 0) : Calls Tryz.prog 34 #[.agg #[.string (qs n.x), .string (qs n.y), .string (qs n.z)]] w (Ret w (.tuple #[.agg #[.string ⟨#[]⟩, .string ⟨#[]⟩], .int .i64 19])) := by
  have HN4 := Lib.hid hn
  have HZ := Lib.hid hz
  have HG := Lib.hid g
  clear hn hz g
  have hx0_t := qs_is0 hx0
  have hy0_t := qs_is0 hy0
  clear hx0 hy0
  go_enter Tryz.func34, Tryz.ntmps34
  go_wp2_with fail
  refine (acheck_ok n _ (HG.out.ext (((Ext.refl w).alloc _).alloc _)) (HN4.out.mono (by decide)) HZ.out).mono ?_; rintro e w1 ⟨rfl, e1⟩
  have HX1 : Hid (Ext w w1) := Lib.hid ((((Ext.refl w).alloc _).alloc _).trans e1)
  have HB0_1 : Hid (Blk w1 (w.heap.size) #[.string (qs n.x), .string (qs n.y), .string (qs n.z)] 37) := Lib.hid (Blk.ext ((Blk.new' (w := _) (cs := #[.string (qs n.x), .string (qs n.y), .string (qs n.z)]) (t := 37) (by first | rfl | (simp only [World.size_alloc]; done) | (simp only [World.size_alloc]; omega) | simp)).alloc _) e1)
  have HB1_1 : Hid (Blk w1 (w.heap.size + 1) #[.string ⟨#[]⟩, .string ⟨#[]⟩] 24) := Lib.hid (Blk.ext (Blk.new' (w := _) (cs := #[.string ⟨#[]⟩, .string ⟨#[]⟩]) (t := 24) (by first | rfl | (simp only [World.size_alloc]; done) | (simp only [World.size_alloc]; omega) | simp)) e1)
  have HGEB0 : Hid (w.heap.size ≤ w.heap.size) := Lib.hid (by first | omega | (simp only []; omega) | (simp; omega))
  have HGEB1 : Hid (w.heap.size ≤ w.heap.size + 1) := Lib.hid (by first | omega | (simp only []; omega) | (simp; omega))
  clear e1
  have c0_0 := HB0_1.out.cell 0 rfl
  have c0_1 := HB0_1.out.cell 1 rfl
  have c1_0 := HB1_1.out.cell 0 rfl
  have f1_0 := HB1_1.out.free 0
  have c1_1 := HB1_1.out.cell 1 rfl
  have f1_1 := HB1_1.out.free 1
  go_wp2_with fail
  refine wp_name (fun W => Ext w W ∧ Blk W (w.heap.size + 1) #[.string ⟨#[]⟩, .string ⟨#[]⟩] 24) ⟨((HX1.out.setCell (by have := HGEB1.out; first | omega | (simp only []; omega) | (simp; omega)) _).setCell (by have := HGEB1.out; first | omega | (simp only []; omega) | (simp; omega)) _), ((HB1_1.out.set 0 (.string ⟨#[]⟩)).set 1 (.string ⟨#[]⟩))⟩ ?_
  rintro w2 ⟨e2, bB1_2⟩
  have HX2 := Lib.hid e2; have HB1_2 := Lib.hid bB1_2
  clear e2 bB1_2 c0_0 c0_1 c1_0 f1_0 c1_1 f1_1
  have gB1_0 := HB1_2.out.cell 0 rfl
  have gB1_1 := HB1_2.out.cell 1 rfl
  refine bodyPost_ret (v := .tuple #[.agg #[.string ⟨#[]⟩, .string ⟨#[]⟩], .int .i64 19]) (by simp [results, Tryz.results34, go_sem, gB1_0, gB1_1]) rfl ⟨rfl, HX2.out⟩

set_option maxRecDepth 100000 in
set_option maxHeartbeats 4000000 in
theorem atow_m0 (n : V3) (w : World) (g : Gd w) (hn : VB 24 n) (hs : n.z < 0) (hx0 : n.x ≠ 0) : Calls Tryz.prog 34 #[.agg #[.string (qs n.x), .string (qs n.y), .string (qs n.z)]] w (Ret w (.tuple #[.agg #[.string (qs ((todir n).x)), .string (qs ((todir n).y))], .int .i64 0])) := by
  have HN4 := Lib.hid hn
  have HS := Lib.hid hs
  have HG := Lib.hid g
  clear hn hs g
  have hx0_t := qs_not0 hx0
  have hs_d : decide (n.z.num < 0) = true := decide_eq_true (by exact rnum_neg.2 HS.out)
  have HZ : Hid (¬ (n.x = 0 ∧ n.y = 0 ∧ n.z = 0)) := Lib.hid (fun e => hx0 e.1)
  have HZ2 : Hid (¬ (n.x = 0 ∧ n.y = 0)) := Lib.hid (fun e => hx0 e.1)
  clear hx0
  have HFX : Hid ((flatv n).x = -n.x) := Lib.hid (by unfold flatv; rw [if_pos HS.out]); have HFY : Hid ((flatv n).y = -n.y) := Lib.hid (by unfold flatv; rw [if_pos HS.out])
  go_enter Tryz.func34, Tryz.ntmps34
  go_wp2_with fail
  refine (acheck_ok n _ (HG.out.ext (((Ext.refl w).alloc _).alloc _)) (HN4.out.mono (by decide)) HZ.out).mono ?_; rintro e w1 ⟨rfl, e1⟩
  have HX1 : Hid (Ext w w1) := Lib.hid ((((Ext.refl w).alloc _).alloc _).trans e1)
  have HB0_1 : Hid (Blk w1 (w.heap.size) #[.string (qs n.x), .string (qs n.y), .string (qs n.z)] 37) := Lib.hid (Blk.ext ((Blk.new' (w := _) (cs := #[.string (qs n.x), .string (qs n.y), .string (qs n.z)]) (t := 37) (by first | rfl | (simp only [World.size_alloc]; done) | (simp only [World.size_alloc]; omega) | simp)).alloc _) e1)
  have HB1_1 : Hid (Blk w1 (w.heap.size + 1) #[.string ⟨#[]⟩, .string ⟨#[]⟩] 24) := Lib.hid (Blk.ext (Blk.new' (w := _) (cs := #[.string ⟨#[]⟩, .string ⟨#[]⟩]) (t := 24) (by first | rfl | (simp only [World.size_alloc]; done) | (simp only [World.size_alloc]; omega) | simp)) e1)
  have HGEB0 : Hid (w.heap.size ≤ w.heap.size) := Lib.hid (by first | omega | (simp only []; omega) | (simp; omega))
  have HGEB1 : Hid (w.heap.size ≤ w.heap.size + 1) := Lib.hid (by first | omega | (simp only []; omega) | (simp; omega))
  clear e1
  have c0_0 := HB0_1.out.cell 0 rfl
  have c0_1 := HB0_1.out.cell 1 rfl
  go_upto_region 7 with fail
  refine wp_name (fun W => Ext w W ∧ Blk W (w.heap.size) #[.string (qs n.x), .string (qs n.y), .string (qs n.z)] 37 ∧ Blk W (w.heap.size + 1) #[.string ⟨#[]⟩, .string ⟨#[]⟩] 24 ∧ Blk W (w1.heap.size) #[.string (qs n.x), .string (qs n.y), .string ⟨#[48]⟩] 37) ⟨(HX1.out.alloc _), (HB0_1.out.alloc _), (HB1_1.out.alloc _), (Blk.new' (w := _) (cs := #[.string (qs n.x), .string (qs n.y), .string ⟨#[48]⟩]) (t := 37) (by first | rfl | (simp only [World.size_alloc]; done) | (simp only [World.size_alloc]; omega) | simp))⟩ ?_
  rintro w2 ⟨e2, bB0_2, bB1_2, bB2_2⟩
  have HX2 := Lib.hid e2; have HB0_2 := Lib.hid bB0_2; have HB1_2 := Lib.hid bB1_2; have HB2_2 := Lib.hid bB2_2
  have HGEB2 : Hid (w.heap.size ≤ w1.heap.size) := Lib.hid (by have := HX1.out.size; first | omega | (simp only []; omega) | (simp; omega))
  clear e2 bB0_2 bB1_2 bB2_2 c0_0 c0_1
  have c0_2 := HB0_2.out.cell 2 rfl
  go_wp2_with fail
  refine (rsign_c n.z _).mono ?_; rintro e _ ⟨rfl, rfl⟩
  clear c0_2
  go_wp2_with fail
  refine wp_name (fun W => Ext w W ∧ Blk W (w.heap.size) #[.string (qs n.x), .string (qs n.y), .string (qs n.z)] 37 ∧ Blk W (w.heap.size + 1) #[.string ⟨#[]⟩, .string ⟨#[]⟩] 24 ∧ Blk W (w1.heap.size) #[.string (qs n.x), .string (qs n.y), .string ⟨#[48]⟩] 37) ⟨HX2.out, HB0_2.out, HB1_2.out, HB2_2.out⟩ ?_
  rintro w3 ⟨e3, bB0_3, bB1_3, bB2_3⟩
  have HX3 := Lib.hid e3; have HB0_3 := Lib.hid bB0_3; have HB1_3 := Lib.hid bB1_3; have HB2_3 := Lib.hid bB2_3
  clear e3 bB0_3 bB1_3 bB2_3
  have hS3 : w3.cell? ⟨w.heap.size, 0, none⟩ = some (.string (qs n.x)) ∧ w3.cell? ⟨w.heap.size, 1, none⟩ = some (.string (qs n.y)) := ⟨HB0_3.out.cell 0 rfl, HB0_3.out.cell 1 rfl⟩
  have HS3 := Lib.hid hS3; clear hS3
  go_region_held3 (fun w' => w'.cell? ⟨w.heap.size, 0, none⟩ = some (.string (qs n.x)) ∧ w'.cell? ⟨w.heap.size, 1, none⟩ = some (.string (qs n.y)))
    (((try simp only [cell_set_ne9 (show w.heap.size ≠ w1.heap.size from by have := HB0_1.out.lt; first | omega | (simp only []; omega) | (simp; omega))]); exact keepsH2 (by repeat (first | assumption | exact Ext.refl _ | apply Ext.drew | apply Ext.alloc | (refine Ext.setCell ?_ (by first | omega | (simp only []; omega) | (simp; omega)) _) | (refine Ext.trans ?_ (by assumption)))) HS3.out)) ((first
      | (go_at_call 29; ((with_reducible refine (rneg_c n.x _ HN4.out.x (by omega)).mono ?_); rintro e w4 ⟨rfl, e4⟩))
      | (go_at_call 29; ((with_reducible refine (rneg_c n.y _ HN4.out.y (by omega)).mono ?_); rintro e w5 ⟨rfl, e5⟩; have RB2 := Blk.ext HB2_3.out (w' := w5) (by repeat (first | assumption | exact Ext.refl _ | apply Ext.drew | (refine Ext.trans ?_ (by assumption)))); have cB2_0 := RB2.cell 0 rfl; have fB2_0 := RB2.free 0; have cB2_1 := RB2.cell 1 rfl; have fB2_1 := RB2.free 1; have HRB2 := Lib.hid RB2; clear RB2))))
  refine wp_name (fun W => Ext w W ∧ Blk W (w.heap.size + 1) #[.string ⟨#[]⟩, .string ⟨#[]⟩] 24 ∧ Blk W (w1.heap.size) #[.string (qs (-n.x)), .string (qs (-n.y)), .string ⟨#[48]⟩] 37) ⟨(((HX3.out.trans (by repeat (first | assumption | exact Ext.refl _ | apply Ext.drew | apply Ext.alloc | (refine Ext.trans ?_ (by assumption))))).setCell (by have := HGEB2.out; first | omega | (simp only []; omega) | (simp; omega)) _).setCell (by have := HGEB2.out; first | omega | (simp only []; omega) | (simp; omega)) _), (((Blk.ext HB1_3.out (by repeat (first | assumption | exact Ext.refl _ | apply Ext.drew | apply Ext.alloc | (refine Ext.trans ?_ (by assumption))))).other (a := ⟨w1.heap.size, 0, none⟩) _ (by have := HB1_1.out.lt; first | omega | (simp only []; omega) | (simp; omega))).other (a := ⟨w1.heap.size, 1, none⟩) _ (by have := HB1_1.out.lt; first | omega | (simp only []; omega) | (simp; omega))), (((Blk.ext HB2_3.out (by repeat (first | assumption | exact Ext.refl _ | apply Ext.drew | apply Ext.alloc | (refine Ext.trans ?_ (by assumption))))).set 0 (.string (qs (-n.x)))).set 1 (.string (qs (-n.y))))⟩ ?_
  clear cB2_0 fB2_0 cB2_1 fB2_1
  rintro w6 ⟨e6, bB1_6, bB2_6⟩
  have HX6 := Lib.hid e6; have HB1_6 := Lib.hid bB1_6; have HB2_6 := Lib.hid bB2_6
  clear e6 bB1_6 bB2_6
  have c2_0 := HB2_6.out.cell 0 rfl
  have c2_1 := HB2_6.out.cell 1 rfl
  have c2_2 := HB2_6.out.cell 2 rfl
  go_wp2_with fail
  refine ((HFX.out ▸ HFY.out ▸ vprim_flat n _ (HG.out.ext HX6.out) HN4.out HZ2.out)).mono ?_; rintro e w7 ⟨rfl, e7⟩
  have HX7 : Hid (Ext w w7) := Lib.hid (HX6.out.trans e7)
  have HB1_7 := Lib.hid (Blk.ext HB1_6.out e7)
  clear e7 c2_0 c2_1 c2_2
  go_upto_region 12 with fail
  refine wp_name (fun W => Ext w W ∧ Blk W (w.heap.size + 1) #[.string ⟨#[]⟩, .string ⟨#[]⟩] 24 ∧ Blk W (w7.heap.size) #[.string (qs ((todir n).x)), .string (qs ((todir n).y)), .string (qs ((vprim (flatv n)).z))] 37) ⟨(HX7.out.alloc _), (HB1_7.out.alloc _), (Blk.new' (w := _) (cs := #[.string (qs ((todir n).x)), .string (qs ((todir n).y)), .string (qs ((vprim (flatv n)).z))]) (t := 37) (by first | rfl | (simp only [World.size_alloc]; done) | (simp only [World.size_alloc]; omega) | simp))⟩ ?_
  rintro w8 ⟨e8, bB1_8, bB3_8⟩
  have HX8 := Lib.hid e8; have HB1_8 := Lib.hid bB1_8; have HB3_8 := Lib.hid bB3_8
  have HGEB3 : Hid (w.heap.size ≤ w7.heap.size) := Lib.hid (by have := HX7.out.size; first | omega | (simp only []; omega) | (simp; omega))
  clear e8 bB1_8 bB3_8
  have c3_0 := HB3_8.out.cell 0 rfl
  have c3_1 := HB3_8.out.cell 1 rfl
  have c1_0 := HB1_8.out.cell 0 rfl
  have f1_0 := HB1_8.out.free 0
  have c1_1 := HB1_8.out.cell 1 rfl
  have f1_1 := HB1_8.out.free 1
  go_wp2_with fail
  refine wp_name (fun W => Ext w W ∧ Blk W (w.heap.size + 1) #[.string (qs ((todir n).x)), .string (qs ((todir n).y))] 24) ⟨((HX8.out.setCell (by have := HGEB1.out; first | omega | (simp only []; omega) | (simp; omega)) _).setCell (by have := HGEB1.out; first | omega | (simp only []; omega) | (simp; omega)) _), ((HB1_8.out.set 0 (.string (qs ((todir n).x)))).set 1 (.string (qs ((todir n).y))))⟩ ?_
  rintro w9 ⟨e9, bB1_9⟩
  have HX9 := Lib.hid e9; have HB1_9 := Lib.hid bB1_9
  clear e9 bB1_9 c3_0 c3_1 c1_0 f1_0 c1_1 f1_1
  have gB1_0 := HB1_9.out.cell 0 rfl
  have gB1_1 := HB1_9.out.cell 1 rfl
  refine bodyPost_ret (v := .tuple #[.agg #[.string (qs ((todir n).x)), .string (qs ((todir n).y))], .int .i64 0]) (by simp [results, Tryz.results34, go_sem, gB1_0, gB1_1]) rfl ⟨rfl, HX9.out⟩

set_option maxRecDepth 100000 in
set_option maxHeartbeats 4000000 in
theorem atow_m1 (n : V3) (w : World) (g : Gd w) (hn : VB 24 n) (hs : n.z < 0) (hx0 : n.x = 0) (hy0 : n.y ≠ 0) : Calls Tryz.prog 34 #[.agg #[.string (qs n.x), .string (qs n.y), .string (qs n.z)]] w (Ret w (.tuple #[.agg #[.string (qs ((todir n).x)), .string (qs ((todir n).y))], .int .i64 0])) := by
  have HN4 := Lib.hid hn
  have HS := Lib.hid hs
  have HG := Lib.hid g
  clear hn hs g
  have hx0_t := qs_is0 hx0
  have hy0_t := qs_not0 hy0
  have hs_d : decide (n.z.num < 0) = true := decide_eq_true (by exact rnum_neg.2 HS.out)
  have HZ : Hid (¬ (n.x = 0 ∧ n.y = 0 ∧ n.z = 0)) := Lib.hid (fun e => hy0 e.2.1)
  have HZ2 : Hid (¬ (n.x = 0 ∧ n.y = 0)) := Lib.hid (fun e => hy0 e.2)
  clear hx0 hy0
  have HFX : Hid ((flatv n).x = -n.x) := Lib.hid (by unfold flatv; rw [if_pos HS.out]); have HFY : Hid ((flatv n).y = -n.y) := Lib.hid (by unfold flatv; rw [if_pos HS.out])
  go_enter Tryz.func34, Tryz.ntmps34
  go_wp2_with fail
  refine (acheck_ok n _ (HG.out.ext (((Ext.refl w).alloc _).alloc _)) (HN4.out.mono (by decide)) HZ.out).mono ?_; rintro e w1 ⟨rfl, e1⟩
  have HX1 : Hid (Ext w w1) := Lib.hid ((((Ext.refl w).alloc _).alloc _).trans e1)
  have HB0_1 : Hid (Blk w1 (w.heap.size) #[.string (qs n.x), .string (qs n.y), .string (qs n.z)] 37) := Lib.hid (Blk.ext ((Blk.new' (w := _) (cs := #[.string (qs n.x), .string (qs n.y), .string (qs n.z)]) (t := 37) (by first | rfl | (simp only [World.size_alloc]; done) | (simp only [World.size_alloc]; omega) | simp)).alloc _) e1)
  have HB1_1 : Hid (Blk w1 (w.heap.size + 1) #[.string ⟨#[]⟩, .string ⟨#[]⟩] 24) := Lib.hid (Blk.ext (Blk.new' (w := _) (cs := #[.string ⟨#[]⟩, .string ⟨#[]⟩]) (t := 24) (by first | rfl | (simp only [World.size_alloc]; done) | (simp only [World.size_alloc]; omega) | simp)) e1)
  have HGEB0 : Hid (w.heap.size ≤ w.heap.size) := Lib.hid (by first | omega | (simp only []; omega) | (simp; omega))
  have HGEB1 : Hid (w.heap.size ≤ w.heap.size + 1) := Lib.hid (by first | omega | (simp only []; omega) | (simp; omega))
  clear e1
  have c0_0 := HB0_1.out.cell 0 rfl
  have c0_1 := HB0_1.out.cell 1 rfl
  go_upto_region 7 with fail
  refine wp_name (fun W => Ext w W ∧ Blk W (w.heap.size) #[.string (qs n.x), .string (qs n.y), .string (qs n.z)] 37 ∧ Blk W (w.heap.size + 1) #[.string ⟨#[]⟩, .string ⟨#[]⟩] 24 ∧ Blk W (w1.heap.size) #[.string (qs n.x), .string (qs n.y), .string ⟨#[48]⟩] 37) ⟨(HX1.out.alloc _), (HB0_1.out.alloc _), (HB1_1.out.alloc _), (Blk.new' (w := _) (cs := #[.string (qs n.x), .string (qs n.y), .string ⟨#[48]⟩]) (t := 37) (by first | rfl | (simp only [World.size_alloc]; done) | (simp only [World.size_alloc]; omega) | simp))⟩ ?_
  rintro w2 ⟨e2, bB0_2, bB1_2, bB2_2⟩
  have HX2 := Lib.hid e2; have HB0_2 := Lib.hid bB0_2; have HB1_2 := Lib.hid bB1_2; have HB2_2 := Lib.hid bB2_2
  have HGEB2 : Hid (w.heap.size ≤ w1.heap.size) := Lib.hid (by have := HX1.out.size; first | omega | (simp only []; omega) | (simp; omega))
  clear e2 bB0_2 bB1_2 bB2_2 c0_0 c0_1
  have c0_2 := HB0_2.out.cell 2 rfl
  go_wp2_with fail
  refine (rsign_c n.z _).mono ?_; rintro e _ ⟨rfl, rfl⟩
  clear c0_2
  go_wp2_with fail
  refine wp_name (fun W => Ext w W ∧ Blk W (w.heap.size) #[.string (qs n.x), .string (qs n.y), .string (qs n.z)] 37 ∧ Blk W (w.heap.size + 1) #[.string ⟨#[]⟩, .string ⟨#[]⟩] 24 ∧ Blk W (w1.heap.size) #[.string (qs n.x), .string (qs n.y), .string ⟨#[48]⟩] 37) ⟨HX2.out, HB0_2.out, HB1_2.out, HB2_2.out⟩ ?_
  rintro w3 ⟨e3, bB0_3, bB1_3, bB2_3⟩
  have HX3 := Lib.hid e3; have HB0_3 := Lib.hid bB0_3; have HB1_3 := Lib.hid bB1_3; have HB2_3 := Lib.hid bB2_3
  clear e3 bB0_3 bB1_3 bB2_3
  have hS3 : w3.cell? ⟨w.heap.size, 0, none⟩ = some (.string (qs n.x)) ∧ w3.cell? ⟨w.heap.size, 1, none⟩ = some (.string (qs n.y)) := ⟨HB0_3.out.cell 0 rfl, HB0_3.out.cell 1 rfl⟩
  have HS3 := Lib.hid hS3; clear hS3
  go_region_held3 (fun w' => w'.cell? ⟨w.heap.size, 0, none⟩ = some (.string (qs n.x)) ∧ w'.cell? ⟨w.heap.size, 1, none⟩ = some (.string (qs n.y)))
    (((try simp only [cell_set_ne9 (show w.heap.size ≠ w1.heap.size from by have := HB0_1.out.lt; first | omega | (simp only []; omega) | (simp; omega))]); exact keepsH2 (by repeat (first | assumption | exact Ext.refl _ | apply Ext.drew | apply Ext.alloc | (refine Ext.setCell ?_ (by first | omega | (simp only []; omega) | (simp; omega)) _) | (refine Ext.trans ?_ (by assumption)))) HS3.out)) ((first
      | (go_at_call 29; ((with_reducible refine (rneg_c n.x _ HN4.out.x (by omega)).mono ?_); rintro e w4 ⟨rfl, e4⟩))
      | (go_at_call 29; ((with_reducible refine (rneg_c n.y _ HN4.out.y (by omega)).mono ?_); rintro e w5 ⟨rfl, e5⟩; have RB2 := Blk.ext HB2_3.out (w' := w5) (by repeat (first | assumption | exact Ext.refl _ | apply Ext.drew | (refine Ext.trans ?_ (by assumption)))); have cB2_0 := RB2.cell 0 rfl; have fB2_0 := RB2.free 0; have cB2_1 := RB2.cell 1 rfl; have fB2_1 := RB2.free 1; have HRB2 := Lib.hid RB2; clear RB2))))
  refine wp_name (fun W => Ext w W ∧ Blk W (w.heap.size + 1) #[.string ⟨#[]⟩, .string ⟨#[]⟩] 24 ∧ Blk W (w1.heap.size) #[.string (qs (-n.x)), .string (qs (-n.y)), .string ⟨#[48]⟩] 37) ⟨(((HX3.out.trans (by repeat (first | assumption | exact Ext.refl _ | apply Ext.drew | apply Ext.alloc | (refine Ext.trans ?_ (by assumption))))).setCell (by have := HGEB2.out; first | omega | (simp only []; omega) | (simp; omega)) _).setCell (by have := HGEB2.out; first | omega | (simp only []; omega) | (simp; omega)) _), (((Blk.ext HB1_3.out (by repeat (first | assumption | exact Ext.refl _ | apply Ext.drew | apply Ext.alloc | (refine Ext.trans ?_ (by assumption))))).other (a := ⟨w1.heap.size, 0, none⟩) _ (by have := HB1_1.out.lt; first | omega | (simp only []; omega) | (simp; omega))).other (a := ⟨w1.heap.size, 1, none⟩) _ (by have := HB1_1.out.lt; first | omega | (simp only []; omega) | (simp; omega))), (((Blk.ext HB2_3.out (by repeat (first | assumption | exact Ext.refl _ | apply Ext.drew | apply Ext.alloc | (refine Ext.trans ?_ (by assumption))))).set 0 (.string (qs (-n.x)))).set 1 (.string (qs (-n.y))))⟩ ?_
  clear cB2_0 fB2_0 cB2_1 fB2_1
  rintro w6 ⟨e6, bB1_6, bB2_6⟩
  have HX6 := Lib.hid e6; have HB1_6 := Lib.hid bB1_6; have HB2_6 := Lib.hid bB2_6
  clear e6 bB1_6 bB2_6
  have c2_0 := HB2_6.out.cell 0 rfl
  have c2_1 := HB2_6.out.cell 1 rfl
  have c2_2 := HB2_6.out.cell 2 rfl
  go_wp2_with fail
  refine ((HFX.out ▸ HFY.out ▸ vprim_flat n _ (HG.out.ext HX6.out) HN4.out HZ2.out)).mono ?_; rintro e w7 ⟨rfl, e7⟩
  have HX7 : Hid (Ext w w7) := Lib.hid (HX6.out.trans e7)
  have HB1_7 := Lib.hid (Blk.ext HB1_6.out e7)
  clear e7 c2_0 c2_1 c2_2
  go_upto_region 12 with fail
  refine wp_name (fun W => Ext w W ∧ Blk W (w.heap.size + 1) #[.string ⟨#[]⟩, .string ⟨#[]⟩] 24 ∧ Blk W (w7.heap.size) #[.string (qs ((todir n).x)), .string (qs ((todir n).y)), .string (qs ((vprim (flatv n)).z))] 37) ⟨(HX7.out.alloc _), (HB1_7.out.alloc _), (Blk.new' (w := _) (cs := #[.string (qs ((todir n).x)), .string (qs ((todir n).y)), .string (qs ((vprim (flatv n)).z))]) (t := 37) (by first | rfl | (simp only [World.size_alloc]; done) | (simp only [World.size_alloc]; omega) | simp))⟩ ?_
  rintro w8 ⟨e8, bB1_8, bB3_8⟩
  have HX8 := Lib.hid e8; have HB1_8 := Lib.hid bB1_8; have HB3_8 := Lib.hid bB3_8
  have HGEB3 : Hid (w.heap.size ≤ w7.heap.size) := Lib.hid (by have := HX7.out.size; first | omega | (simp only []; omega) | (simp; omega))
  clear e8 bB1_8 bB3_8
  have c3_0 := HB3_8.out.cell 0 rfl
  have c3_1 := HB3_8.out.cell 1 rfl
  have c1_0 := HB1_8.out.cell 0 rfl
  have f1_0 := HB1_8.out.free 0
  have c1_1 := HB1_8.out.cell 1 rfl
  have f1_1 := HB1_8.out.free 1
  go_wp2_with fail
  refine wp_name (fun W => Ext w W ∧ Blk W (w.heap.size + 1) #[.string (qs ((todir n).x)), .string (qs ((todir n).y))] 24) ⟨((HX8.out.setCell (by have := HGEB1.out; first | omega | (simp only []; omega) | (simp; omega)) _).setCell (by have := HGEB1.out; first | omega | (simp only []; omega) | (simp; omega)) _), ((HB1_8.out.set 0 (.string (qs ((todir n).x)))).set 1 (.string (qs ((todir n).y))))⟩ ?_
  rintro w9 ⟨e9, bB1_9⟩
  have HX9 := Lib.hid e9; have HB1_9 := Lib.hid bB1_9
  clear e9 bB1_9 c3_0 c3_1 c1_0 f1_0 c1_1 f1_1
  have gB1_0 := HB1_9.out.cell 0 rfl
  have gB1_1 := HB1_9.out.cell 1 rfl
  refine bodyPost_ret (v := .tuple #[.agg #[.string (qs ((todir n).x)), .string (qs ((todir n).y))], .int .i64 0]) (by simp [results, Tryz.results34, go_sem, gB1_0, gB1_1]) rfl ⟨rfl, HX9.out⟩

set_option maxRecDepth 100000 in
set_option maxHeartbeats 4000000 in
theorem atow_p0 (n : V3) (w : World) (g : Gd w) (hn : VB 24 n) (hs : ¬ n.z < 0) (hx0 : n.x ≠ 0) : Calls Tryz.prog 34 #[.agg #[.string (qs n.x), .string (qs n.y), .string (qs n.z)]] w (Ret w (.tuple #[.agg #[.string (qs ((todir n).x)), .string (qs ((todir n).y))], .int .i64 0])) := by
  have HN4 := Lib.hid hn
  have HS := Lib.hid hs
  have HG := Lib.hid g
  clear hn hs g
  have hx0_t := qs_not0 hx0
  have hs_d : decide (n.z.num < 0) = false := decide_eq_false (by exact fun e => HS.out (rnum_neg.1 e))
  have HZ : Hid (¬ (n.x = 0 ∧ n.y = 0 ∧ n.z = 0)) := Lib.hid (fun e => hx0 e.1)
  have HZ2 : Hid (¬ (n.x = 0 ∧ n.y = 0)) := Lib.hid (fun e => hx0 e.1)
  clear hx0
  have HFX : Hid ((flatv n).x = n.x) := Lib.hid (by unfold flatv; rw [if_neg HS.out]); have HFY : Hid ((flatv n).y = n.y) := Lib.hid (by unfold flatv; rw [if_neg HS.out])
  go_enter Tryz.func34, Tryz.ntmps34
  go_wp2_with fail
  refine (acheck_ok n _ (HG.out.ext (((Ext.refl w).alloc _).alloc _)) (HN4.out.mono (by decide)) HZ.out).mono ?_; rintro e w1 ⟨rfl, e1⟩
  have HX1 : Hid (Ext w w1) := Lib.hid ((((Ext.refl w).alloc _).alloc _).trans e1)
  have HB0_1 : Hid (Blk w1 (w.heap.size) #[.string (qs n.x), .string (qs n.y), .string (qs n.z)] 37) := Lib.hid (Blk.ext ((Blk.new' (w := _) (cs := #[.string (qs n.x), .string (qs n.y), .string (qs n.z)]) (t := 37) (by first | rfl | (simp only [World.size_alloc]; done) | (simp only [World.size_alloc]; omega) | simp)).alloc _) e1)
  have HB1_1 : Hid (Blk w1 (w.heap.size + 1) #[.string ⟨#[]⟩, .string ⟨#[]⟩] 24) := Lib.hid (Blk.ext (Blk.new' (w := _) (cs := #[.string ⟨#[]⟩, .string ⟨#[]⟩]) (t := 24) (by first | rfl | (simp only [World.size_alloc]; done) | (simp only [World.size_alloc]; omega) | simp)) e1)
  have HGEB0 : Hid (w.heap.size ≤ w.heap.size) := Lib.hid (by first | omega | (simp only []; omega) | (simp; omega))
  have HGEB1 : Hid (w.heap.size ≤ w.heap.size + 1) := Lib.hid (by first | omega | (simp only []; omega) | (simp; omega))
  clear e1
  have c0_0 := HB0_1.out.cell 0 rfl
  have c0_1 := HB0_1.out.cell 1 rfl
  go_upto_region 7 with fail
  refine wp_name (fun W => Ext w W ∧ Blk W (w.heap.size) #[.string (qs n.x), .string (qs n.y), .string (qs n.z)] 37 ∧ Blk W (w.heap.size + 1) #[.string ⟨#[]⟩, .string ⟨#[]⟩] 24 ∧ Blk W (w1.heap.size) #[.string (qs n.x), .string (qs n.y), .string ⟨#[48]⟩] 37) ⟨(HX1.out.alloc _), (HB0_1.out.alloc _), (HB1_1.out.alloc _), (Blk.new' (w := _) (cs := #[.string (qs n.x), .string (qs n.y), .string ⟨#[48]⟩]) (t := 37) (by first | rfl | (simp only [World.size_alloc]; done) | (simp only [World.size_alloc]; omega) | simp))⟩ ?_
  rintro w2 ⟨e2, bB0_2, bB1_2, bB2_2⟩
  have HX2 := Lib.hid e2; have HB0_2 := Lib.hid bB0_2; have HB1_2 := Lib.hid bB1_2; have HB2_2 := Lib.hid bB2_2
  have HGEB2 : Hid (w.heap.size ≤ w1.heap.size) := Lib.hid (by have := HX1.out.size; first | omega | (simp only []; omega) | (simp; omega))
  clear e2 bB0_2 bB1_2 bB2_2 c0_0 c0_1
  have c0_2 := HB0_2.out.cell 2 rfl
  go_wp2_with fail
  refine (rsign_c n.z _).mono ?_; rintro e _ ⟨rfl, rfl⟩
  clear c0_2
  have c2_0 := HB2_2.out.cell 0 rfl
  have c2_1 := HB2_2.out.cell 1 rfl
  have c2_2 := HB2_2.out.cell 2 rfl
  go_wp2_with fail
  refine ((HFX.out ▸ HFY.out ▸ vprim_flat n _ (HG.out.ext HX2.out) HN4.out HZ2.out)).mono ?_; rintro e w3 ⟨rfl, e3⟩
  have HX3 : Hid (Ext w w3) := Lib.hid (HX2.out.trans e3)
  have HB1_3 := Lib.hid (Blk.ext HB1_2.out e3)
  clear e3 c2_0 c2_1 c2_2
  go_upto_region 12 with fail
  refine wp_name (fun W => Ext w W ∧ Blk W (w.heap.size + 1) #[.string ⟨#[]⟩, .string ⟨#[]⟩] 24 ∧ Blk W (w3.heap.size) #[.string (qs ((todir n).x)), .string (qs ((todir n).y)), .string (qs ((vprim (flatv n)).z))] 37) ⟨(HX3.out.alloc _), (HB1_3.out.alloc _), (Blk.new' (w := _) (cs := #[.string (qs ((todir n).x)), .string (qs ((todir n).y)), .string (qs ((vprim (flatv n)).z))]) (t := 37) (by first | rfl | (simp only [World.size_alloc]; done) | (simp only [World.size_alloc]; omega) | simp))⟩ ?_
  rintro w4 ⟨e4, bB1_4, bB3_4⟩
  have HX4 := Lib.hid e4; have HB1_4 := Lib.hid bB1_4; have HB3_4 := Lib.hid bB3_4
  have HGEB3 : Hid (w.heap.size ≤ w3.heap.size) := Lib.hid (by have := HX3.out.size; first | omega | (simp only []; omega) | (simp; omega))
  clear e4 bB1_4 bB3_4
  have c3_0 := HB3_4.out.cell 0 rfl
  have c3_1 := HB3_4.out.cell 1 rfl
  have c1_0 := HB1_4.out.cell 0 rfl
  have f1_0 := HB1_4.out.free 0
  have c1_1 := HB1_4.out.cell 1 rfl
  have f1_1 := HB1_4.out.free 1
  go_wp2_with fail
  refine wp_name (fun W => Ext w W ∧ Blk W (w.heap.size + 1) #[.string (qs ((todir n).x)), .string (qs ((todir n).y))] 24) ⟨((HX4.out.setCell (by have := HGEB1.out; first | omega | (simp only []; omega) | (simp; omega)) _).setCell (by have := HGEB1.out; first | omega | (simp only []; omega) | (simp; omega)) _), ((HB1_4.out.set 0 (.string (qs ((todir n).x)))).set 1 (.string (qs ((todir n).y))))⟩ ?_
  rintro w5 ⟨e5, bB1_5⟩
  have HX5 := Lib.hid e5; have HB1_5 := Lib.hid bB1_5
  clear e5 bB1_5 c3_0 c3_1 c1_0 f1_0 c1_1 f1_1
  have gB1_0 := HB1_5.out.cell 0 rfl
  have gB1_1 := HB1_5.out.cell 1 rfl
  refine bodyPost_ret (v := .tuple #[.agg #[.string (qs ((todir n).x)), .string (qs ((todir n).y))], .int .i64 0]) (by simp [results, Tryz.results34, go_sem, gB1_0, gB1_1]) rfl ⟨rfl, HX5.out⟩

set_option maxRecDepth 100000 in
set_option maxHeartbeats 4000000 in
theorem atow_p1 (n : V3) (w : World) (g : Gd w) (hn : VB 24 n) (hs : ¬ n.z < 0) (hx0 : n.x = 0) (hy0 : n.y ≠ 0) : Calls Tryz.prog 34 #[.agg #[.string (qs n.x), .string (qs n.y), .string (qs n.z)]] w (Ret w (.tuple #[.agg #[.string (qs ((todir n).x)), .string (qs ((todir n).y))], .int .i64 0])) := by
  have HN4 := Lib.hid hn
  have HS := Lib.hid hs
  have HG := Lib.hid g
  clear hn hs g
  have hx0_t := qs_is0 hx0
  have hy0_t := qs_not0 hy0
  have hs_d : decide (n.z.num < 0) = false := decide_eq_false (by exact fun e => HS.out (rnum_neg.1 e))
  have HZ : Hid (¬ (n.x = 0 ∧ n.y = 0 ∧ n.z = 0)) := Lib.hid (fun e => hy0 e.2.1)
  have HZ2 : Hid (¬ (n.x = 0 ∧ n.y = 0)) := Lib.hid (fun e => hy0 e.2)
  clear hx0 hy0
  have HFX : Hid ((flatv n).x = n.x) := Lib.hid (by unfold flatv; rw [if_neg HS.out]); have HFY : Hid ((flatv n).y = n.y) := Lib.hid (by unfold flatv; rw [if_neg HS.out])
  go_enter Tryz.func34, Tryz.ntmps34
  go_wp2_with fail
  refine (acheck_ok n _ (HG.out.ext (((Ext.refl w).alloc _).alloc _)) (HN4.out.mono (by decide)) HZ.out).mono ?_; rintro e w1 ⟨rfl, e1⟩
  have HX1 : Hid (Ext w w1) := Lib.hid ((((Ext.refl w).alloc _).alloc _).trans e1)
  have HB0_1 : Hid (Blk w1 (w.heap.size) #[.string (qs n.x), .string (qs n.y), .string (qs n.z)] 37) := Lib.hid (Blk.ext ((Blk.new' (w := _) (cs := #[.string (qs n.x), .string (qs n.y), .string (qs n.z)]) (t := 37) (by first | rfl | (simp only [World.size_alloc]; done) | (simp only [World.size_alloc]; omega) | simp)).alloc _) e1)
  have HB1_1 : Hid (Blk w1 (w.heap.size + 1) #[.string ⟨#[]⟩, .string ⟨#[]⟩] 24) := Lib.hid (Blk.ext (Blk.new' (w := _) (cs := #[.string ⟨#[]⟩, .string ⟨#[]⟩]) (t := 24) (by first | rfl | (simp only [World.size_alloc]; done) | (simp only [World.size_alloc]; omega) | simp)) e1)
  have HGEB0 : Hid (w.heap.size ≤ w.heap.size) := Lib.hid (by first | omega | (simp only []; omega) | (simp; omega))
  have HGEB1 : Hid (w.heap.size ≤ w.heap.size + 1) := Lib.hid (by first | omega | (simp only []; omega) | (simp; omega))
  clear e1
  have c0_0 := HB0_1.out.cell 0 rfl
  have c0_1 := HB0_1.out.cell 1 rfl
  go_upto_region 7 with fail
  refine wp_name (fun W => Ext w W ∧ Blk W (w.heap.size) #[.string (qs n.x), .string (qs n.y), .string (qs n.z)] 37 ∧ Blk W (w.heap.size + 1) #[.string ⟨#[]⟩, .string ⟨#[]⟩] 24 ∧ Blk W (w1.heap.size) #[.string (qs n.x), .string (qs n.y), .string ⟨#[48]⟩] 37) ⟨(HX1.out.alloc _), (HB0_1.out.alloc _), (HB1_1.out.alloc _), (Blk.new' (w := _) (cs := #[.string (qs n.x), .string (qs n.y), .string ⟨#[48]⟩]) (t := 37) (by first | rfl | (simp only [World.size_alloc]; done) | (simp only [World.size_alloc]; omega) | simp))⟩ ?_
  rintro w2 ⟨e2, bB0_2, bB1_2, bB2_2⟩
  have HX2 := Lib.hid e2; have HB0_2 := Lib.hid bB0_2; have HB1_2 := Lib.hid bB1_2; have HB2_2 := Lib.hid bB2_2
  have HGEB2 : Hid (w.heap.size ≤ w1.heap.size) := Lib.hid (by have := HX1.out.size; first | omega | (simp only []; omega) | (simp; omega))
  clear e2 bB0_2 bB1_2 bB2_2 c0_0 c0_1
  have c0_2 := HB0_2.out.cell 2 rfl
  go_wp2_with fail
  refine (rsign_c n.z _).mono ?_; rintro e _ ⟨rfl, rfl⟩
  clear c0_2
  have c2_0 := HB2_2.out.cell 0 rfl
  have c2_1 := HB2_2.out.cell 1 rfl
  have c2_2 := HB2_2.out.cell 2 rfl
  go_wp2_with fail
  refine ((HFX.out ▸ HFY.out ▸ vprim_flat n _ (HG.out.ext HX2.out) HN4.out HZ2.out)).mono ?_; rintro e w3 ⟨rfl, e3⟩
  have HX3 : Hid (Ext w w3) := Lib.hid (HX2.out.trans e3)
  have HB1_3 := Lib.hid (Blk.ext HB1_2.out e3)
  clear e3 c2_0 c2_1 c2_2
  go_upto_region 12 with fail
  refine wp_name (fun W => Ext w W ∧ Blk W (w.heap.size + 1) #[.string ⟨#[]⟩, .string ⟨#[]⟩] 24 ∧ Blk W (w3.heap.size) #[.string (qs ((todir n).x)), .string (qs ((todir n).y)), .string (qs ((vprim (flatv n)).z))] 37) ⟨(HX3.out.alloc _), (HB1_3.out.alloc _), (Blk.new' (w := _) (cs := #[.string (qs ((todir n).x)), .string (qs ((todir n).y)), .string (qs ((vprim (flatv n)).z))]) (t := 37) (by first | rfl | (simp only [World.size_alloc]; done) | (simp only [World.size_alloc]; omega) | simp))⟩ ?_
  rintro w4 ⟨e4, bB1_4, bB3_4⟩
  have HX4 := Lib.hid e4; have HB1_4 := Lib.hid bB1_4; have HB3_4 := Lib.hid bB3_4
  have HGEB3 : Hid (w.heap.size ≤ w3.heap.size) := Lib.hid (by have := HX3.out.size; first | omega | (simp only []; omega) | (simp; omega))
  clear e4 bB1_4 bB3_4
  have c3_0 := HB3_4.out.cell 0 rfl
  have c3_1 := HB3_4.out.cell 1 rfl
  have c1_0 := HB1_4.out.cell 0 rfl
  have f1_0 := HB1_4.out.free 0
  have c1_1 := HB1_4.out.cell 1 rfl
  have f1_1 := HB1_4.out.free 1
  go_wp2_with fail
  refine wp_name (fun W => Ext w W ∧ Blk W (w.heap.size + 1) #[.string (qs ((todir n).x)), .string (qs ((todir n).y))] 24) ⟨((HX4.out.setCell (by have := HGEB1.out; first | omega | (simp only []; omega) | (simp; omega)) _).setCell (by have := HGEB1.out; first | omega | (simp only []; omega) | (simp; omega)) _), ((HB1_4.out.set 0 (.string (qs ((todir n).x)))).set 1 (.string (qs ((todir n).y))))⟩ ?_
  rintro w5 ⟨e5, bB1_5⟩
  have HX5 := Lib.hid e5; have HB1_5 := Lib.hid bB1_5
  clear e5 bB1_5 c3_0 c3_1 c1_0 f1_0 c1_1 f1_1
  have gB1_0 := HB1_5.out.cell 0 rfl
  have gB1_1 := HB1_5.out.cell 1 rfl
  refine bodyPost_ret (v := .tuple #[.agg #[.string (qs ((todir n).x)), .string (qs ((todir n).y))], .int .i64 0]) (by simp [results, Tryz.results34, go_sem, gB1_0, gB1_1]) rfl ⟨rfl, HX5.out⟩

theorem atow_ok (n : V3) (w : World) (g : Gd w) (hn : VB 24 n) (h : ¬ (n.x = 0 ∧ n.y = 0)) : Calls Tryz.prog 34 #[vv n] w (Ret w (.tuple #[pv (todir n), .int .i64 0])) := by
  by_cases hx : n.x = 0
  · by_cases hs : n.z < 0
    · exact atow_m1 n w g hn hs hx (fun e => h ⟨hx, e⟩)
    · exact atow_p1 n w g hn hs hx (fun e => h ⟨hx, e⟩)
  · by_cases hs : n.z < 0
    · exact atow_m0 n w g hn hs hx
    · exact atow_p0 n w g hn hs hx

set_option maxRecDepth 100000 in
set_option maxHeartbeats 2000000 in
theorem astr_ok (n : V3) (w : World) (g : Gd w) (hn : VB 24 n) (h : ¬ (n.x = 0 ∧ n.y = 0)) : Calls Tryz.prog 35 #[.agg #[.string (qs n.x), .string (qs n.y), .string (qs n.z)]] w (Ret w (.tuple #[.agg #[.string (qs (-(todir n).y)), .string (qs ((todir n).x))], .int .i64 0])) := by
  have HN4 := Lib.hid hn
  have H := Lib.hid h
  have HG := Lib.hid g
  clear hn h g
  have HD := Lib.hid (tow_ok (by decide) (by decide) HN4.out H.out)
  go_enter Tryz.func35, Tryz.ntmps35
  go_wp2_with fail
  refine (atow_ok n _ (HG.out.ext (((Ext.refl w).alloc _).alloc _)) HN4.out H.out).mono ?_; rintro e w1 ⟨rfl, e1⟩
  have HX1 : Hid (Ext w w1) := Lib.hid ((((Ext.refl w).alloc _).alloc _).trans e1)
  have HB1_1 : Hid (Blk w1 (w.heap.size + 1) #[.string ⟨#[]⟩, .string ⟨#[]⟩] 24) := Lib.hid (Blk.ext (Blk.new' (w := _) (cs := #[.string ⟨#[]⟩, .string ⟨#[]⟩]) (t := 24) (by first | rfl | (simp only [World.size_alloc]; done) | (simp only [World.size_alloc]; omega) | simp)) e1)
  have HGEB1 : Hid (w.heap.size ≤ w.heap.size + 1) := Lib.hid (by first | omega | (simp only []; omega) | (simp; omega))
  clear e1
  go_wp2_with fail
  refine wp_name (fun W => Ext w W ∧ Blk W (w.heap.size + 1) #[.string ⟨#[]⟩, .string ⟨#[]⟩] 24 ∧ Blk W (w1.heap.size) #[.string (qs ((todir n).x)), .string (qs ((todir n).y))] 24) ⟨(HX1.out.alloc _), (HB1_1.out.alloc _), (Blk.new' (w := _) (cs := #[.string (qs ((todir n).x)), .string (qs ((todir n).y))]) (t := 24) (by first | rfl | (simp only [World.size_alloc]; done) | (simp only [World.size_alloc]; omega) | simp))⟩ ?_
  rintro w2 ⟨e2, bB1_2, bB2_2⟩
  have HX2 := Lib.hid e2; have HB1_2 := Lib.hid bB1_2; have HB2_2 := Lib.hid bB2_2
  have HGEB2 : Hid (w.heap.size ≤ w1.heap.size) := Lib.hid (by have := HX1.out.size; first | omega | (simp only []; omega) | (simp; omega))
  clear e2 bB1_2 bB2_2
  refine region_lin_s (X := w) [⟨w.heap.size + 1, #[.string ⟨#[]⟩, .string ⟨#[]⟩], #[.string (qs (-(todir n).y)), .string (qs ((todir n).x))], 24⟩] [.val (.pointer (some ⟨w1.heap.size, 1, none⟩)), .val (.string (qs ((todir n).y))), .val (.string (qs (-(todir n).y))), .val (.pointer (some ⟨w1.heap.size, 0, none⟩)), .val (.string (qs ((todir n).x))), .val (.agg #[.string (qs (-(todir n).y)), .string (qs ((todir n).x))]), .st 0, .val (.int .i64 0)] (by kernel_rfl) (by kernel_rfl) (by kernel_rfl) HX2.out.drew (List.forall_mem_cons.2 ⟨⟨HGEB1.out, HB1_2.out.drew⟩, (fun _ h => by cases h)⟩) dis1 ?_ (fun g2 w3 hx_ hk_ hb_ hm_ hne_ => ?_)
  · skip
    refine RnL.cons (fun g2 A_ W_ hs_ => ?_) ?_
    · have q4_ := (hs_.old 4 (by kernel_rfl) : A_.tmps[4]?.getD undef = .pointer (some ⟨w1.heap.size, 0, none⟩))
      refine Rn.val fun K_ hK_ => ?_
      go_simp
      exact hK_.out _ (Ext.refl _)
    refine RnL.cons (fun g2 A_ W_ hs_ => ?_) ?_
    · have q15_ := hs_.val 0 rfl rfl rfl
      have cB2_1 := ((hs_.keep (fm2 (show w.heap.size + 1 ≠ w1.heap.size from by have := HB1_1.out.lt; first | omega | (simp only []; omega) | (simp; omega)) fm0) HB2_2.out.drew)).cell 1 rfl
      refine Rn.val fun K_ hK_ => ?_
      go_simp
      exact hK_.out _ (Ext.refl _)
    refine RnL.cons (fun g2 A_ W_ hs_ => ?_) ?_
    · have q16_ := hs_.val 1 rfl rfl rfl
      refine Rn.val fun K_ hK_ => ?_
      go_simp
      refine (rneg_c ((todir n).y) _ HD.out.pb.y (by omega)).mono ?_; rintro e W9_ ⟨rfl, e9_⟩; exact hK_.out _ e9_
    refine RnL.cons (fun g2 A_ W_ hs_ => ?_) ?_
    · have q4_ := (hs_.old 4 (by kernel_rfl) : A_.tmps[4]?.getD undef = .pointer (some ⟨w1.heap.size, 0, none⟩))
      refine Rn.val fun K_ hK_ => ?_
      go_simp
      exact hK_.out _ (Ext.refl _)
    refine RnL.cons (fun g2 A_ W_ hs_ => ?_) ?_
    · have q18_ := hs_.val 3 rfl rfl rfl
      have cB2_0 := ((hs_.keep (fm2 (show w.heap.size + 1 ≠ w1.heap.size from by have := HB1_1.out.lt; first | omega | (simp only []; omega) | (simp; omega)) fm0) HB2_2.out.drew)).cell 0 rfl
      refine Rn.val fun K_ hK_ => ?_
      go_simp
      exact hK_.out _ (Ext.refl _)
    refine RnL.cons (fun g2 A_ W_ hs_ => ?_) ?_
    · have q17_ := hs_.val 2 rfl rfl rfl
      have q19_ := hs_.val 4 rfl rfl rfl
      refine Rn.val fun K_ hK_ => ?_
      go_simp
      exact hK_.out _ (Ext.refl _)
    refine RnL.cons (fun g2 A_ W_ hs_ => ?_) ?_
    · have q2_ := (hs_.old 2 (by kernel_rfl) : A_.tmps[2]?.getD undef = .pointer (some ⟨w.heap.size + 1, 0, none⟩))
      have q20_ := hs_.val 5 rfl rfl rfl
      refine Rn.st (n := 0) rfl fun hB0 K_ hK_ => ?_
      have hB : Blk W_ (w.heap.size + 1) #[.string ⟨#[]⟩, .string ⟨#[]⟩] 24 := hB0; clear hB0
      have c_0 := hB.cell 0 rfl; have f_0 := hB.free 0
      have c_1 := hB.cell 1 rfl; have f_1 := hB.free 1
      have HB := Lib.hid hB; clear hB
      go_simp
      exact hK_.out _ (((Only.refl _ _).set 0 _).set 1 _) ((HB.out.set 0 _).set 1 _)
    refine RnL.cons (fun g2 A_ W_ hs_ => ?_) ?_
    · refine Rn.val fun K_ hK_ => ?_
      go_simp
      exact hK_.out _ (Ext.refl _)
    exact RnL.nil
  simp only [fs, Kd.value, puts, Act.put, List.setIfInBounds_toArray, List.set_cons_zero, List.set_cons_succ]
  have HX3 : Hid (Ext w w3) := Lib.hid hx_
  have HB1_3 : Hid (Blk w3 (w.heap.size + 1) #[.string (qs (-(todir n).y)), .string (qs ((todir n).x))] 24) := Lib.hid (hb_ 0 _ rfl)
  clear hx_ hm_ hne_ hk_ hb_
  go_wp2_with fail
  have gB1_0 := HB1_3.out.cell 0 rfl
  have gB1_1 := HB1_3.out.cell 1 rfl
  refine bodyPost_ret (v := .tuple #[.agg #[.string (qs (-(todir n).y)), .string (qs ((todir n).x))], .int .i64 0]) (by simp [results, Tryz.results35, go_sem, gB1_0, gB1_1]) rfl ⟨rfl, HX3.out⟩
end Go.Proofs.YtplimbgaoengfaaGreatDoor
