/- Part 27 of the proof: L13. -/
import Derived.Test.YtglppcmegocphaaGreatDoorQU1
import Derived.Test.YtglppcmegocphaaGreatDoorQU2
import Derived.Test.YtglppcmegocphaaGreatDoorQU3
import Derived.Test.YtglppcmegocphaaGreatDoorQU4
import Derived.Test.YtglppcmegocphaaGreatDoorQU5
import Derived.Test.YtglppcmegocphaaGreatDoorQU6
import Derived.Test.YtglppcmegocphaaGreatDoorQU7
import Derived.Test.YtglppcmegocphaaGreatDoorQU8
import Derived.Test.YtglppcmegocphaaGreatDoorQU9
import Derived.Test.YtglppcmegocphaaGreatDoorQU10
import Derived.Test.YtglppcmegocphaaGreatDoorQU11
import Derived.Test.YtglppcmegocphaaGreatDoorQU12
import Derived.Test.YtglppcmegocphaaGreatDoorQU13
import Derived.Test.YtglppcmegocphaaGreatDoorQU14
import Derived.Test.YtglppcmegocphaaGreatDoorQU15
import Derived.Test.YtglppcmegocphaaGreatDoorQU16
import Derived.Test.YtglppcmegocphaaGreatDoorQU17
import Derived.Test.YtglppcmegocphaaGreatDoorQU18
import Derived.Test.YtglppcmegocphaaGreatDoorQU19
import Derived.Test.YtglppcmegocphaaGreatDoorQU20
import Derived.Test.YtglppcmegocphaaGreatDoorQU21
import Derived.Test.YtglppcmegocphaaGreatDoorQU22
import Derived.Test.YtglppcmegocphaaGreatDoorQU23
import Derived.Test.YtglppcmegocphaaGreatDoorQU24
import Derived.Test.YtglppcmegocphaaGreatDoorQU25
import Derived.Test.YtglppcmegocphaaGreatDoorQU26
namespace Go.Proofs.YtglppcmegocphaaGreatDoor
open Go Go.RowKit
theorem point_v (p : Pla) (a : V3) (w : World) (g : Gd w) (e : pvec p = a) (hp : PlaOk p) : Calls Tryz.prog 33 #[plc p] w (Ret w (.agg #[.string (qs a.x), .string (qs a.y)])) := by
  subst e; exact point_c p w g hp
def vcr (a b : V3) : V3 := ⟨a.y * b.z - a.z * b.y, a.z * b.x - a.x * b.z, a.x * b.y - a.y * b.x⟩
theorem vcr_b {a b : V3} (ha : VB 5 a) (hb : VB 5 b) : VB 21 (vcr a b) := ⟨(ha.y.mul hb.z).sub (ha.z.mul hb.y), (ha.z.mul hb.x).sub (ha.x.mul hb.z), (ha.x.mul hb.y).sub (ha.y.mul hb.x)⟩
theorem vcr_c (a b C : V3) (w : World) (g : Gd w) (hC : vcr a b = C) (ha : VB 5 a) (hb : VB 5 b) (hc : VB 21 C) : Calls Tryz.prog 29 #[vv a, vv b] w (Ret w (.tuple #[vv C, .int .i64 0])) := by
  subst hC; exact vCross_ok a b w g (ha.mono (by decide)) (hb.mono (by decide)) (hc.mono (by decide))
theorem vdot_0 (a C : V3) (w : World) (g : Gd w) (h : a.x * C.x + a.y * C.y + a.z * C.z = 0) (ha : VB 21 a) (hc : VB 21 C) : Calls Tryz.prog 30 #[vv a, vv C] w (Ret w (.tuple #[.string ⟨#[48]⟩, .int .i64 0])) := by
  have := vDot_ok a C w g (ha.mono (by decide)) (hc.mono (by decide)) (by rw [h]; exact (⟨by decide, by decide⟩ : QB 1 0).mono (by decide))
  rwa [h, qs_zero] at this
theorem vadd_0 (C D : V3) (w : World) (g : Gd w) (hx : C.x + D.x = 0) (hy : C.y + D.y = 0) (hz : C.z + D.z = 0) (hc : VB 21 C) (hd : VB 21 D) : Calls Tryz.prog 31 #[vv C, vv D] w (Ret w (.tuple #[.agg #[.string ⟨#[48]⟩, .string ⟨#[48]⟩, .string ⟨#[48]⟩], .int .i64 0])) := by
  have z : QB 200 0 := (⟨by decide, by decide⟩ : QB 1 0).mono (by decide)
  have := vAdd_ok C D w g (hc.mono (by decide)) (hd.mono (by decide)) ⟨by rw [hx]; exact z, by rw [hy]; exact z, by rw [hz]; exact z⟩
  rwa [hx, hy, hz, qs_zero] at this
theorem viszero_0 (w : World) (g : Gd w) : Calls Tryz.prog 32 #[.agg #[.string ⟨#[48]⟩, .string ⟨#[48]⟩, .string ⟨#[48]⟩]] w (Ret w (.tuple #[.bool true, .int .i64 0])) := by
  have z : QB 200 0 := (⟨by decide, by decide⟩ : QB 1 0).mono (by decide)
  have := vIsZero_ok ⟨0, 0, 0⟩ w g ⟨z, z, z⟩
  rwa [qs_zero, z3_true.2 ⟨rfl, rfl, rfl⟩] at this
theorem vturn_s (a b c : P2) (T : Int) (w : World) (g : Gd w) (ha : PB 200 a) (hb : PB 200 b) (hc : PB 200 c) (h : ((b.x - a.x) * (c.y - a.y) - (b.y - a.y) * (c.x - a.x)).num.sign = T) : Calls Tryz.prog 34 #[pv a, pv b, pv c] w (Ret w (.tuple #[.int .i64 T, .int .i64 0])) := by
  subst h; exact vTurn_ok a b c w g ha hb hc
theorem sgn_val (q : Rat) : q.num.sign = -1 ∨ q.num.sign = 0 ∨ q.num.sign = 1 := by
  rcases sign_cases q.num with h | h | h <;> simp [h]
theorem sgn_neg {q r : Rat} (h : q = -r) : q.num.sign = -r.num.sign := by rw [h, Rat.neg_num, Int.sign_neg]

set_option maxRecDepth 100000 in
set_option maxHeartbeats 16000000 in
theorem laws_walk (p q r s : Pla) (w : World) (g : Gd w) (hp : PlaOk p) (hq : PlaOk q) (hr : PlaOk r) (hs : PlaOk s) : Calls Tryz.prog 5 #[.agg #[.int .i16 p.n0, .int .u8 (p.d0 : Int), .int .i16 p.n1, .int .u8 (p.d1 : Int), .int .i16 p.n2, .int .u8 (p.d2 : Int), .int .i16 q.n0, .int .u8 (q.d0 : Int), .int .i16 q.n1, .int .u8 (q.d1 : Int), .int .i16 q.n2, .int .u8 (q.d2 : Int)], .agg #[.int .i16 r.n0, .int .u8 (r.d0 : Int), .int .i16 r.n1, .int .u8 (r.d1 : Int), .int .i16 r.n2, .int .u8 (r.d2 : Int), .int .i16 s.n0, .int .u8 (s.d0 : Int), .int .i16 s.n1, .int .u8 (s.d1 : Int), .int .i16 s.n2, .int .u8 (s.d2 : Int)]] w (Ret w (.bool true)) := by
  have Hp := Lib.hid hp
  have Hq := Lib.hid hq
  have Hr := Lib.hid hr
  have Hs := Lib.hid hs
  have HG := Lib.hid g
  clear hp hq hr hs g
  obtain ⟨a, ea⟩ : ∃ a, pvec p = a := ⟨_, rfl⟩
  have HaE := Lib.hid ea; have Ha : Hid (VB 5 a) := Lib.hid (ea ▸ Hp.out.v); clear ea
  obtain ⟨b, eb⟩ : ∃ b, pvec q = b := ⟨_, rfl⟩
  have HbE := Lib.hid eb; have Hb : Hid (VB 5 b) := Lib.hid (eb ▸ Hq.out.v); clear eb
  obtain ⟨c, ec⟩ : ∃ c, pvec r = c := ⟨_, rfl⟩
  have HcE := Lib.hid ec; have Hc : Hid (VB 5 c) := Lib.hid (ec ▸ Hr.out.v); clear ec
  obtain ⟨d, ed⟩ : ∃ d, pvec s = d := ⟨_, rfl⟩
  have HdE := Lib.hid ed; have Hd : Hid (VB 5 d) := Lib.hid (ed ▸ Hs.out.v); clear ed
  obtain ⟨C, eC⟩ : ∃ C, vcr a b = C := ⟨_, rfl⟩
  have HCE := Lib.hid eC; have HC : Hid (VB 21 C) := Lib.hid (eC ▸ vcr_b Ha.out Hb.out)
  obtain ⟨D, eD⟩ : ∃ D, vcr b a = D := ⟨_, rfl⟩
  have HDE := Lib.hid eD; have HD : Hid (VB 21 D) := Lib.hid (eD ▸ vcr_b Hb.out Ha.out)
  have HD1 : Hid (a.x * C.x + a.y * C.y + a.z * C.z = 0) := Lib.hid (by rw [← eC]; simp only [vcr]; grind)
  have HD2 : Hid (C.x * b.x + C.y * b.y + C.z * b.z = 0) := Lib.hid (by rw [← eC]; simp only [vcr]; grind)
  have HS : Hid (C.x + D.x = 0 ∧ C.y + D.y = 0 ∧ C.z + D.z = 0) := Lib.hid (by rw [← eC, ← eD]; simp only [vcr]; refine ⟨?_, ?_, ?_⟩ <;> grind)
  clear eC eD
  obtain ⟨S, eS⟩ : ∃ S, ((b.x - a.x) * (c.y - a.y) - (b.y - a.y) * (c.x - a.x)).num.sign = S := ⟨_, rfl⟩
  have HSE := Lib.hid eS; have HSV : Hid (S = -1 ∨ S = 0 ∨ S = 1) := Lib.hid (eS ▸ sgn_val _); clear eS
  have ix0 : ∀ W, (Instr.makeSlice 66 (.int .i64 3) (.int .i64 3)).run Tryz.prog W = .ok (.slice (some ⟨W.heap.size, 0, none⟩) 3 3) (W.alloc (.cells #[.string ⟨#[]⟩, .string ⟨#[]⟩, .string ⟨#[]⟩, .string ⟨#[]⟩, .string ⟨#[]⟩, .string ⟨#[]⟩] 62)) := fun W => by kernel_rfl
  go_enter Tryz.func5, Tryz.ntmps5
  go_wp2_with fail
  refine (known_c _ (HG.out.ext (((Ext.refl w).alloc _).alloc _))).mono ?_; rintro e w1 ⟨rfl, e1⟩
  have HX1 : Hid (Ext w w1) := Lib.hid ((((Ext.refl w).alloc _).alloc _).trans e1)
  have HB0_1 : Hid (Blk w1 (w.heap.size) #[.int .i16 p.n0, .int .u8 (p.d0 : Int), .int .i16 p.n1, .int .u8 (p.d1 : Int), .int .i16 p.n2, .int .u8 (p.d2 : Int), .int .i16 q.n0, .int .u8 (q.d0 : Int), .int .i16 q.n1, .int .u8 (q.d1 : Int), .int .i16 q.n2, .int .u8 (q.d2 : Int)] 44) := Lib.hid (Blk.ext ((Blk.new' (w := _) (cs := #[.int .i16 p.n0, .int .u8 (p.d0 : Int), .int .i16 p.n1, .int .u8 (p.d1 : Int), .int .i16 p.n2, .int .u8 (p.d2 : Int), .int .i16 q.n0, .int .u8 (q.d0 : Int), .int .i16 q.n1, .int .u8 (q.d1 : Int), .int .i16 q.n2, .int .u8 (q.d2 : Int)]) (t := 44) (by first | rfl | (simp only [World.size_alloc]; done) | (simp only [World.size_alloc]; omega) | simp)).alloc _) e1)
  have HB1_1 : Hid (Blk w1 (w.heap.size + 1) #[.int .i16 r.n0, .int .u8 (r.d0 : Int), .int .i16 r.n1, .int .u8 (r.d1 : Int), .int .i16 r.n2, .int .u8 (r.d2 : Int), .int .i16 s.n0, .int .u8 (s.d0 : Int), .int .i16 s.n1, .int .u8 (s.d1 : Int), .int .i16 s.n2, .int .u8 (s.d2 : Int)] 44) := Lib.hid (Blk.ext (Blk.new' (w := _) (cs := #[.int .i16 r.n0, .int .u8 (r.d0 : Int), .int .i16 r.n1, .int .u8 (r.d1 : Int), .int .i16 r.n2, .int .u8 (r.d2 : Int), .int .i16 s.n0, .int .u8 (s.d0 : Int), .int .i16 s.n1, .int .u8 (s.d1 : Int), .int .i16 s.n2, .int .u8 (s.d2 : Int)]) (t := 44) (by first | rfl | (simp only [World.size_alloc]; done) | (simp only [World.size_alloc]; omega) | simp)) e1)
  have HGEB0 : Hid (w.heap.size ≤ w.heap.size) := Lib.hid (by first | omega | (simp only []; omega) | (simp; omega))
  have HGEB1 : Hid (w.heap.size ≤ w.heap.size + 1) := Lib.hid (by first | omega | (simp only []; omega) | (simp; omega))
  clear e1
  go_wp2_with fail
  refine wp_name (fun W => Ext w W ∧ Blk W (w.heap.size) #[.int .i16 p.n0, .int .u8 (p.d0 : Int), .int .i16 p.n1, .int .u8 (p.d1 : Int), .int .i16 p.n2, .int .u8 (p.d2 : Int), .int .i16 q.n0, .int .u8 (q.d0 : Int), .int .i16 q.n1, .int .u8 (q.d1 : Int), .int .i16 q.n2, .int .u8 (q.d2 : Int)] 44 ∧ Blk W (w.heap.size + 1) #[.int .i16 r.n0, .int .u8 (r.d0 : Int), .int .i16 r.n1, .int .u8 (r.d1 : Int), .int .i16 r.n2, .int .u8 (r.d2 : Int), .int .i16 s.n0, .int .u8 (s.d0 : Int), .int .i16 s.n1, .int .u8 (s.d1 : Int), .int .i16 s.n2, .int .u8 (s.d2 : Int)] 44) ⟨HX1.out, HB0_1.out, HB1_1.out⟩ ?_
  rintro w2 ⟨e2, bB0_2, bB1_2⟩
  have HX2 := Lib.hid e2; have HB0_2 := Lib.hid bB0_2; have HB1_2 := Lib.hid bB1_2
  clear e2 bB0_2 bB1_2
  refine region_lin [.val (.pointer (some ⟨w.heap.size, 0, none⟩)), .val (.agg #[.int .i16 p.n0, .int .u8 (p.d0 : Int), .int .i16 p.n1, .int .u8 (p.d1 : Int), .int .i16 p.n2, .int .u8 (p.d2 : Int)]), .val (.agg #[.string (qs a.x), .string (qs a.y), .string (qs a.z)]), .val (.pointer (some ⟨w.heap.size, 6, none⟩)), .val (.agg #[.int .i16 q.n0, .int .u8 (q.d0 : Int), .int .i16 q.n1, .int .u8 (q.d1 : Int), .int .i16 q.n2, .int .u8 (q.d2 : Int)]), .val (.agg #[.string (qs b.x), .string (qs b.y), .string (qs b.z)]), .mem (fun b_ => .pointer (some ⟨b_, 0, none⟩)) #[.string ⟨#[]⟩, .string ⟨#[]⟩, .string ⟨#[]⟩] 30 (Option.some 8), .mem (fun b_ => .pointer (some ⟨b_, 0, none⟩)) #[.string ⟨#[]⟩, .string ⟨#[]⟩, .string ⟨#[]⟩] 30 (Option.some 9), .put 6 #[.string (qs a.x), .string (qs a.y), .string (qs a.z)], .put 7 #[.string (qs b.x), .string (qs b.y), .string (qs b.z)]] (by kernel_rfl) (by kernel_rfl) (by kernel_rfl) ?_ (fun g2 w3 hx_ hm_ hne_ => ?_)
  · skip
    refine RnL.cons (fun g2 A_ W_ hs_ => ?_) ?_
    · have q2_ := (hs_.old 2 (by kernel_rfl) : A_.tmps[2]?.getD undef = .pointer (some ⟨w.heap.size, 0, none⟩))
      refine Rn.val fun K_ hK_ => ?_
      go_simp
      exact hK_.out _ (Ext.refl _)
    refine RnL.cons (fun g2 A_ W_ hs_ => ?_) ?_
    · have q38_ := hs_.val 0 rfl rfl rfl
      have cB0_0 := (HB0_2.out.drew.ext hs_.1).cell 0 rfl
      have cB0_1 := (HB0_2.out.drew.ext hs_.1).cell 1 rfl
      have cB0_2 := (HB0_2.out.drew.ext hs_.1).cell 2 rfl
      have cB0_3 := (HB0_2.out.drew.ext hs_.1).cell 3 rfl
      have cB0_4 := (HB0_2.out.drew.ext hs_.1).cell 4 rfl
      have cB0_5 := (HB0_2.out.drew.ext hs_.1).cell 5 rfl
      refine Rn.val fun K_ hK_ => ?_
      go_simp
      exact hK_.out _ (Ext.refl _)
    refine RnL.cons (fun g2 A_ W_ hs_ => ?_) ?_
    · have q39_ := hs_.val 1 rfl rfl rfl
      refine Rn.val fun K_ hK_ => ?_
      go_simp
      refine ((HaE.out ▸ make_c p _ (HG.out.ext (HX2.out.drew.trans hs_.1)) Hp.out)).mono ?_; rintro e W9_ ⟨rfl, e9_⟩; exact hK_.out _ e9_
    refine RnL.cons (fun g2 A_ W_ hs_ => ?_) ?_
    · have q2_ := (hs_.old 2 (by kernel_rfl) : A_.tmps[2]?.getD undef = .pointer (some ⟨w.heap.size, 0, none⟩))
      refine Rn.val fun K_ hK_ => ?_
      go_simp
      exact hK_.out _ (Ext.refl _)
    refine RnL.cons (fun g2 A_ W_ hs_ => ?_) ?_
    · have q41_ := hs_.val 3 rfl rfl rfl
      have cB0_6 := (HB0_2.out.drew.ext hs_.1).cell 6 rfl
      have cB0_7 := (HB0_2.out.drew.ext hs_.1).cell 7 rfl
      have cB0_8 := (HB0_2.out.drew.ext hs_.1).cell 8 rfl
      have cB0_9 := (HB0_2.out.drew.ext hs_.1).cell 9 rfl
      have cB0_10 := (HB0_2.out.drew.ext hs_.1).cell 10 rfl
      have cB0_11 := (HB0_2.out.drew.ext hs_.1).cell 11 rfl
      refine Rn.val fun K_ hK_ => ?_
      go_simp
      exact hK_.out _ (Ext.refl _)
    refine RnL.cons (fun g2 A_ W_ hs_ => ?_) ?_
    · have q42_ := hs_.val 4 rfl rfl rfl
      refine Rn.val fun K_ hK_ => ?_
      go_simp
      refine ((HbE.out ▸ make_c q _ (HG.out.ext (HX2.out.drew.trans hs_.1)) Hq.out)).mono ?_; rintro e W9_ ⟨rfl, e9_⟩; exact hK_.out _ e9_
    refine RnL.cons (fun g2 A_ W_ hs_ => ?_) ?_
    · refine Rn.mem fun K_ hK_ => ?_
      go_simp
      exact hK_.out
    refine RnL.cons (fun g2 A_ W_ hs_ => ?_) ?_
    · refine Rn.mem fun K_ hK_ => ?_
      go_simp
      exact hK_.out
    refine RnL.cons (fun g2 A_ W_ hs_ => ?_) ?_
    · have q5_ := (hs_.mem 6 rfl rfl rfl).1
      have q40_ := hs_.val 2 rfl rfl rfl
      refine Rn.put (z := #[.string ⟨#[]⟩, .string ⟨#[]⟩, .string ⟨#[]⟩]) (t := 30) rfl fun hB K_ hK_ => ?_
      have c_0 := hB.cell 0 rfl; have f_0 := hB.free 0
      have c_1 := hB.cell 1 rfl; have f_1 := hB.free 1
      have c_2 := hB.cell 2 rfl; have f_2 := hB.free 2
      have HB := Lib.hid hB; clear hB
      go_simp
      exact hK_.out _ ((((Only.refl _ _).set 0 _).set 1 _).set 2 _) (((HB.out.set 0 _).set 1 _).set 2 _)
    refine RnL.cons (fun g2 A_ W_ hs_ => ?_) ?_
    · have q6_ := (hs_.mem 7 rfl rfl rfl).1
      have q43_ := hs_.val 5 rfl rfl rfl
      refine Rn.put (z := #[.string ⟨#[]⟩, .string ⟨#[]⟩, .string ⟨#[]⟩]) (t := 30) rfl fun hB K_ hK_ => ?_
      have c_0 := hB.cell 0 rfl; have f_0 := hB.free 0
      have c_1 := hB.cell 1 rfl; have f_1 := hB.free 1
      have c_2 := hB.cell 2 rfl; have f_2 := hB.free 2
      have HB := Lib.hid hB; clear hB
      go_simp
      exact hK_.out _ ((((Only.refl _ _).set 0 _).set 1 _).set 2 _) (((HB.out.set 0 _).set 1 _).set 2 _)
    exact RnL.nil
  simp only [fs, Kd.value, puts, Act.put, List.setIfInBounds_toArray, List.set_cons_zero, List.set_cons_succ, Nat.reduceAdd]
  have HX3 : Hid (Ext w w3) := Lib.hid (HX2.out.drew.trans hx_)
  have HB0_3 := Lib.hid (HB0_2.out.drew.ext hx_)
  have HB1_3 := Lib.hid (HB1_2.out.drew.ext hx_)
  have HB2_3 : Hid (Blk w3 (g2 6) #[.string (qs a.x), .string (qs a.y), .string (qs a.z)] 30) := Lib.hid (hm_ 6 _ _ _ _ rfl).2; have HGEB2 : Hid (w.heap.size ≤ g2 6) := Lib.hid (Nat.le_trans HX2.out.size (hm_ 6 _ _ _ _ rfl).1)
  have HB3_3 : Hid (Blk w3 (g2 7) #[.string (qs b.x), .string (qs b.y), .string (qs b.z)] 30) := Lib.hid (hm_ 7 _ _ _ _ rfl).2; have HGEB3 : Hid (w.heap.size ≤ g2 7) := Lib.hid (Nat.le_trans HX2.out.size (hm_ 7 _ _ _ _ rfl).1)
  have HNEB0B2 : Hid (w.heap.size ≠ g2 6) := Lib.hid (Nat.ne_of_lt (Nat.lt_of_lt_of_le HB0_2.out.lt (hm_ 6 _ _ _ _ rfl).1))
  have HNEB0B3 : Hid (w.heap.size ≠ g2 7) := Lib.hid (Nat.ne_of_lt (Nat.lt_of_lt_of_le HB0_2.out.lt (hm_ 7 _ _ _ _ rfl).1))
  have HNEB1B2 : Hid (w.heap.size + 1 ≠ g2 6) := Lib.hid (Nat.ne_of_lt (Nat.lt_of_lt_of_le HB1_2.out.lt (hm_ 6 _ _ _ _ rfl).1))
  have HNEB1B3 : Hid (w.heap.size + 1 ≠ g2 7) := Lib.hid (Nat.ne_of_lt (Nat.lt_of_lt_of_le HB1_2.out.lt (hm_ 7 _ _ _ _ rfl).1))
  have HNEB2B3 : Hid (g2 6 ≠ g2 7) := Lib.hid (hne_ 6 7 (by decide) ⟨_, _, _, _, rfl⟩ ⟨_, _, _, _, rfl⟩)
  clear hx_ hm_ hne_
  generalize g2 6 = i2 at *
  generalize g2 7 = i3 at *
  clear g2
  have c2_0 := HB2_3.out.cell 0 rfl
  have c2_1 := HB2_3.out.cell 1 rfl
  have c2_2 := HB2_3.out.cell 2 rfl
  have c3_0 := HB3_3.out.cell 0 rfl
  have c3_1 := HB3_3.out.cell 1 rfl
  have c3_2 := HB3_3.out.cell 2 rfl
  go_wp2_with fail
  refine (vcr_c a b C _ (HG.out.ext HX3.out) HCE.out Ha.out Hb.out HC.out).mono ?_; rintro e w4 ⟨rfl, e4⟩
  have HX4 : Hid (Ext w w4) := Lib.hid (HX3.out.trans e4)
  have HB0_4 := Lib.hid (Blk.ext HB0_3.out e4)
  have HB1_4 := Lib.hid (Blk.ext HB1_3.out e4)
  have HB2_4 := Lib.hid (Blk.ext HB2_3.out e4)
  have HB3_4 := Lib.hid (Blk.ext HB3_3.out e4)
  clear e4 c2_0 c2_1 c2_2 c3_0 c3_1 c3_2
  go_upto_region 5 with fail
  refine wp_name (fun W => Ext w W ∧ Blk W (w.heap.size) #[.int .i16 p.n0, .int .u8 (p.d0 : Int), .int .i16 p.n1, .int .u8 (p.d1 : Int), .int .i16 p.n2, .int .u8 (p.d2 : Int), .int .i16 q.n0, .int .u8 (q.d0 : Int), .int .i16 q.n1, .int .u8 (q.d1 : Int), .int .i16 q.n2, .int .u8 (q.d2 : Int)] 44 ∧ Blk W (w.heap.size + 1) #[.int .i16 r.n0, .int .u8 (r.d0 : Int), .int .i16 r.n1, .int .u8 (r.d1 : Int), .int .i16 r.n2, .int .u8 (r.d2 : Int), .int .i16 s.n0, .int .u8 (s.d0 : Int), .int .i16 s.n1, .int .u8 (s.d1 : Int), .int .i16 s.n2, .int .u8 (s.d2 : Int)] 44 ∧ Blk W (i2) #[.string (qs a.x), .string (qs a.y), .string (qs a.z)] 30 ∧ Blk W (i3) #[.string (qs b.x), .string (qs b.y), .string (qs b.z)] 30 ∧ Blk W (w4.heap.size) #[.string (qs C.x), .string (qs C.y), .string (qs C.z)] 30) ⟨(HX4.out.alloc _), (HB0_4.out.alloc _), (HB1_4.out.alloc _), (HB2_4.out.alloc _), (HB3_4.out.alloc _), (Blk.new' (w := _) (cs := #[.string (qs C.x), .string (qs C.y), .string (qs C.z)]) (t := 30) (by first | rfl | (simp only [World.size_alloc]; done) | (simp only [World.size_alloc]; omega) | simp))⟩ ?_
  rintro w5 ⟨e5, bB0_5, bB1_5, bB2_5, bB3_5, bB4_5⟩
  have HX5 := Lib.hid e5; have HB0_5 := Lib.hid bB0_5; have HB1_5 := Lib.hid bB1_5; have HB2_5 := Lib.hid bB2_5; have HB3_5 := Lib.hid bB3_5; have HB4_5 := Lib.hid bB4_5
  have HGEB4 : Hid (w.heap.size ≤ w4.heap.size) := Lib.hid (by have := HX4.out.size; first | omega | (simp only []; omega) | (simp; omega))
  clear e5 bB0_5 bB1_5 bB2_5 bB3_5 bB4_5
  have c3_0 := HB3_5.out.cell 0 rfl
  have c3_1 := HB3_5.out.cell 1 rfl
  have c3_2 := HB3_5.out.cell 2 rfl
  have c2_0 := HB2_5.out.cell 0 rfl
  have c2_1 := HB2_5.out.cell 1 rfl
  have c2_2 := HB2_5.out.cell 2 rfl
  go_wp2_with fail
  refine (vcr_c b a D _ (HG.out.ext HX5.out) HDE.out Hb.out Ha.out HD.out).mono ?_; rintro e w6 ⟨rfl, e6⟩
  have HX6 : Hid (Ext w w6) := Lib.hid (HX5.out.trans e6)
  have HB0_6 := Lib.hid (Blk.ext HB0_5.out e6)
  have HB1_6 := Lib.hid (Blk.ext HB1_5.out e6)
  have HB2_6 := Lib.hid (Blk.ext HB2_5.out e6)
  have HB3_6 := Lib.hid (Blk.ext HB3_5.out e6)
  have HB4_6 := Lib.hid (Blk.ext HB4_5.out e6)
  clear e6 c3_0 c3_1 c3_2 c2_0 c2_1 c2_2
  go_upto_region 6 with fail
  refine wp_name (fun W => Ext w W ∧ Blk W (w.heap.size) #[.int .i16 p.n0, .int .u8 (p.d0 : Int), .int .i16 p.n1, .int .u8 (p.d1 : Int), .int .i16 p.n2, .int .u8 (p.d2 : Int), .int .i16 q.n0, .int .u8 (q.d0 : Int), .int .i16 q.n1, .int .u8 (q.d1 : Int), .int .i16 q.n2, .int .u8 (q.d2 : Int)] 44 ∧ Blk W (w.heap.size + 1) #[.int .i16 r.n0, .int .u8 (r.d0 : Int), .int .i16 r.n1, .int .u8 (r.d1 : Int), .int .i16 r.n2, .int .u8 (r.d2 : Int), .int .i16 s.n0, .int .u8 (s.d0 : Int), .int .i16 s.n1, .int .u8 (s.d1 : Int), .int .i16 s.n2, .int .u8 (s.d2 : Int)] 44 ∧ Blk W (i2) #[.string (qs a.x), .string (qs a.y), .string (qs a.z)] 30 ∧ Blk W (i3) #[.string (qs b.x), .string (qs b.y), .string (qs b.z)] 30 ∧ Blk W (w4.heap.size) #[.string (qs C.x), .string (qs C.y), .string (qs C.z)] 30 ∧ Blk W (w6.heap.size) #[.string (qs D.x), .string (qs D.y), .string (qs D.z)] 30) ⟨(HX6.out.alloc _), (HB0_6.out.alloc _), (HB1_6.out.alloc _), (HB2_6.out.alloc _), (HB3_6.out.alloc _), (HB4_6.out.alloc _), (Blk.new' (w := _) (cs := #[.string (qs D.x), .string (qs D.y), .string (qs D.z)]) (t := 30) (by first | rfl | (simp only [World.size_alloc]; done) | (simp only [World.size_alloc]; omega) | simp))⟩ ?_
  rintro w7 ⟨e7, bB0_7, bB1_7, bB2_7, bB3_7, bB4_7, bB5_7⟩
  have HX7 := Lib.hid e7; have HB0_7 := Lib.hid bB0_7; have HB1_7 := Lib.hid bB1_7; have HB2_7 := Lib.hid bB2_7; have HB3_7 := Lib.hid bB3_7; have HB4_7 := Lib.hid bB4_7; have HB5_7 := Lib.hid bB5_7
  have HGEB5 : Hid (w.heap.size ≤ w6.heap.size) := Lib.hid (by have := HX6.out.size; first | omega | (simp only []; omega) | (simp; omega))
  clear e7 bB0_7 bB1_7 bB2_7 bB3_7 bB4_7 bB5_7
  have c2_0 := HB2_7.out.cell 0 rfl
  have c2_1 := HB2_7.out.cell 1 rfl
  have c2_2 := HB2_7.out.cell 2 rfl
  have c4_0 := HB4_7.out.cell 0 rfl
  have c4_1 := HB4_7.out.cell 1 rfl
  have c4_2 := HB4_7.out.cell 2 rfl
  go_wp2_with fail
  refine (vdot_0 a C _ (HG.out.ext HX7.out) HD1.out (Ha.out.mono (by decide)) HC.out).mono ?_; rintro e w8 ⟨rfl, e8⟩
  have HX8 : Hid (Ext w w8) := Lib.hid (HX7.out.trans e8)
  have HB0_8 := Lib.hid (Blk.ext HB0_7.out e8)
  have HB1_8 := Lib.hid (Blk.ext HB1_7.out e8)
  have HB3_8 := Lib.hid (Blk.ext HB3_7.out e8)
  have HB4_8 := Lib.hid (Blk.ext HB4_7.out e8)
  have HB5_8 := Lib.hid (Blk.ext HB5_7.out e8)
  clear e8 c2_0 c2_1 c2_2 c4_0 c4_1 c4_2
  have c4_0 := HB4_8.out.cell 0 rfl
  have c4_1 := HB4_8.out.cell 1 rfl
  have c4_2 := HB4_8.out.cell 2 rfl
  have c3_0 := HB3_8.out.cell 0 rfl
  have c3_1 := HB3_8.out.cell 1 rfl
  have c3_2 := HB3_8.out.cell 2 rfl
  go_wp2_with fail
  refine (vdot_0 C b _ (HG.out.ext HX8.out) HD2.out HC.out (Hb.out.mono (by decide))).mono ?_; rintro e w9 ⟨rfl, e9⟩
  have HX9 : Hid (Ext w w9) := Lib.hid (HX8.out.trans e9)
  have HB0_9 := Lib.hid (Blk.ext HB0_8.out e9)
  have HB1_9 := Lib.hid (Blk.ext HB1_8.out e9)
  have HB4_9 := Lib.hid (Blk.ext HB4_8.out e9)
  have HB5_9 := Lib.hid (Blk.ext HB5_8.out e9)
  clear e9 c4_0 c4_1 c4_2 c3_0 c3_1 c3_2
  have c4_0 := HB4_9.out.cell 0 rfl
  have c4_1 := HB4_9.out.cell 1 rfl
  have c4_2 := HB4_9.out.cell 2 rfl
  have c5_0 := HB5_9.out.cell 0 rfl
  have c5_1 := HB5_9.out.cell 1 rfl
  have c5_2 := HB5_9.out.cell 2 rfl
  go_wp2_with fail
  refine (vadd_0 C D _ (HG.out.ext HX9.out) HS.out.1 HS.out.2.1 HS.out.2.2 HC.out HD.out).mono ?_; rintro e w10 ⟨rfl, e10⟩
  have HX10 : Hid (Ext w w10) := Lib.hid (HX9.out.trans e10)
  have HB0_10 := Lib.hid (Blk.ext HB0_9.out e10)
  have HB1_10 := Lib.hid (Blk.ext HB1_9.out e10)
  clear e10 c4_0 c4_1 c4_2 c5_0 c5_1 c5_2
  go_upto_region 9 with fail
  refine wp_name (fun W => Ext w W ∧ Blk W (w.heap.size) #[.int .i16 p.n0, .int .u8 (p.d0 : Int), .int .i16 p.n1, .int .u8 (p.d1 : Int), .int .i16 p.n2, .int .u8 (p.d2 : Int), .int .i16 q.n0, .int .u8 (q.d0 : Int), .int .i16 q.n1, .int .u8 (q.d1 : Int), .int .i16 q.n2, .int .u8 (q.d2 : Int)] 44 ∧ Blk W (w.heap.size + 1) #[.int .i16 r.n0, .int .u8 (r.d0 : Int), .int .i16 r.n1, .int .u8 (r.d1 : Int), .int .i16 r.n2, .int .u8 (r.d2 : Int), .int .i16 s.n0, .int .u8 (s.d0 : Int), .int .i16 s.n1, .int .u8 (s.d1 : Int), .int .i16 s.n2, .int .u8 (s.d2 : Int)] 44 ∧ Blk W (w10.heap.size) #[.string ⟨#[48]⟩, .string ⟨#[48]⟩, .string ⟨#[48]⟩] 30) ⟨(HX10.out.alloc _), (HB0_10.out.alloc _), (HB1_10.out.alloc _), (Blk.new' (w := _) (cs := #[.string ⟨#[48]⟩, .string ⟨#[48]⟩, .string ⟨#[48]⟩]) (t := 30) (by first | rfl | (simp only [World.size_alloc]; done) | (simp only [World.size_alloc]; omega) | simp))⟩ ?_
  rintro w11 ⟨e11, bB0_11, bB1_11, bB6_11⟩
  have HX11 := Lib.hid e11; have HB0_11 := Lib.hid bB0_11; have HB1_11 := Lib.hid bB1_11; have HB6_11 := Lib.hid bB6_11
  have HGEB6 : Hid (w.heap.size ≤ w10.heap.size) := Lib.hid (by have := HX10.out.size; first | omega | (simp only []; omega) | (simp; omega))
  clear e11 bB0_11 bB1_11 bB6_11
  have c6_0 := HB6_11.out.cell 0 rfl
  have c6_1 := HB6_11.out.cell 1 rfl
  have c6_2 := HB6_11.out.cell 2 rfl
  go_wp2_with fail
  refine (viszero_0 _ (HG.out.ext HX11.out)).mono ?_; rintro e w12 ⟨rfl, e12⟩
  have HX12 : Hid (Ext w w12) := Lib.hid (HX11.out.trans e12)
  have HB0_12 := Lib.hid (Blk.ext HB0_11.out e12)
  have HB1_12 := Lib.hid (Blk.ext HB1_11.out e12)
  clear e12 c6_0 c6_1 c6_2
  go_wp2_with fail
  refine (((by decide : ferr [0, 0, 0, 0, 0, 0] = 0) ▸ first6_c 0 0 0 0 0 0 (w12.heap.size) _ (Blk.new' (w := _) (cs := #[.int .i64 0, .int .i64 0, .int .i64 0, .int .i64 0, .int .i64 0, .int .i64 0]) (t := 32) (by first | rfl | (simp only [World.size_alloc]; done) | (simp only [World.size_alloc]; omega) | simp)))).mono ?_; rintro e _ ⟨rfl, rfl⟩
  go_wp2_with fail
  refine wp_name (fun W => Ext w W ∧ Blk W (w.heap.size) #[.int .i16 p.n0, .int .u8 (p.d0 : Int), .int .i16 p.n1, .int .u8 (p.d1 : Int), .int .i16 p.n2, .int .u8 (p.d2 : Int), .int .i16 q.n0, .int .u8 (q.d0 : Int), .int .i16 q.n1, .int .u8 (q.d1 : Int), .int .i16 q.n2, .int .u8 (q.d2 : Int)] 44 ∧ Blk W (w.heap.size + 1) #[.int .i16 r.n0, .int .u8 (r.d0 : Int), .int .i16 r.n1, .int .u8 (r.d1 : Int), .int .i16 r.n2, .int .u8 (r.d2 : Int), .int .i16 s.n0, .int .u8 (s.d0 : Int), .int .i16 s.n1, .int .u8 (s.d1 : Int), .int .i16 s.n2, .int .u8 (s.d2 : Int)] 44) ⟨(HX12.out.alloc _), (HB0_12.out.alloc _), (HB1_12.out.alloc _)⟩ ?_
  rintro w13 ⟨e13, bB0_13, bB1_13⟩
  have HX13 := Lib.hid e13; have HB0_13 := Lib.hid bB0_13; have HB1_13 := Lib.hid bB1_13
  clear e13 bB0_13 bB1_13
  refine region_lin [.val (.pointer (some ⟨w.heap.size, 0, none⟩)), .val (.agg #[.int .i16 p.n0, .int .u8 (p.d0 : Int), .int .i16 p.n1, .int .u8 (p.d1 : Int), .int .i16 p.n2, .int .u8 (p.d2 : Int)]), .val (.agg #[.string (qs a.x), .string (qs a.y)]), .val (.pointer (some ⟨w.heap.size, 6, none⟩)), .val (.agg #[.int .i16 q.n0, .int .u8 (q.d0 : Int), .int .i16 q.n1, .int .u8 (q.d1 : Int), .int .i16 q.n2, .int .u8 (q.d2 : Int)]), .val (.agg #[.string (qs b.x), .string (qs b.y)]), .val (.pointer (some ⟨w.heap.size + 1, 0, none⟩)), .val (.agg #[.int .i16 r.n0, .int .u8 (r.d0 : Int), .int .i16 r.n1, .int .u8 (r.d1 : Int), .int .i16 r.n2, .int .u8 (r.d2 : Int)]), .val (.agg #[.string (qs c.x), .string (qs c.y)]), .mem (fun b_ => .pointer (some ⟨b_, 0, none⟩)) #[.string ⟨#[]⟩, .string ⟨#[]⟩] 62 (Option.some 12), .mem (fun b_ => .pointer (some ⟨b_, 0, none⟩)) #[.string ⟨#[]⟩, .string ⟨#[]⟩] 62 (Option.some 13), .mem (fun b_ => .pointer (some ⟨b_, 0, none⟩)) #[.string ⟨#[]⟩, .string ⟨#[]⟩] 62 (Option.some 14), .put 9 #[.string (qs a.x), .string (qs a.y)], .put 10 #[.string (qs b.x), .string (qs b.y)], .put 11 #[.string (qs c.x), .string (qs c.y)]] (by kernel_rfl) (by kernel_rfl) (by kernel_rfl) ?_ (fun g13 w14 hx_ hm_ hne_ => ?_)
  · skip
    refine RnL.cons (fun g13 A_ W_ hs_ => ?_) ?_
    · have q2_ := (hs_.old 2 (by kernel_rfl) : A_.tmps[2]?.getD undef = .pointer (some ⟨w.heap.size, 0, none⟩))
      refine Rn.val fun K_ hK_ => ?_
      go_simp
      exact hK_.out _ (Ext.refl _)
    refine RnL.cons (fun g13 A_ W_ hs_ => ?_) ?_
    · have q100_ := hs_.val 0 rfl rfl rfl
      have cB0_0 := (HB0_13.out.drew.ext hs_.1).cell 0 rfl
      have cB0_1 := (HB0_13.out.drew.ext hs_.1).cell 1 rfl
      have cB0_2 := (HB0_13.out.drew.ext hs_.1).cell 2 rfl
      have cB0_3 := (HB0_13.out.drew.ext hs_.1).cell 3 rfl
      have cB0_4 := (HB0_13.out.drew.ext hs_.1).cell 4 rfl
      have cB0_5 := (HB0_13.out.drew.ext hs_.1).cell 5 rfl
      refine Rn.val fun K_ hK_ => ?_
      go_simp
      exact hK_.out _ (Ext.refl _)
    refine RnL.cons (fun g13 A_ W_ hs_ => ?_) ?_
    · have q101_ := hs_.val 1 rfl rfl rfl
      refine Rn.val fun K_ hK_ => ?_
      go_simp
      refine (point_v p a _ (HG.out.ext (HX13.out.drew.trans hs_.1)) HaE.out Hp.out).mono ?_; rintro e W9_ ⟨rfl, e9_⟩; exact hK_.out _ e9_
    refine RnL.cons (fun g13 A_ W_ hs_ => ?_) ?_
    · have q2_ := (hs_.old 2 (by kernel_rfl) : A_.tmps[2]?.getD undef = .pointer (some ⟨w.heap.size, 0, none⟩))
      refine Rn.val fun K_ hK_ => ?_
      go_simp
      exact hK_.out _ (Ext.refl _)
    refine RnL.cons (fun g13 A_ W_ hs_ => ?_) ?_
    · have q103_ := hs_.val 3 rfl rfl rfl
      have cB0_6 := (HB0_13.out.drew.ext hs_.1).cell 6 rfl
      have cB0_7 := (HB0_13.out.drew.ext hs_.1).cell 7 rfl
      have cB0_8 := (HB0_13.out.drew.ext hs_.1).cell 8 rfl
      have cB0_9 := (HB0_13.out.drew.ext hs_.1).cell 9 rfl
      have cB0_10 := (HB0_13.out.drew.ext hs_.1).cell 10 rfl
      have cB0_11 := (HB0_13.out.drew.ext hs_.1).cell 11 rfl
      refine Rn.val fun K_ hK_ => ?_
      go_simp
      exact hK_.out _ (Ext.refl _)
    refine RnL.cons (fun g13 A_ W_ hs_ => ?_) ?_
    · have q104_ := hs_.val 4 rfl rfl rfl
      refine Rn.val fun K_ hK_ => ?_
      go_simp
      refine (point_v q b _ (HG.out.ext (HX13.out.drew.trans hs_.1)) HbE.out Hq.out).mono ?_; rintro e W9_ ⟨rfl, e9_⟩; exact hK_.out _ e9_
    refine RnL.cons (fun g13 A_ W_ hs_ => ?_) ?_
    · have q3_ := (hs_.old 3 (by kernel_rfl) : A_.tmps[3]?.getD undef = .pointer (some ⟨w.heap.size + 1, 0, none⟩))
      refine Rn.val fun K_ hK_ => ?_
      go_simp
      exact hK_.out _ (Ext.refl _)
    refine RnL.cons (fun g13 A_ W_ hs_ => ?_) ?_
    · have q106_ := hs_.val 6 rfl rfl rfl
      have cB1_0 := (HB1_13.out.drew.ext hs_.1).cell 0 rfl
      have cB1_1 := (HB1_13.out.drew.ext hs_.1).cell 1 rfl
      have cB1_2 := (HB1_13.out.drew.ext hs_.1).cell 2 rfl
      have cB1_3 := (HB1_13.out.drew.ext hs_.1).cell 3 rfl
      have cB1_4 := (HB1_13.out.drew.ext hs_.1).cell 4 rfl
      have cB1_5 := (HB1_13.out.drew.ext hs_.1).cell 5 rfl
      refine Rn.val fun K_ hK_ => ?_
      go_simp
      exact hK_.out _ (Ext.refl _)
    refine RnL.cons (fun g13 A_ W_ hs_ => ?_) ?_
    · have q107_ := hs_.val 7 rfl rfl rfl
      refine Rn.val fun K_ hK_ => ?_
      go_simp
      refine (point_v r c _ (HG.out.ext (HX13.out.drew.trans hs_.1)) HcE.out Hr.out).mono ?_; rintro e W9_ ⟨rfl, e9_⟩; exact hK_.out _ e9_
    refine RnL.cons (fun g13 A_ W_ hs_ => ?_) ?_
    · refine Rn.mem fun K_ hK_ => ?_
      go_simp
      exact hK_.out
    refine RnL.cons (fun g13 A_ W_ hs_ => ?_) ?_
    · refine Rn.mem fun K_ hK_ => ?_
      go_simp
      exact hK_.out
    refine RnL.cons (fun g13 A_ W_ hs_ => ?_) ?_
    · refine Rn.mem fun K_ hK_ => ?_
      go_simp
      exact hK_.out
    refine RnL.cons (fun g13 A_ W_ hs_ => ?_) ?_
    · have q19_ := (hs_.mem 9 rfl rfl rfl).1
      have q102_ := hs_.val 2 rfl rfl rfl
      refine Rn.put (z := #[.string ⟨#[]⟩, .string ⟨#[]⟩]) (t := 62) rfl fun hB K_ hK_ => ?_
      have c_0 := hB.cell 0 rfl; have f_0 := hB.free 0
      have c_1 := hB.cell 1 rfl; have f_1 := hB.free 1
      have HB := Lib.hid hB; clear hB
      go_simp
      exact hK_.out _ (((Only.refl _ _).set 0 _).set 1 _) ((HB.out.set 0 _).set 1 _)
    refine RnL.cons (fun g13 A_ W_ hs_ => ?_) ?_
    · have q20_ := (hs_.mem 10 rfl rfl rfl).1
      have q105_ := hs_.val 5 rfl rfl rfl
      refine Rn.put (z := #[.string ⟨#[]⟩, .string ⟨#[]⟩]) (t := 62) rfl fun hB K_ hK_ => ?_
      have c_0 := hB.cell 0 rfl; have f_0 := hB.free 0
      have c_1 := hB.cell 1 rfl; have f_1 := hB.free 1
      have HB := Lib.hid hB; clear hB
      go_simp
      exact hK_.out _ (((Only.refl _ _).set 0 _).set 1 _) ((HB.out.set 0 _).set 1 _)
    refine RnL.cons (fun g13 A_ W_ hs_ => ?_) ?_
    · have q21_ := (hs_.mem 11 rfl rfl rfl).1
      have q108_ := hs_.val 8 rfl rfl rfl
      refine Rn.put (z := #[.string ⟨#[]⟩, .string ⟨#[]⟩]) (t := 62) rfl fun hB K_ hK_ => ?_
      have c_0 := hB.cell 0 rfl; have f_0 := hB.free 0
      have c_1 := hB.cell 1 rfl; have f_1 := hB.free 1
      have HB := Lib.hid hB; clear hB
      go_simp
      exact hK_.out _ (((Only.refl _ _).set 0 _).set 1 _) ((HB.out.set 0 _).set 1 _)
    exact RnL.nil
  simp only [fs, Kd.value, puts, Act.put, List.setIfInBounds_toArray, List.set_cons_zero, List.set_cons_succ, Nat.reduceAdd]
  have HX14 : Hid (Ext w w14) := Lib.hid (HX13.out.drew.trans hx_)
  have HB0_14 := Lib.hid (HB0_13.out.drew.ext hx_)
  have HB1_14 := Lib.hid (HB1_13.out.drew.ext hx_)
  have HB8_14 : Hid (Blk w14 (g13 9) #[.string (qs a.x), .string (qs a.y)] 62) := Lib.hid (hm_ 9 _ _ _ _ rfl).2; have HGEB8 : Hid (w.heap.size ≤ g13 9) := Lib.hid (Nat.le_trans HX13.out.size (hm_ 9 _ _ _ _ rfl).1)
  have HB9_14 : Hid (Blk w14 (g13 10) #[.string (qs b.x), .string (qs b.y)] 62) := Lib.hid (hm_ 10 _ _ _ _ rfl).2; have HGEB9 : Hid (w.heap.size ≤ g13 10) := Lib.hid (Nat.le_trans HX13.out.size (hm_ 10 _ _ _ _ rfl).1)
  have HB10_14 : Hid (Blk w14 (g13 11) #[.string (qs c.x), .string (qs c.y)] 62) := Lib.hid (hm_ 11 _ _ _ _ rfl).2; have HGEB10 : Hid (w.heap.size ≤ g13 11) := Lib.hid (Nat.le_trans HX13.out.size (hm_ 11 _ _ _ _ rfl).1)
  have HNEB0B8 : Hid (w.heap.size ≠ g13 9) := Lib.hid (Nat.ne_of_lt (Nat.lt_of_lt_of_le HB0_13.out.lt (hm_ 9 _ _ _ _ rfl).1))
  have HNEB0B9 : Hid (w.heap.size ≠ g13 10) := Lib.hid (Nat.ne_of_lt (Nat.lt_of_lt_of_le HB0_13.out.lt (hm_ 10 _ _ _ _ rfl).1))
  have HNEB0B10 : Hid (w.heap.size ≠ g13 11) := Lib.hid (Nat.ne_of_lt (Nat.lt_of_lt_of_le HB0_13.out.lt (hm_ 11 _ _ _ _ rfl).1))
  have HNEB1B8 : Hid (w.heap.size + 1 ≠ g13 9) := Lib.hid (Nat.ne_of_lt (Nat.lt_of_lt_of_le HB1_13.out.lt (hm_ 9 _ _ _ _ rfl).1))
  have HNEB1B9 : Hid (w.heap.size + 1 ≠ g13 10) := Lib.hid (Nat.ne_of_lt (Nat.lt_of_lt_of_le HB1_13.out.lt (hm_ 10 _ _ _ _ rfl).1))
  have HNEB1B10 : Hid (w.heap.size + 1 ≠ g13 11) := Lib.hid (Nat.ne_of_lt (Nat.lt_of_lt_of_le HB1_13.out.lt (hm_ 11 _ _ _ _ rfl).1))
  have HNEB8B9 : Hid (g13 9 ≠ g13 10) := Lib.hid (hne_ 9 10 (by decide) ⟨_, _, _, _, rfl⟩ ⟨_, _, _, _, rfl⟩)
  have HNEB8B10 : Hid (g13 9 ≠ g13 11) := Lib.hid (hne_ 9 11 (by decide) ⟨_, _, _, _, rfl⟩ ⟨_, _, _, _, rfl⟩)
  have HNEB9B10 : Hid (g13 10 ≠ g13 11) := Lib.hid (hne_ 10 11 (by decide) ⟨_, _, _, _, rfl⟩ ⟨_, _, _, _, rfl⟩)
  clear hx_ hm_ hne_
  generalize g13 9 = i8 at *
  generalize g13 10 = i9 at *
  generalize g13 11 = i10 at *
  clear g13
  have c8_0 := HB8_14.out.cell 0 rfl
  have c8_1 := HB8_14.out.cell 1 rfl
  have c9_0 := HB9_14.out.cell 0 rfl
  have c9_1 := HB9_14.out.cell 1 rfl
  have c10_0 := HB10_14.out.cell 0 rfl
  have c10_1 := HB10_14.out.cell 1 rfl
  go_wp2_with fail
  refine (vturn_s ⟨a.x, a.y⟩ ⟨b.x, b.y⟩ ⟨c.x, c.y⟩ S _ (HG.out.ext HX14.out) (⟨(Ha.out.x.mono (by omega)), (Ha.out.y.mono (by omega))⟩ : PB 200 _) (⟨(Hb.out.x.mono (by omega)), (Hb.out.y.mono (by omega))⟩ : PB 200 _) (⟨(Hc.out.x.mono (by omega)), (Hc.out.y.mono (by omega))⟩ : PB 200 _) HSE.out).mono ?_; rintro e w15 ⟨rfl, e15⟩
  have HX15 : Hid (Ext w w15) := Lib.hid (HX14.out.trans e15)
  have HB0_15 := Lib.hid (Blk.ext HB0_14.out e15)
  have HB1_15 := Lib.hid (Blk.ext HB1_14.out e15)
  have HB8_15 := Lib.hid (Blk.ext HB8_14.out e15)
  have HB9_15 := Lib.hid (Blk.ext HB9_14.out e15)
  have HB10_15 := Lib.hid (Blk.ext HB10_14.out e15)
  clear e15 c8_0 c8_1 c9_0 c9_1 c10_0 c10_1
  have c9_0 := HB9_15.out.cell 0 rfl
  have c9_1 := HB9_15.out.cell 1 rfl
  have c10_0 := HB10_15.out.cell 0 rfl
  have c10_1 := HB10_15.out.cell 1 rfl
  have c8_0 := HB8_15.out.cell 0 rfl
  have c8_1 := HB8_15.out.cell 1 rfl
  go_wp2_with fail
  refine (vturn_s ⟨b.x, b.y⟩ ⟨c.x, c.y⟩ ⟨a.x, a.y⟩ S _ (HG.out.ext HX15.out) (⟨(Hb.out.x.mono (by omega)), (Hb.out.y.mono (by omega))⟩ : PB 200 _) (⟨(Hc.out.x.mono (by omega)), (Hc.out.y.mono (by omega))⟩ : PB 200 _) (⟨(Ha.out.x.mono (by omega)), (Ha.out.y.mono (by omega))⟩ : PB 200 _) ((congrArg (fun q : Rat => q.num.sign) (by grind)).trans HSE.out)).mono ?_; rintro e w16 ⟨rfl, e16⟩
  have HX16 : Hid (Ext w w16) := Lib.hid (HX15.out.trans e16)
  have HB0_16 := Lib.hid (Blk.ext HB0_15.out e16)
  have HB1_16 := Lib.hid (Blk.ext HB1_15.out e16)
  have HB8_16 := Lib.hid (Blk.ext HB8_15.out e16)
  have HB9_16 := Lib.hid (Blk.ext HB9_15.out e16)
  have HB10_16 := Lib.hid (Blk.ext HB10_15.out e16)
  clear e16 c9_0 c9_1 c10_0 c10_1 c8_0 c8_1
  have c9_0 := HB9_16.out.cell 0 rfl
  have c9_1 := HB9_16.out.cell 1 rfl
  have c8_0 := HB8_16.out.cell 0 rfl
  have c8_1 := HB8_16.out.cell 1 rfl
  have c10_0 := HB10_16.out.cell 0 rfl
  have c10_1 := HB10_16.out.cell 1 rfl
  go_wp2_with fail
  refine (vturn_s ⟨b.x, b.y⟩ ⟨a.x, a.y⟩ ⟨c.x, c.y⟩ (-S) _ (HG.out.ext HX16.out) (⟨(Hb.out.x.mono (by omega)), (Hb.out.y.mono (by omega))⟩ : PB 200 _) (⟨(Ha.out.x.mono (by omega)), (Ha.out.y.mono (by omega))⟩ : PB 200 _) (⟨(Hc.out.x.mono (by omega)), (Hc.out.y.mono (by omega))⟩ : PB 200 _) (HSE.out ▸ sgn_neg (by grind))).mono ?_; rintro e w17 ⟨rfl, e17⟩
  have HX17 : Hid (Ext w w17) := Lib.hid (HX16.out.trans e17)
  have HB0_17 := Lib.hid (Blk.ext HB0_16.out e17)
  have HB1_17 := Lib.hid (Blk.ext HB1_16.out e17)
  clear e17 c9_0 c9_1 c8_0 c8_1 c10_0 c10_1
  have c1_6 := HB1_17.out.cell 6 rfl
  have c1_7 := HB1_17.out.cell 7 rfl
  have c1_8 := HB1_17.out.cell 8 rfl
  have c1_9 := HB1_17.out.cell 9 rfl
  have c1_10 := HB1_17.out.cell 10 rfl
  have c1_11 := HB1_17.out.cell 11 rfl
  go_wp2_with fail
  refine ((HdE.out ▸ make_c s _ (HG.out.ext HX17.out) Hs.out)).mono ?_; rintro e w18 ⟨rfl, e18⟩
  have HX18 : Hid (Ext w w18) := Lib.hid (HX17.out.trans e18)
  have HB0_18 := Lib.hid (Blk.ext HB0_17.out e18)
  have HB1_18 := Lib.hid (Blk.ext HB1_17.out e18)
  clear e18 c1_6 c1_7 c1_8 c1_9 c1_10 c1_11
  go_upto_region 18 with fail
  refine wp_name (fun W => Ext w W ∧ Blk W (w.heap.size) #[.int .i16 p.n0, .int .u8 (p.d0 : Int), .int .i16 p.n1, .int .u8 (p.d1 : Int), .int .i16 p.n2, .int .u8 (p.d2 : Int), .int .i16 q.n0, .int .u8 (q.d0 : Int), .int .i16 q.n1, .int .u8 (q.d1 : Int), .int .i16 q.n2, .int .u8 (q.d2 : Int)] 44 ∧ Blk W (w.heap.size + 1) #[.int .i16 r.n0, .int .u8 (r.d0 : Int), .int .i16 r.n1, .int .u8 (r.d1 : Int), .int .i16 r.n2, .int .u8 (r.d2 : Int), .int .i16 s.n0, .int .u8 (s.d0 : Int), .int .i16 s.n1, .int .u8 (s.d1 : Int), .int .i16 s.n2, .int .u8 (s.d2 : Int)] 44 ∧ Blk W (w18.heap.size) #[.string (qs d.x), .string (qs d.y), .string (qs d.z)] 30 ∧ Blk W (w18.heap.size + 1) #[.string ⟨#[]⟩, .string ⟨#[]⟩, .string ⟨#[]⟩, .string ⟨#[]⟩, .string ⟨#[]⟩, .string ⟨#[]⟩] 62) ⟨((HX18.out.alloc _).alloc _), ((HB0_18.out.alloc _).alloc _), ((HB1_18.out.alloc _).alloc _), ((Blk.new' (w := _) (cs := #[.string (qs d.x), .string (qs d.y), .string (qs d.z)]) (t := 30) (by first | rfl | (simp only [World.size_alloc]; done) | (simp only [World.size_alloc]; omega) | simp)).alloc _), (Blk.new' (w := _) (cs := #[.string ⟨#[]⟩, .string ⟨#[]⟩, .string ⟨#[]⟩, .string ⟨#[]⟩, .string ⟨#[]⟩, .string ⟨#[]⟩]) (t := 62) (by first | rfl | (simp only [World.size_alloc]; done) | (simp only [World.size_alloc]; omega) | simp))⟩ ?_
  rintro w19 ⟨e19, bB0_19, bB1_19, bB11_19, bB12_19⟩
  have HX19 := Lib.hid e19; have HB0_19 := Lib.hid bB0_19; have HB1_19 := Lib.hid bB1_19; have HB11_19 := Lib.hid bB11_19; have HB12_19 := Lib.hid bB12_19
  have HGEB11 : Hid (w.heap.size ≤ w18.heap.size) := Lib.hid (by have := HX18.out.size; first | omega | (simp only []; omega) | (simp; omega))
  have HGEB12 : Hid (w.heap.size ≤ w18.heap.size + 1) := Lib.hid (by have := HX18.out.size; first | omega | (simp only []; omega) | (simp; omega))
  clear e19 bB0_19 bB1_19 bB11_19 bB12_19
  have c0_0 := HB0_19.out.cell 0 rfl
  have c0_1 := HB0_19.out.cell 1 rfl
  have c0_2 := HB0_19.out.cell 2 rfl
  have c0_3 := HB0_19.out.cell 3 rfl
  have c0_4 := HB0_19.out.cell 4 rfl
  have c0_5 := HB0_19.out.cell 5 rfl
  have c0_6 := HB0_19.out.cell 6 rfl
  have c0_7 := HB0_19.out.cell 7 rfl
  have c0_8 := HB0_19.out.cell 8 rfl
  have c0_9 := HB0_19.out.cell 9 rfl
  have c0_10 := HB0_19.out.cell 10 rfl
  have c0_11 := HB0_19.out.cell 11 rfl
  have c1_0 := HB1_19.out.cell 0 rfl
  have c1_1 := HB1_19.out.cell 1 rfl
  have c1_2 := HB1_19.out.cell 2 rfl
  have c1_3 := HB1_19.out.cell 3 rfl
  have c1_4 := HB1_19.out.cell 4 rfl
  have c1_5 := HB1_19.out.cell 5 rfl
  go_wp2_with fail
  refine wp_loop_rounds 4 ?_
  rw [rounds_succ]
  clear c0_0 c0_1 c0_2 c0_3 c0_4 c0_5 c0_6 c0_7 c0_8 c0_9 c0_10 c0_11 c1_0 c1_1 c1_2 c1_3 c1_4 c1_5
  go_upto_region 20 with fail
  refine wp_name (fun W => Ext w W ∧ Blk W (w18.heap.size) #[.string (qs d.x), .string (qs d.y), .string (qs d.z)] 30 ∧ Blk W (w18.heap.size + 1) #[.string ⟨#[]⟩, .string ⟨#[]⟩, .string ⟨#[]⟩, .string ⟨#[]⟩, .string ⟨#[]⟩, .string ⟨#[]⟩] 62 ∧ Blk W (w19.heap.size) #[.int .i16 p.n0, .int .u8 (p.d0 : Int), .int .i16 p.n1, .int .u8 (p.d1 : Int), .int .i16 p.n2, .int .u8 (p.d2 : Int), .int .i16 q.n0, .int .u8 (q.d0 : Int), .int .i16 q.n1, .int .u8 (q.d1 : Int), .int .i16 q.n2, .int .u8 (q.d2 : Int), .int .i16 r.n0, .int .u8 (r.d0 : Int), .int .i16 r.n1, .int .u8 (r.d1 : Int), .int .i16 r.n2, .int .u8 (r.d2 : Int)] 26) ⟨(HX19.out.alloc _), (HB11_19.out.alloc _), (HB12_19.out.alloc _), (Blk.new' (w := _) (cs := #[.int .i16 p.n0, .int .u8 (p.d0 : Int), .int .i16 p.n1, .int .u8 (p.d1 : Int), .int .i16 p.n2, .int .u8 (p.d2 : Int), .int .i16 q.n0, .int .u8 (q.d0 : Int), .int .i16 q.n1, .int .u8 (q.d1 : Int), .int .i16 q.n2, .int .u8 (q.d2 : Int), .int .i16 r.n0, .int .u8 (r.d0 : Int), .int .i16 r.n1, .int .u8 (r.d1 : Int), .int .i16 r.n2, .int .u8 (r.d2 : Int)]) (t := 26) (by first | rfl | (simp only [World.size_alloc]; done) | (simp only [World.size_alloc]; omega) | simp))⟩ ?_
  rintro w20 ⟨e20, bB11_20, bB12_20, bB13_20⟩
  have HX20 := Lib.hid e20; have HB11_20 := Lib.hid bB11_20; have HB12_20 := Lib.hid bB12_20; have HB13_20 := Lib.hid bB13_20
  have HGEB13 : Hid (w.heap.size ≤ w19.heap.size) := Lib.hid (by have := HX19.out.size; first | omega | (simp only []; omega) | (simp; omega))
  clear e20 bB11_20 bB12_20 bB13_20
  have c13_0 := HB13_20.out.cell 0 rfl
  have c13_1 := HB13_20.out.cell 1 rfl
  have c13_2 := HB13_20.out.cell 2 rfl
  have c13_3 := HB13_20.out.cell 3 rfl
  have c13_4 := HB13_20.out.cell 4 rfl
  have c13_5 := HB13_20.out.cell 5 rfl
  go_wp2_with fail
  refine wp_name (fun W => Ext w W ∧ Blk W (w18.heap.size) #[.string (qs d.x), .string (qs d.y), .string (qs d.z)] 30 ∧ Blk W (w18.heap.size + 1) #[.string ⟨#[]⟩, .string ⟨#[]⟩, .string ⟨#[]⟩, .string ⟨#[]⟩, .string ⟨#[]⟩, .string ⟨#[]⟩] 62 ∧ Blk W (w19.heap.size) #[.int .i16 p.n0, .int .u8 (p.d0 : Int), .int .i16 p.n1, .int .u8 (p.d1 : Int), .int .i16 p.n2, .int .u8 (p.d2 : Int), .int .i16 q.n0, .int .u8 (q.d0 : Int), .int .i16 q.n1, .int .u8 (q.d1 : Int), .int .i16 q.n2, .int .u8 (q.d2 : Int), .int .i16 r.n0, .int .u8 (r.d0 : Int), .int .i16 r.n1, .int .u8 (r.d1 : Int), .int .i16 r.n2, .int .u8 (r.d2 : Int)] 26 ∧ Blk W (w20.heap.size) #[.int .i16 p.n0, .int .u8 (p.d0 : Int), .int .i16 p.n1, .int .u8 (p.d1 : Int), .int .i16 p.n2, .int .u8 (p.d2 : Int)] 26) ⟨(HX20.out.alloc _), (HB11_20.out.alloc _), (HB12_20.out.alloc _), (HB13_20.out.alloc _), (Blk.new' (w := _) (cs := #[.int .i16 p.n0, .int .u8 (p.d0 : Int), .int .i16 p.n1, .int .u8 (p.d1 : Int), .int .i16 p.n2, .int .u8 (p.d2 : Int)]) (t := 26) (by first | rfl | (simp only [World.size_alloc]; done) | (simp only [World.size_alloc]; omega) | simp))⟩ ?_
  rintro w21 ⟨e21, bB11_21, bB12_21, bB13_21, bB14_21⟩
  have HX21 := Lib.hid e21; have HB11_21 := Lib.hid bB11_21; have HB12_21 := Lib.hid bB12_21; have HB13_21 := Lib.hid bB13_21; have HB14_21 := Lib.hid bB14_21
  have HGEB14 : Hid (w.heap.size ≤ w20.heap.size) := Lib.hid (by have := HX20.out.size; first | omega | (simp only []; omega) | (simp; omega))
  clear e21 bB11_21 bB12_21 bB13_21 bB14_21 c13_0 c13_1 c13_2 c13_3 c13_4 c13_5
  refine region_lin [.val (.agg #[.int .i16 p.n0, .int .u8 (p.d0 : Int), .int .i16 p.n1, .int .u8 (p.d1 : Int), .int .i16 p.n2, .int .u8 (p.d2 : Int)]), .val (.agg #[.string (qs a.x), .string (qs a.y), .string (qs a.z)]), .val (.agg #[.string (qs d.x), .string (qs d.y), .string (qs d.z)]), .val (.tuple #[.agg #[.string (qs (a.x + d.x)), .string (qs (a.y + d.y)), .string (qs (a.z + d.z))], .int .i64 0]), .val (.tuple #[.agg #[.string (qs (a.x + d.x)), .string (qs (a.y + d.y)), .string (qs (a.z + d.z))], .int .i64 0]), .val (.agg #[.string (qs (a.x + d.x)), .string (qs (a.y + d.y)), .string (qs (a.z + d.z))]), .val (.int .i64 0), .mem (fun b_ => .pointer (some ⟨b_, 0, none⟩)) #[.string ⟨#[]⟩, .string ⟨#[]⟩, .string ⟨#[]⟩] 30 (Option.some 8), .put 7 #[.string (qs (a.x + d.x)), .string (qs (a.y + d.y)), .string (qs (a.z + d.z))], .val (.int .i64 0)] (by kernel_rfl) (by kernel_rfl) (by kernel_rfl) ?_ (fun g21 w22 hx_ hm_ hne_ => ?_)
  · skip
    refine RnL.cons (fun g21 A_ W_ hs_ => ?_) ?_
    · have q31_ := (hs_.old 31 (by kernel_rfl) : A_.tmps[31]?.getD undef = .pointer (some ⟨w20.heap.size, 0, none⟩))
      have cB14_0 := (HB14_21.out.drew.ext hs_.1).cell 0 rfl
      have cB14_1 := (HB14_21.out.drew.ext hs_.1).cell 1 rfl
      have cB14_2 := (HB14_21.out.drew.ext hs_.1).cell 2 rfl
      have cB14_3 := (HB14_21.out.drew.ext hs_.1).cell 3 rfl
      have cB14_4 := (HB14_21.out.drew.ext hs_.1).cell 4 rfl
      have cB14_5 := (HB14_21.out.drew.ext hs_.1).cell 5 rfl
      refine Rn.val fun K_ hK_ => ?_
      go_simp
      exact hK_.out _ (Ext.refl _)
    refine RnL.cons (fun g21 A_ W_ hs_ => ?_) ?_
    · have q148_ := hs_.val 0 rfl rfl rfl
      refine Rn.val fun K_ hK_ => ?_
      go_simp
      refine ((HaE.out ▸ make_c p _ (HG.out.ext (HX21.out.drew.trans hs_.1)) Hp.out)).mono ?_; rintro e W9_ ⟨rfl, e9_⟩; exact hK_.out _ e9_
    refine RnL.cons (fun g21 A_ W_ hs_ => ?_) ?_
    · have q28_ := (hs_.old 28 (by kernel_rfl) : A_.tmps[28]?.getD undef = .pointer (some ⟨w18.heap.size, 0, none⟩))
      have cB11_0 := (HB11_21.out.drew.ext hs_.1).cell 0 rfl
      have cB11_1 := (HB11_21.out.drew.ext hs_.1).cell 1 rfl
      have cB11_2 := (HB11_21.out.drew.ext hs_.1).cell 2 rfl
      refine Rn.val fun K_ hK_ => ?_
      go_simp
      exact hK_.out _ (Ext.refl _)
    refine RnL.cons (fun g21 A_ W_ hs_ => ?_) ?_
    · have q149_ := hs_.val 1 rfl rfl rfl
      have q150_ := hs_.val 2 rfl rfl rfl
      refine Rn.val fun K_ hK_ => ?_
      go_simp
      refine (vAdd_ok a d _ (HG.out.ext (HX21.out.drew.trans hs_.1)) (Ha.out.mono (by omega)) (Hd.out.mono (by omega)) ⟨((Ha.out.x.add Hd.out.x).mono (by omega)), ((Ha.out.y.add Hd.out.y).mono (by omega)), ((Ha.out.z.add Hd.out.z).mono (by omega))⟩).mono ?_; rintro e W9_ ⟨rfl, e9_⟩; exact hK_.out _ e9_
    refine RnL.cons (fun g21 A_ W_ hs_ => ?_) ?_
    · have q151_ := hs_.val 3 rfl rfl rfl
      refine Rn.val fun K_ hK_ => ?_
      go_simp
      exact hK_.out _ (Ext.refl _)
    refine RnL.cons (fun g21 A_ W_ hs_ => ?_) ?_
    · have q147_ := hs_.val 4 rfl rfl rfl
      refine Rn.val fun K_ hK_ => ?_
      go_simp
      exact hK_.out _ (Ext.refl _)
    refine RnL.cons (fun g21 A_ W_ hs_ => ?_) ?_
    · have q147_ := hs_.val 4 rfl rfl rfl
      refine Rn.val fun K_ hK_ => ?_
      go_simp
      exact hK_.out _ (Ext.refl _)
    refine RnL.cons (fun g21 A_ W_ hs_ => ?_) ?_
    · refine Rn.mem fun K_ hK_ => ?_
      go_simp
      exact hK_.out
    refine RnL.cons (fun g21 A_ W_ hs_ => ?_) ?_
    · have q32_ := (hs_.mem 7 rfl rfl rfl).1
      have q152_ := hs_.val 5 rfl rfl rfl
      refine Rn.put (z := #[.string ⟨#[]⟩, .string ⟨#[]⟩, .string ⟨#[]⟩]) (t := 30) rfl fun hB K_ hK_ => ?_
      have c_0 := hB.cell 0 rfl; have f_0 := hB.free 0
      have c_1 := hB.cell 1 rfl; have f_1 := hB.free 1
      have c_2 := hB.cell 2 rfl; have f_2 := hB.free 2
      have HB := Lib.hid hB; clear hB
      go_simp
      exact hK_.out _ ((((Only.refl _ _).set 0 _).set 1 _).set 2 _) (((HB.out.set 0 _).set 1 _).set 2 _)
    refine RnL.cons (fun g21 A_ W_ hs_ => ?_) ?_
    · have q153_ := hs_.val 6 rfl rfl rfl
      refine Rn.val fun K_ hK_ => ?_
      go_simp
      exact hK_.out _ (Ext.refl _)
    exact RnL.nil
  simp only [fs, Kd.value, puts, Act.put, List.setIfInBounds_toArray, List.set_cons_zero, List.set_cons_succ, Nat.reduceAdd]
  have HX22 : Hid (Ext w w22) := Lib.hid (HX21.out.drew.trans hx_)
  have HB11_22 := Lib.hid (HB11_21.out.drew.ext hx_)
  have HB12_22 := Lib.hid (HB12_21.out.drew.ext hx_)
  have HB13_22 := Lib.hid (HB13_21.out.drew.ext hx_)
  have HB15_22 : Hid (Blk w22 (g21 7) #[.string (qs (a.x + d.x)), .string (qs (a.y + d.y)), .string (qs (a.z + d.z))] 30) := Lib.hid (hm_ 7 _ _ _ _ rfl).2; have HGEB15 : Hid (w.heap.size ≤ g21 7) := Lib.hid (Nat.le_trans HX21.out.size (hm_ 7 _ _ _ _ rfl).1)
  have HNEB11B15 : Hid (w18.heap.size ≠ g21 7) := Lib.hid (Nat.ne_of_lt (Nat.lt_of_lt_of_le HB11_21.out.lt (hm_ 7 _ _ _ _ rfl).1))
  have HNEB12B15 : Hid (w18.heap.size + 1 ≠ g21 7) := Lib.hid (Nat.ne_of_lt (Nat.lt_of_lt_of_le HB12_21.out.lt (hm_ 7 _ _ _ _ rfl).1))
  have HNEB13B15 : Hid (w19.heap.size ≠ g21 7) := Lib.hid (Nat.ne_of_lt (Nat.lt_of_lt_of_le HB13_21.out.lt (hm_ 7 _ _ _ _ rfl).1))
  clear hx_ hm_ hne_
  generalize g21 7 = i15 at *
  clear g21
  have c15_0 := HB15_22.out.cell 0 rfl
  have c15_1 := HB15_22.out.cell 1 rfl
  have c12_0 := HB12_22.out.cell 0 rfl
  have f12_0 := HB12_22.out.free 0
  have c12_1 := HB12_22.out.cell 1 rfl
  have f12_1 := HB12_22.out.free 1
  go_wp2_with fail
  rw [rounds_succ]
  clear c15_0 c15_1 c12_0 f12_0 c12_1 f12_1
  go_upto_region 20 with fail
  refine wp_name (fun W => Ext w W ∧ Blk W (w18.heap.size) #[.string (qs d.x), .string (qs d.y), .string (qs d.z)] 30 ∧ Blk W (w18.heap.size + 1) #[.string (qs (a.x + d.x)), .string (qs (a.y + d.y)), .string ⟨#[]⟩, .string ⟨#[]⟩, .string ⟨#[]⟩, .string ⟨#[]⟩] 62 ∧ Blk W (w19.heap.size) #[.int .i16 p.n0, .int .u8 (p.d0 : Int), .int .i16 p.n1, .int .u8 (p.d1 : Int), .int .i16 p.n2, .int .u8 (p.d2 : Int), .int .i16 q.n0, .int .u8 (q.d0 : Int), .int .i16 q.n1, .int .u8 (q.d1 : Int), .int .i16 q.n2, .int .u8 (q.d2 : Int), .int .i16 r.n0, .int .u8 (r.d0 : Int), .int .i16 r.n1, .int .u8 (r.d1 : Int), .int .i16 r.n2, .int .u8 (r.d2 : Int)] 26) ⟨((HX22.out.setCell (by have := HGEB12.out; first | omega | (simp only []; omega) | (simp; omega)) _).setCell (by have := HGEB12.out; first | omega | (simp only []; omega) | (simp; omega)) _), ((HB11_22.out.other (a := ⟨w18.heap.size + 1, 0, none⟩) _ (by first | omega | (simp only []; omega) | (simp; omega))).other (a := ⟨w18.heap.size + 1, 1, none⟩) _ (by first | omega | (simp only []; omega) | (simp; omega))), ((HB12_22.out.set 0 (.string (qs (a.x + d.x)))).set 1 (.string (qs (a.y + d.y)))), ((HB13_22.out.other (a := ⟨w18.heap.size + 1, 0, none⟩) _ (by have := HB12_19.out.lt; first | omega | (simp only []; omega) | (simp; omega))).other (a := ⟨w18.heap.size + 1, 1, none⟩) _ (by have := HB12_19.out.lt; first | omega | (simp only []; omega) | (simp; omega)))⟩ ?_
  rintro w23 ⟨e23, bB11_23, bB12_23, bB13_23⟩
  have HX23 := Lib.hid e23; have HB11_23 := Lib.hid bB11_23; have HB12_23 := Lib.hid bB12_23; have HB13_23 := Lib.hid bB13_23
  clear e23 bB11_23 bB12_23 bB13_23
  have c13_6 := HB13_23.out.cell 6 rfl
  have c13_7 := HB13_23.out.cell 7 rfl
  have c13_8 := HB13_23.out.cell 8 rfl
  have c13_9 := HB13_23.out.cell 9 rfl
  have c13_10 := HB13_23.out.cell 10 rfl
  have c13_11 := HB13_23.out.cell 11 rfl
  go_wp2_with fail
  refine wp_name (fun W => Ext w W ∧ Blk W (w18.heap.size) #[.string (qs d.x), .string (qs d.y), .string (qs d.z)] 30 ∧ Blk W (w18.heap.size + 1) #[.string (qs (a.x + d.x)), .string (qs (a.y + d.y)), .string ⟨#[]⟩, .string ⟨#[]⟩, .string ⟨#[]⟩, .string ⟨#[]⟩] 62 ∧ Blk W (w19.heap.size) #[.int .i16 p.n0, .int .u8 (p.d0 : Int), .int .i16 p.n1, .int .u8 (p.d1 : Int), .int .i16 p.n2, .int .u8 (p.d2 : Int), .int .i16 q.n0, .int .u8 (q.d0 : Int), .int .i16 q.n1, .int .u8 (q.d1 : Int), .int .i16 q.n2, .int .u8 (q.d2 : Int), .int .i16 r.n0, .int .u8 (r.d0 : Int), .int .i16 r.n1, .int .u8 (r.d1 : Int), .int .i16 r.n2, .int .u8 (r.d2 : Int)] 26 ∧ Blk W (w23.heap.size) #[.int .i16 q.n0, .int .u8 (q.d0 : Int), .int .i16 q.n1, .int .u8 (q.d1 : Int), .int .i16 q.n2, .int .u8 (q.d2 : Int)] 26) ⟨(HX23.out.alloc _), (HB11_23.out.alloc _), (HB12_23.out.alloc _), (HB13_23.out.alloc _), (Blk.new' (w := _) (cs := #[.int .i16 q.n0, .int .u8 (q.d0 : Int), .int .i16 q.n1, .int .u8 (q.d1 : Int), .int .i16 q.n2, .int .u8 (q.d2 : Int)]) (t := 26) (by first | rfl | (simp only [World.size_alloc]; done) | (simp only [World.size_alloc]; omega) | simp))⟩ ?_
  rintro w24 ⟨e24, bB11_24, bB12_24, bB13_24, bB16_24⟩
  have HX24 := Lib.hid e24; have HB11_24 := Lib.hid bB11_24; have HB12_24 := Lib.hid bB12_24; have HB13_24 := Lib.hid bB13_24; have HB16_24 := Lib.hid bB16_24
  have HGEB16 : Hid (w.heap.size ≤ w23.heap.size) := Lib.hid (by have := HX23.out.size; first | omega | (simp only []; omega) | (simp; omega))
  clear e24 bB11_24 bB12_24 bB13_24 bB16_24 c13_6 c13_7 c13_8 c13_9 c13_10 c13_11
  refine region_lin [.val (.agg #[.int .i16 q.n0, .int .u8 (q.d0 : Int), .int .i16 q.n1, .int .u8 (q.d1 : Int), .int .i16 q.n2, .int .u8 (q.d2 : Int)]), .val (.agg #[.string (qs b.x), .string (qs b.y), .string (qs b.z)]), .val (.agg #[.string (qs d.x), .string (qs d.y), .string (qs d.z)]), .val (.tuple #[.agg #[.string (qs (b.x + d.x)), .string (qs (b.y + d.y)), .string (qs (b.z + d.z))], .int .i64 0]), .val (.tuple #[.agg #[.string (qs (b.x + d.x)), .string (qs (b.y + d.y)), .string (qs (b.z + d.z))], .int .i64 0]), .val (.agg #[.string (qs (b.x + d.x)), .string (qs (b.y + d.y)), .string (qs (b.z + d.z))]), .val (.int .i64 0), .mem (fun b_ => .pointer (some ⟨b_, 0, none⟩)) #[.string ⟨#[]⟩, .string ⟨#[]⟩, .string ⟨#[]⟩] 30 (Option.some 8), .put 7 #[.string (qs (b.x + d.x)), .string (qs (b.y + d.y)), .string (qs (b.z + d.z))], .val (.int .i64 0)] (by kernel_rfl) (by kernel_rfl) (by kernel_rfl) ?_ (fun g24 w25 hx_ hm_ hne_ => ?_)
  · skip
    refine RnL.cons (fun g24 A_ W_ hs_ => ?_) ?_
    · have q31_ := (hs_.old 31 (by kernel_rfl) : A_.tmps[31]?.getD undef = .pointer (some ⟨w23.heap.size, 0, none⟩))
      have cB16_0 := (HB16_24.out.drew.ext hs_.1).cell 0 rfl
      have cB16_1 := (HB16_24.out.drew.ext hs_.1).cell 1 rfl
      have cB16_2 := (HB16_24.out.drew.ext hs_.1).cell 2 rfl
      have cB16_3 := (HB16_24.out.drew.ext hs_.1).cell 3 rfl
      have cB16_4 := (HB16_24.out.drew.ext hs_.1).cell 4 rfl
      have cB16_5 := (HB16_24.out.drew.ext hs_.1).cell 5 rfl
      refine Rn.val fun K_ hK_ => ?_
      go_simp
      exact hK_.out _ (Ext.refl _)
    refine RnL.cons (fun g24 A_ W_ hs_ => ?_) ?_
    · have q148_ := hs_.val 0 rfl rfl rfl
      refine Rn.val fun K_ hK_ => ?_
      go_simp
      refine ((HbE.out ▸ make_c q _ (HG.out.ext (HX24.out.drew.trans hs_.1)) Hq.out)).mono ?_; rintro e W9_ ⟨rfl, e9_⟩; exact hK_.out _ e9_
    refine RnL.cons (fun g24 A_ W_ hs_ => ?_) ?_
    · have q28_ := (hs_.old 28 (by kernel_rfl) : A_.tmps[28]?.getD undef = .pointer (some ⟨w18.heap.size, 0, none⟩))
      have cB11_0 := (HB11_24.out.drew.ext hs_.1).cell 0 rfl
      have cB11_1 := (HB11_24.out.drew.ext hs_.1).cell 1 rfl
      have cB11_2 := (HB11_24.out.drew.ext hs_.1).cell 2 rfl
      refine Rn.val fun K_ hK_ => ?_
      go_simp
      exact hK_.out _ (Ext.refl _)
    refine RnL.cons (fun g24 A_ W_ hs_ => ?_) ?_
    · have q149_ := hs_.val 1 rfl rfl rfl
      have q150_ := hs_.val 2 rfl rfl rfl
      refine Rn.val fun K_ hK_ => ?_
      go_simp
      refine (vAdd_ok b d _ (HG.out.ext (HX24.out.drew.trans hs_.1)) (Hb.out.mono (by omega)) (Hd.out.mono (by omega)) ⟨((Hb.out.x.add Hd.out.x).mono (by omega)), ((Hb.out.y.add Hd.out.y).mono (by omega)), ((Hb.out.z.add Hd.out.z).mono (by omega))⟩).mono ?_; rintro e W9_ ⟨rfl, e9_⟩; exact hK_.out _ e9_
    refine RnL.cons (fun g24 A_ W_ hs_ => ?_) ?_
    · have q151_ := hs_.val 3 rfl rfl rfl
      refine Rn.val fun K_ hK_ => ?_
      go_simp
      exact hK_.out _ (Ext.refl _)
    refine RnL.cons (fun g24 A_ W_ hs_ => ?_) ?_
    · have q147_ := hs_.val 4 rfl rfl rfl
      refine Rn.val fun K_ hK_ => ?_
      go_simp
      exact hK_.out _ (Ext.refl _)
    refine RnL.cons (fun g24 A_ W_ hs_ => ?_) ?_
    · have q147_ := hs_.val 4 rfl rfl rfl
      refine Rn.val fun K_ hK_ => ?_
      go_simp
      exact hK_.out _ (Ext.refl _)
    refine RnL.cons (fun g24 A_ W_ hs_ => ?_) ?_
    · refine Rn.mem fun K_ hK_ => ?_
      go_simp
      exact hK_.out
    refine RnL.cons (fun g24 A_ W_ hs_ => ?_) ?_
    · have q32_ := (hs_.mem 7 rfl rfl rfl).1
      have q152_ := hs_.val 5 rfl rfl rfl
      refine Rn.put (z := #[.string ⟨#[]⟩, .string ⟨#[]⟩, .string ⟨#[]⟩]) (t := 30) rfl fun hB K_ hK_ => ?_
      have c_0 := hB.cell 0 rfl; have f_0 := hB.free 0
      have c_1 := hB.cell 1 rfl; have f_1 := hB.free 1
      have c_2 := hB.cell 2 rfl; have f_2 := hB.free 2
      have HB := Lib.hid hB; clear hB
      go_simp
      exact hK_.out _ ((((Only.refl _ _).set 0 _).set 1 _).set 2 _) (((HB.out.set 0 _).set 1 _).set 2 _)
    refine RnL.cons (fun g24 A_ W_ hs_ => ?_) ?_
    · have q153_ := hs_.val 6 rfl rfl rfl
      refine Rn.val fun K_ hK_ => ?_
      go_simp
      exact hK_.out _ (Ext.refl _)
    exact RnL.nil
  simp only [fs, Kd.value, puts, Act.put, List.setIfInBounds_toArray, List.set_cons_zero, List.set_cons_succ, Nat.reduceAdd]
  have HX25 : Hid (Ext w w25) := Lib.hid (HX24.out.drew.trans hx_)
  have HB11_25 := Lib.hid (HB11_24.out.drew.ext hx_)
  have HB12_25 := Lib.hid (HB12_24.out.drew.ext hx_)
  have HB13_25 := Lib.hid (HB13_24.out.drew.ext hx_)
  have HB17_25 : Hid (Blk w25 (g24 7) #[.string (qs (b.x + d.x)), .string (qs (b.y + d.y)), .string (qs (b.z + d.z))] 30) := Lib.hid (hm_ 7 _ _ _ _ rfl).2; have HGEB17 : Hid (w.heap.size ≤ g24 7) := Lib.hid (Nat.le_trans HX24.out.size (hm_ 7 _ _ _ _ rfl).1)
  have HNEB11B17 : Hid (w18.heap.size ≠ g24 7) := Lib.hid (Nat.ne_of_lt (Nat.lt_of_lt_of_le HB11_24.out.lt (hm_ 7 _ _ _ _ rfl).1))
  have HNEB12B17 : Hid (w18.heap.size + 1 ≠ g24 7) := Lib.hid (Nat.ne_of_lt (Nat.lt_of_lt_of_le HB12_24.out.lt (hm_ 7 _ _ _ _ rfl).1))
  have HNEB13B17 : Hid (w19.heap.size ≠ g24 7) := Lib.hid (Nat.ne_of_lt (Nat.lt_of_lt_of_le HB13_24.out.lt (hm_ 7 _ _ _ _ rfl).1))
  clear hx_ hm_ hne_
  generalize g24 7 = i17 at *
  clear g24
  have c17_0 := HB17_25.out.cell 0 rfl
  have c17_1 := HB17_25.out.cell 1 rfl
  have c12_2 := HB12_25.out.cell 2 rfl
  have f12_2 := HB12_25.out.free 2
  have c12_3 := HB12_25.out.cell 3 rfl
  have f12_3 := HB12_25.out.free 3
  go_wp2_with fail
  rw [rounds_succ]
  clear c17_0 c17_1 c12_2 f12_2 c12_3 f12_3
  go_upto_region 20 with fail
  refine wp_name (fun W => Ext w W ∧ Blk W (w18.heap.size) #[.string (qs d.x), .string (qs d.y), .string (qs d.z)] 30 ∧ Blk W (w18.heap.size + 1) #[.string (qs (a.x + d.x)), .string (qs (a.y + d.y)), .string (qs (b.x + d.x)), .string (qs (b.y + d.y)), .string ⟨#[]⟩, .string ⟨#[]⟩] 62 ∧ Blk W (w19.heap.size) #[.int .i16 p.n0, .int .u8 (p.d0 : Int), .int .i16 p.n1, .int .u8 (p.d1 : Int), .int .i16 p.n2, .int .u8 (p.d2 : Int), .int .i16 q.n0, .int .u8 (q.d0 : Int), .int .i16 q.n1, .int .u8 (q.d1 : Int), .int .i16 q.n2, .int .u8 (q.d2 : Int), .int .i16 r.n0, .int .u8 (r.d0 : Int), .int .i16 r.n1, .int .u8 (r.d1 : Int), .int .i16 r.n2, .int .u8 (r.d2 : Int)] 26) ⟨((HX25.out.setCell (by have := HGEB12.out; first | omega | (simp only []; omega) | (simp; omega)) _).setCell (by have := HGEB12.out; first | omega | (simp only []; omega) | (simp; omega)) _), ((HB11_25.out.other (a := ⟨w18.heap.size + 1, 2, none⟩) _ (by first | omega | (simp only []; omega) | (simp; omega))).other (a := ⟨w18.heap.size + 1, 3, none⟩) _ (by first | omega | (simp only []; omega) | (simp; omega))), ((HB12_25.out.set 2 (.string (qs (b.x + d.x)))).set 3 (.string (qs (b.y + d.y)))), ((HB13_25.out.other (a := ⟨w18.heap.size + 1, 2, none⟩) _ (by have := HB12_19.out.lt; first | omega | (simp only []; omega) | (simp; omega))).other (a := ⟨w18.heap.size + 1, 3, none⟩) _ (by have := HB12_19.out.lt; first | omega | (simp only []; omega) | (simp; omega)))⟩ ?_
  rintro w26 ⟨e26, bB11_26, bB12_26, bB13_26⟩
  have HX26 := Lib.hid e26; have HB11_26 := Lib.hid bB11_26; have HB12_26 := Lib.hid bB12_26; have HB13_26 := Lib.hid bB13_26
  clear e26 bB11_26 bB12_26 bB13_26
  have c13_12 := HB13_26.out.cell 12 rfl
  have c13_13 := HB13_26.out.cell 13 rfl
  have c13_14 := HB13_26.out.cell 14 rfl
  have c13_15 := HB13_26.out.cell 15 rfl
  have c13_16 := HB13_26.out.cell 16 rfl
  have c13_17 := HB13_26.out.cell 17 rfl
  go_wp2_with fail
  refine wp_name (fun W => Ext w W ∧ Blk W (w18.heap.size) #[.string (qs d.x), .string (qs d.y), .string (qs d.z)] 30 ∧ Blk W (w18.heap.size + 1) #[.string (qs (a.x + d.x)), .string (qs (a.y + d.y)), .string (qs (b.x + d.x)), .string (qs (b.y + d.y)), .string ⟨#[]⟩, .string ⟨#[]⟩] 62 ∧ Blk W (w26.heap.size) #[.int .i16 r.n0, .int .u8 (r.d0 : Int), .int .i16 r.n1, .int .u8 (r.d1 : Int), .int .i16 r.n2, .int .u8 (r.d2 : Int)] 26) ⟨(HX26.out.alloc _), (HB11_26.out.alloc _), (HB12_26.out.alloc _), (Blk.new' (w := _) (cs := #[.int .i16 r.n0, .int .u8 (r.d0 : Int), .int .i16 r.n1, .int .u8 (r.d1 : Int), .int .i16 r.n2, .int .u8 (r.d2 : Int)]) (t := 26) (by first | rfl | (simp only [World.size_alloc]; done) | (simp only [World.size_alloc]; omega) | simp))⟩ ?_
  rintro w27 ⟨e27, bB11_27, bB12_27, bB18_27⟩
  have HX27 := Lib.hid e27; have HB11_27 := Lib.hid bB11_27; have HB12_27 := Lib.hid bB12_27; have HB18_27 := Lib.hid bB18_27
  have HGEB18 : Hid (w.heap.size ≤ w26.heap.size) := Lib.hid (by have := HX26.out.size; first | omega | (simp only []; omega) | (simp; omega))
  clear e27 bB11_27 bB12_27 bB18_27 c13_12 c13_13 c13_14 c13_15 c13_16 c13_17
  refine region_lin [.val (.agg #[.int .i16 r.n0, .int .u8 (r.d0 : Int), .int .i16 r.n1, .int .u8 (r.d1 : Int), .int .i16 r.n2, .int .u8 (r.d2 : Int)]), .val (.agg #[.string (qs c.x), .string (qs c.y), .string (qs c.z)]), .val (.agg #[.string (qs d.x), .string (qs d.y), .string (qs d.z)]), .val (.tuple #[.agg #[.string (qs (c.x + d.x)), .string (qs (c.y + d.y)), .string (qs (c.z + d.z))], .int .i64 0]), .val (.tuple #[.agg #[.string (qs (c.x + d.x)), .string (qs (c.y + d.y)), .string (qs (c.z + d.z))], .int .i64 0]), .val (.agg #[.string (qs (c.x + d.x)), .string (qs (c.y + d.y)), .string (qs (c.z + d.z))]), .val (.int .i64 0), .mem (fun b_ => .pointer (some ⟨b_, 0, none⟩)) #[.string ⟨#[]⟩, .string ⟨#[]⟩, .string ⟨#[]⟩] 30 (Option.some 8), .put 7 #[.string (qs (c.x + d.x)), .string (qs (c.y + d.y)), .string (qs (c.z + d.z))], .val (.int .i64 0)] (by kernel_rfl) (by kernel_rfl) (by kernel_rfl) ?_ (fun g27 w28 hx_ hm_ hne_ => ?_)
  · skip
    refine RnL.cons (fun g27 A_ W_ hs_ => ?_) ?_
    · have q31_ := (hs_.old 31 (by kernel_rfl) : A_.tmps[31]?.getD undef = .pointer (some ⟨w26.heap.size, 0, none⟩))
      have cB18_0 := (HB18_27.out.drew.ext hs_.1).cell 0 rfl
      have cB18_1 := (HB18_27.out.drew.ext hs_.1).cell 1 rfl
      have cB18_2 := (HB18_27.out.drew.ext hs_.1).cell 2 rfl
      have cB18_3 := (HB18_27.out.drew.ext hs_.1).cell 3 rfl
      have cB18_4 := (HB18_27.out.drew.ext hs_.1).cell 4 rfl
      have cB18_5 := (HB18_27.out.drew.ext hs_.1).cell 5 rfl
      refine Rn.val fun K_ hK_ => ?_
      go_simp
      exact hK_.out _ (Ext.refl _)
    refine RnL.cons (fun g27 A_ W_ hs_ => ?_) ?_
    · have q148_ := hs_.val 0 rfl rfl rfl
      refine Rn.val fun K_ hK_ => ?_
      go_simp
      refine ((HcE.out ▸ make_c r _ (HG.out.ext (HX27.out.drew.trans hs_.1)) Hr.out)).mono ?_; rintro e W9_ ⟨rfl, e9_⟩; exact hK_.out _ e9_
    refine RnL.cons (fun g27 A_ W_ hs_ => ?_) ?_
    · have q28_ := (hs_.old 28 (by kernel_rfl) : A_.tmps[28]?.getD undef = .pointer (some ⟨w18.heap.size, 0, none⟩))
      have cB11_0 := (HB11_27.out.drew.ext hs_.1).cell 0 rfl
      have cB11_1 := (HB11_27.out.drew.ext hs_.1).cell 1 rfl
      have cB11_2 := (HB11_27.out.drew.ext hs_.1).cell 2 rfl
      refine Rn.val fun K_ hK_ => ?_
      go_simp
      exact hK_.out _ (Ext.refl _)
    refine RnL.cons (fun g27 A_ W_ hs_ => ?_) ?_
    · have q149_ := hs_.val 1 rfl rfl rfl
      have q150_ := hs_.val 2 rfl rfl rfl
      refine Rn.val fun K_ hK_ => ?_
      go_simp
      refine (vAdd_ok c d _ (HG.out.ext (HX27.out.drew.trans hs_.1)) (Hc.out.mono (by omega)) (Hd.out.mono (by omega)) ⟨((Hc.out.x.add Hd.out.x).mono (by omega)), ((Hc.out.y.add Hd.out.y).mono (by omega)), ((Hc.out.z.add Hd.out.z).mono (by omega))⟩).mono ?_; rintro e W9_ ⟨rfl, e9_⟩; exact hK_.out _ e9_
    refine RnL.cons (fun g27 A_ W_ hs_ => ?_) ?_
    · have q151_ := hs_.val 3 rfl rfl rfl
      refine Rn.val fun K_ hK_ => ?_
      go_simp
      exact hK_.out _ (Ext.refl _)
    refine RnL.cons (fun g27 A_ W_ hs_ => ?_) ?_
    · have q147_ := hs_.val 4 rfl rfl rfl
      refine Rn.val fun K_ hK_ => ?_
      go_simp
      exact hK_.out _ (Ext.refl _)
    refine RnL.cons (fun g27 A_ W_ hs_ => ?_) ?_
    · have q147_ := hs_.val 4 rfl rfl rfl
      refine Rn.val fun K_ hK_ => ?_
      go_simp
      exact hK_.out _ (Ext.refl _)
    refine RnL.cons (fun g27 A_ W_ hs_ => ?_) ?_
    · refine Rn.mem fun K_ hK_ => ?_
      go_simp
      exact hK_.out
    refine RnL.cons (fun g27 A_ W_ hs_ => ?_) ?_
    · have q32_ := (hs_.mem 7 rfl rfl rfl).1
      have q152_ := hs_.val 5 rfl rfl rfl
      refine Rn.put (z := #[.string ⟨#[]⟩, .string ⟨#[]⟩, .string ⟨#[]⟩]) (t := 30) rfl fun hB K_ hK_ => ?_
      have c_0 := hB.cell 0 rfl; have f_0 := hB.free 0
      have c_1 := hB.cell 1 rfl; have f_1 := hB.free 1
      have c_2 := hB.cell 2 rfl; have f_2 := hB.free 2
      have HB := Lib.hid hB; clear hB
      go_simp
      exact hK_.out _ ((((Only.refl _ _).set 0 _).set 1 _).set 2 _) (((HB.out.set 0 _).set 1 _).set 2 _)
    refine RnL.cons (fun g27 A_ W_ hs_ => ?_) ?_
    · have q153_ := hs_.val 6 rfl rfl rfl
      refine Rn.val fun K_ hK_ => ?_
      go_simp
      exact hK_.out _ (Ext.refl _)
    exact RnL.nil
  simp only [fs, Kd.value, puts, Act.put, List.setIfInBounds_toArray, List.set_cons_zero, List.set_cons_succ, Nat.reduceAdd]
  have HX28 : Hid (Ext w w28) := Lib.hid (HX27.out.drew.trans hx_)
  have HB12_28 := Lib.hid (HB12_27.out.drew.ext hx_)
  have HB19_28 : Hid (Blk w28 (g27 7) #[.string (qs (c.x + d.x)), .string (qs (c.y + d.y)), .string (qs (c.z + d.z))] 30) := Lib.hid (hm_ 7 _ _ _ _ rfl).2; have HGEB19 : Hid (w.heap.size ≤ g27 7) := Lib.hid (Nat.le_trans HX27.out.size (hm_ 7 _ _ _ _ rfl).1)
  have HNEB12B19 : Hid (w18.heap.size + 1 ≠ g27 7) := Lib.hid (Nat.ne_of_lt (Nat.lt_of_lt_of_le HB12_27.out.lt (hm_ 7 _ _ _ _ rfl).1))
  clear hx_ hm_ hne_
  generalize g27 7 = i19 at *
  clear g27
  have c19_0 := HB19_28.out.cell 0 rfl
  have c19_1 := HB19_28.out.cell 1 rfl
  have c12_4 := HB12_28.out.cell 4 rfl
  have f12_4 := HB12_28.out.free 4
  have c12_5 := HB12_28.out.cell 5 rfl
  have f12_5 := HB12_28.out.free 5
  go_wp2_with fail
  rw [rounds_succ]
  clear c19_0 c19_1 c12_4 f12_4 c12_5 f12_5
  go_wp2_with fail
  refine wp_name (fun W => Ext w W ∧ Blk W (w18.heap.size + 1) #[.string (qs (a.x + d.x)), .string (qs (a.y + d.y)), .string (qs (b.x + d.x)), .string (qs (b.y + d.y)), .string (qs (c.x + d.x)), .string (qs (c.y + d.y))] 62) ⟨((HX28.out.setCell (by have := HGEB12.out; first | omega | (simp only []; omega) | (simp; omega)) _).setCell (by have := HGEB12.out; first | omega | (simp only []; omega) | (simp; omega)) _), ((HB12_28.out.set 4 (.string (qs (c.x + d.x)))).set 5 (.string (qs (c.y + d.y))))⟩ ?_
  rintro w29 ⟨e29, bB12_29⟩
  have HX29 := Lib.hid e29; have HB12_29 := Lib.hid bB12_29
  clear e29 bB12_29
  refine region_lin [.val (.slice (some ⟨w18.heap.size + 1, 0, none⟩) 3 3), .val (.pointer (some ⟨w18.heap.size + 1, 0, none⟩)), .val (.agg #[.string (qs (a.x + d.x)), .string (qs (a.y + d.y))]), .val (.slice (some ⟨w18.heap.size + 1, 0, none⟩) 3 3), .val (.pointer (some ⟨w18.heap.size + 1, 2, none⟩)), .val (.agg #[.string (qs (b.x + d.x)), .string (qs (b.y + d.y))]), .val (.slice (some ⟨w18.heap.size + 1, 0, none⟩) 3 3), .val (.pointer (some ⟨w18.heap.size + 1, 4, none⟩)), .val (.agg #[.string (qs (c.x + d.x)), .string (qs (c.y + d.y))]), .val (.tuple #[.int .i64 S, .int .i64 0]), .val (.tuple #[.int .i64 S, .int .i64 0]), .val (.int .i64 S), .val (.int .i64 0), .val (.int .i64 S), .val (.int .i64 0)] (by kernel_rfl) (by kernel_rfl) (by kernel_rfl) ?_ (fun g29 w30 hx_ hm_ hne_ => ?_)
  · skip
    refine RnL.cons (fun g29 A_ W_ hs_ => ?_) ?_
    · have q29_ := (hs_.old 29 (by kernel_rfl) : A_.tmps[29]?.getD undef = .slice (some ⟨w18.heap.size + 1, 0, none⟩) 3 3)
      refine Rn.val fun K_ hK_ => ?_
      go_simp
      exact hK_.out _ (Ext.refl _)
    refine RnL.cons (fun g29 A_ W_ hs_ => ?_) ?_
    · have q166_ := hs_.val 0 rfl rfl rfl
      refine Rn.val fun K_ hK_ => ?_
      go_simp
      exact hK_.out _ (Ext.refl _)
    refine RnL.cons (fun g29 A_ W_ hs_ => ?_) ?_
    · have q167_ := hs_.val 1 rfl rfl rfl
      have cB12_0 := (HB12_29.out.drew.ext hs_.1).cell 0 rfl
      have cB12_1 := (HB12_29.out.drew.ext hs_.1).cell 1 rfl
      refine Rn.val fun K_ hK_ => ?_
      go_simp
      exact hK_.out _ (Ext.refl _)
    refine RnL.cons (fun g29 A_ W_ hs_ => ?_) ?_
    · have q29_ := (hs_.old 29 (by kernel_rfl) : A_.tmps[29]?.getD undef = .slice (some ⟨w18.heap.size + 1, 0, none⟩) 3 3)
      refine Rn.val fun K_ hK_ => ?_
      go_simp
      exact hK_.out _ (Ext.refl _)
    refine RnL.cons (fun g29 A_ W_ hs_ => ?_) ?_
    · have q169_ := hs_.val 3 rfl rfl rfl
      refine Rn.val fun K_ hK_ => ?_
      go_simp
      exact hK_.out _ (Ext.refl _)
    refine RnL.cons (fun g29 A_ W_ hs_ => ?_) ?_
    · have q170_ := hs_.val 4 rfl rfl rfl
      have cB12_2 := (HB12_29.out.drew.ext hs_.1).cell 2 rfl
      have cB12_3 := (HB12_29.out.drew.ext hs_.1).cell 3 rfl
      refine Rn.val fun K_ hK_ => ?_
      go_simp
      exact hK_.out _ (Ext.refl _)
    refine RnL.cons (fun g29 A_ W_ hs_ => ?_) ?_
    · have q29_ := (hs_.old 29 (by kernel_rfl) : A_.tmps[29]?.getD undef = .slice (some ⟨w18.heap.size + 1, 0, none⟩) 3 3)
      refine Rn.val fun K_ hK_ => ?_
      go_simp
      exact hK_.out _ (Ext.refl _)
    refine RnL.cons (fun g29 A_ W_ hs_ => ?_) ?_
    · have q172_ := hs_.val 6 rfl rfl rfl
      refine Rn.val fun K_ hK_ => ?_
      go_simp
      exact hK_.out _ (Ext.refl _)
    refine RnL.cons (fun g29 A_ W_ hs_ => ?_) ?_
    · have q173_ := hs_.val 7 rfl rfl rfl
      have cB12_4 := (HB12_29.out.drew.ext hs_.1).cell 4 rfl
      have cB12_5 := (HB12_29.out.drew.ext hs_.1).cell 5 rfl
      refine Rn.val fun K_ hK_ => ?_
      go_simp
      exact hK_.out _ (Ext.refl _)
    refine RnL.cons (fun g29 A_ W_ hs_ => ?_) ?_
    · have q168_ := hs_.val 2 rfl rfl rfl
      have q171_ := hs_.val 5 rfl rfl rfl
      have q174_ := hs_.val 8 rfl rfl rfl
      refine Rn.val fun K_ hK_ => ?_
      go_simp
      refine (vturn_s ⟨a.x + d.x, a.y + d.y⟩ ⟨b.x + d.x, b.y + d.y⟩ ⟨c.x + d.x, c.y + d.y⟩ S _ (HG.out.ext (HX29.out.drew.trans hs_.1)) (⟨((Ha.out.x.add Hd.out.x).mono (by omega)), ((Ha.out.y.add Hd.out.y).mono (by omega))⟩ : PB 200 _) (⟨((Hb.out.x.add Hd.out.x).mono (by omega)), ((Hb.out.y.add Hd.out.y).mono (by omega))⟩ : PB 200 _) (⟨((Hc.out.x.add Hd.out.x).mono (by omega)), ((Hc.out.y.add Hd.out.y).mono (by omega))⟩ : PB 200 _) ((congrArg (fun q : Rat => q.num.sign) (by grind)).trans HSE.out)).mono ?_; rintro e W9_ ⟨rfl, e9_⟩; exact hK_.out _ e9_
    refine RnL.cons (fun g29 A_ W_ hs_ => ?_) ?_
    · have q175_ := hs_.val 9 rfl rfl rfl
      refine Rn.val fun K_ hK_ => ?_
      go_simp
      exact hK_.out _ (Ext.refl _)
    refine RnL.cons (fun g29 A_ W_ hs_ => ?_) ?_
    · have q165_ := hs_.val 10 rfl rfl rfl
      refine Rn.val fun K_ hK_ => ?_
      go_simp
      exact hK_.out _ (Ext.refl _)
    refine RnL.cons (fun g29 A_ W_ hs_ => ?_) ?_
    · have q165_ := hs_.val 10 rfl rfl rfl
      refine Rn.val fun K_ hK_ => ?_
      go_simp
      exact hK_.out _ (Ext.refl _)
    refine RnL.cons (fun g29 A_ W_ hs_ => ?_) ?_
    · have q176_ := hs_.val 11 rfl rfl rfl
      refine Rn.val fun K_ hK_ => ?_
      go_simp
      exact hK_.out _ (Ext.refl _)
    refine RnL.cons (fun g29 A_ W_ hs_ => ?_) ?_
    · have q177_ := hs_.val 12 rfl rfl rfl
      refine Rn.val fun K_ hK_ => ?_
      go_simp
      exact hK_.out _ (Ext.refl _)
    exact RnL.nil
  simp only [fs, Kd.value, puts, Act.put, List.setIfInBounds_toArray, List.set_cons_zero, List.set_cons_succ]
  have HX30 : Hid (Ext w w30) := Lib.hid (HX29.out.drew.trans hx_)
  clear hx_ hm_ hne_
  go_wp2_with fail
  refine (((by decide : ferr [0, 0, 0, 0] = 0) ▸ first4_c 0 0 0 0 (w30.heap.size) _ (Blk.new' (w := _) (cs := #[.int .i64 0, .int .i64 0, .int .i64 0, .int .i64 0]) (t := 32) (by first | rfl | (simp only [World.size_alloc]; done) | (simp only [World.size_alloc]; omega) | simp)))).mono ?_; rintro e _ ⟨rfl, rfl⟩
  rcases HSV.out with rfl | rfl | rfl
  all_goals (go_wp2; go_ret; exact ⟨rfl, (HX30.out.alloc _)⟩)
end Go.Proofs.YtglppcmegocphaaGreatDoor
