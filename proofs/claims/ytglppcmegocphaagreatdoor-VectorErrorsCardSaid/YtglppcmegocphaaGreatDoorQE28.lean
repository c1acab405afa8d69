/- Part 28 of the proof: L10. -/
import Derived.Test.YtglppcmegocphaaGreatDoorQE1
import Derived.Test.YtglppcmegocphaaGreatDoorQE2
import Derived.Test.YtglppcmegocphaaGreatDoorQE3
import Derived.Test.YtglppcmegocphaaGreatDoorQE4
import Derived.Test.YtglppcmegocphaaGreatDoorQE5
import Derived.Test.YtglppcmegocphaaGreatDoorQE6
import Derived.Test.YtglppcmegocphaaGreatDoorQE7
import Derived.Test.YtglppcmegocphaaGreatDoorQE8
import Derived.Test.YtglppcmegocphaaGreatDoorQE9
import Derived.Test.YtglppcmegocphaaGreatDoorQE10
import Derived.Test.YtglppcmegocphaaGreatDoorQE11
import Derived.Test.YtglppcmegocphaaGreatDoorQE12
import Derived.Test.YtglppcmegocphaaGreatDoorQE13
import Derived.Test.YtglppcmegocphaaGreatDoorQE14
import Derived.Test.YtglppcmegocphaaGreatDoorQE15
import Derived.Test.YtglppcmegocphaaGreatDoorQE16
import Derived.Test.YtglppcmegocphaaGreatDoorQE17
import Derived.Test.YtglppcmegocphaaGreatDoorQE18
import Derived.Test.YtglppcmegocphaaGreatDoorQE19
import Derived.Test.YtglppcmegocphaaGreatDoorQE20
import Derived.Test.YtglppcmegocphaaGreatDoorQE21
import Derived.Test.YtglppcmegocphaaGreatDoorQE22
import Derived.Test.YtglppcmegocphaaGreatDoorQE23
import Derived.Test.YtglppcmegocphaaGreatDoorQE24
import Derived.Test.YtglppcmegocphaaGreatDoorQE25
import Derived.Test.YtglppcmegocphaaGreatDoorQE26
import Derived.Test.YtglppcmegocphaaGreatDoorQE27
namespace Go.Proofs.YtglppcmegocphaaGreatDoor
open Go Go.RowKit
structure SH (t : T3) : Prop where
  x : t.x.size ≤ 40
  y : t.y.size ≤ 40
  z : t.z.size ≤ 40
theorem SH.ts {t : T3} (h : SH t) : TS t := ⟨Nat.le_trans h.x (by decide), Nat.le_trans h.y (by decide), Nat.le_trans h.z (by decide)⟩
theorem SH.p {t : T3} (h : SH t) : TS2 ⟨t.x, t.y⟩ := ⟨h.ts.x, h.ts.y⟩
theorem verr_2a {a b : T3} (h : a.l.all rq = false) : verr [a, b] = 2 := by unfold verr; simp [h]
theorem verr_2b {a b : T3} (h : b.l.all rq = false) : verr [a, b] = 2 := by unfold verr; simp [h]
theorem verr_1 {a : T3} (h : a.l.all rq = false) : verr [a] = 2 := by unfold verr; simp [h]
theorem verr_10 {a : T3} (h : a.l.all rq = true) : verr [a] = 0 := by unfold verr; simp [h]
theorem terr_4a {a : T3} {k : ByteArray} (h : a.l.all rq = false) : terr [a.x, a.y, a.z, k] = 2 := terr_2 (by simp only [T3.l, List.all_cons, List.all_nil, Bool.and_true] at h ⊢; cases h1 : rq a.x <;> cases h2 : rq a.y <;> cases h3 : rq a.z <;> simp_all)
theorem terr_4k {x y z k : ByteArray} (h : rq k = false) : terr [x, y, z, k] = 2 := terr_2 (by simp [h])
theorem terr_1k {k : ByteArray} (h : rq k = false) : terr [k] = 2 := terr_2 (by simp [h])
theorem ferr_2 (x : Int) : ferr [2, x] = 2 := by simp [ferr]
set_option maxRecDepth 100000 in
set_option maxHeartbeats 16000000 in
theorem errors_W1 (a : T3) (b : T3) (k : ByteArray) (w : World) (g : Gd w) (hah : SH a) (hbh : SH b) (hk : k.size ≤ 40) (haw : a.l.all rq = false) : Calls Tryz.prog 10 #[.agg #[.string a.x, .string a.y, .string a.z], .agg #[.string b.x, .string b.y, .string b.z], .string k] w (Ret w (.bool true)) := by
  have HAH := Lib.hid hah
  have HBH := Lib.hid hbh
  have HAW := Lib.hid haw
  have HG := Lib.hid g
  clear hah hbh haw g
  have HKS : Hid (k.size ≤ 1000000) := Lib.hid (Nat.le_trans hk (by decide))
  have tk : decide ((40 : Int) < (k.size : Int)) = false := decide_eq_false (by omega)
  go_enter Tryz.func10, Tryz.ntmps10
  go_wp2_with fail
  refine (known_c _ (HG.out.ext (((Ext.refl w).alloc _).alloc _))).mono ?_; rintro e w1 ⟨rfl, e1⟩
  have HX1 : Hid (Ext w w1) := Lib.hid ((((Ext.refl w).alloc _).alloc _).trans e1)
  have HB0_1 : Hid (Blk w1 (w.heap.size) #[.string a.x, .string a.y, .string a.z] 30) := Lib.hid (Blk.ext ((Blk.new' (w := _) (cs := #[.string a.x, .string a.y, .string a.z]) (t := 30) (by first | rfl | (simp only [World.size_alloc]; done) | (simp only [World.size_alloc]; omega) | simp)).alloc _) e1)
  have HB1_1 : Hid (Blk w1 (w.heap.size + 1) #[.string b.x, .string b.y, .string b.z] 30) := Lib.hid (Blk.ext (Blk.new' (w := _) (cs := #[.string b.x, .string b.y, .string b.z]) (t := 30) (by first | rfl | (simp only [World.size_alloc]; done) | (simp only [World.size_alloc]; omega) | simp)) e1)
  have HGEB0 : Hid (w.heap.size ≤ w.heap.size) := Lib.hid (by first | omega | (simp only []; omega) | (simp; omega))
  have HGEB1 : Hid (w.heap.size ≤ w.heap.size + 1) := Lib.hid (by first | omega | (simp only []; omega) | (simp; omega))
  clear e1
  have c0_0 := HB0_1.out.cell 0 rfl
  have c0_1 := HB0_1.out.cell 1 rfl
  have c0_2 := HB0_1.out.cell 2 rfl
  go_wp2_with fail
  refine (short_3 a _ HAH.out.x HAH.out.y HAH.out.z).mono ?_; rintro e w2 ⟨rfl, e2⟩
  have HX2 : Hid (Ext w w2) := Lib.hid (HX1.out.trans e2)
  have HB0_2 := Lib.hid (Blk.ext HB0_1.out e2)
  have HB1_2 := Lib.hid (Blk.ext HB1_1.out e2)
  clear e2 c0_0 c0_1 c0_2
  have c1_0 := HB1_2.out.cell 0 rfl
  have c1_1 := HB1_2.out.cell 1 rfl
  have c1_2 := HB1_2.out.cell 2 rfl
  go_wp2_with fail
  refine (short_3 b _ HBH.out.x HBH.out.y HBH.out.z).mono ?_; rintro e w3 ⟨rfl, e3⟩
  have HX3 : Hid (Ext w w3) := Lib.hid (HX2.out.trans e3)
  have HB0_3 := Lib.hid (Blk.ext HB0_2.out e3)
  have HB1_3 := Lib.hid (Blk.ext HB1_2.out e3)
  clear e3 c1_0 c1_1 c1_2
  have c0_0 := HB0_3.out.cell 0 rfl
  have c0_1 := HB0_3.out.cell 1 rfl
  have c0_2 := HB0_3.out.cell 2 rfl
  go_upto_region 4 with fail
  refine wp_name (fun W => Ext w W ∧ Blk W (w.heap.size) #[.string a.x, .string a.y, .string a.z] 30 ∧ Blk W (w.heap.size + 1) #[.string b.x, .string b.y, .string b.z] 30 ∧ Blk W (w3.heap.size) #[.string a.x, .string a.y, .string a.z, .string k] 48) ⟨(HX3.out.alloc _), (HB0_3.out.alloc _), (HB1_3.out.alloc _), (Blk.new' (w := _) (cs := #[.string a.x, .string a.y, .string a.z, .string k]) (t := 48) (by first | rfl | (simp only [World.size_alloc]; done) | (simp only [World.size_alloc]; omega) | simp))⟩ ?_
  rintro w4 ⟨e4, bB0_4, bB1_4, bB2_4⟩
  have HX4 := Lib.hid e4; have HB0_4 := Lib.hid bB0_4; have HB1_4 := Lib.hid bB1_4; have HB2_4 := Lib.hid bB2_4
  have HGEB2 : Hid (w.heap.size ≤ w3.heap.size) := Lib.hid (by have := HX3.out.size; first | omega | (simp only []; omega) | (simp; omega))
  clear e4 bB0_4 bB1_4 bB2_4 c0_0 c0_1 c0_2
  have c0_0 := HB0_4.out.cell 0 rfl
  have c0_1 := HB0_4.out.cell 1 rfl
  go_wp2_with fail
  refine wp_name (fun W => Ext w W ∧ Blk W (w.heap.size) #[.string a.x, .string a.y, .string a.z] 30 ∧ Blk W (w.heap.size + 1) #[.string b.x, .string b.y, .string b.z] 30 ∧ Blk W (w3.heap.size) #[.string a.x, .string a.y, .string a.z, .string k] 48 ∧ Blk W (w4.heap.size) #[.string a.x, .string a.y] 62) ⟨(HX4.out.alloc _), (HB0_4.out.alloc _), (HB1_4.out.alloc _), (HB2_4.out.alloc _), (Blk.new' (w := _) (cs := #[.string a.x, .string a.y]) (t := 62) (by first | rfl | (simp only [World.size_alloc]; done) | (simp only [World.size_alloc]; omega) | simp))⟩ ?_
  rintro w5 ⟨e5, bB0_5, bB1_5, bB2_5, bB3_5⟩
  have HX5 := Lib.hid e5; have HB0_5 := Lib.hid bB0_5; have HB1_5 := Lib.hid bB1_5; have HB2_5 := Lib.hid bB2_5; have HB3_5 := Lib.hid bB3_5
  have HGEB3 : Hid (w.heap.size ≤ w4.heap.size) := Lib.hid (by have := HX4.out.size; first | omega | (simp only []; omega) | (simp; omega))
  clear e5 bB0_5 bB1_5 bB2_5 bB3_5 c0_0 c0_1
  refine region_lin [.val (.agg #[.string a.x, .string a.y, .string a.z]), .val (.int .i64 2), .val (.agg #[.string a.x, .string a.y, .string a.z]), .val (.int .i64 2), .val (.bool false), .val (.bool false), .val (.agg #[.string a.x, .string a.y]), .val (.int .i64 (terr (T2.l ⟨a.x, a.y⟩))), .val (.agg #[.string a.x, .string a.y]), .val (.int .i64 (terr (T2.l ⟨a.x, a.y⟩))), .val (.bool false), .val (.bool false), .val (.bool false), .val (.agg #[.string a.x, .string a.y, .string a.z, .string k]), .val (.int .i64 2), .val (.agg #[.string a.x, .string a.y, .string a.z, .string k]), .val (.int .i64 2), .val (.bool false), .val (.bool false)] (by kernel_rfl) (by kernel_rfl) (by kernel_rfl) ?_ (fun g5 w6 hx_ hm_ hne_ => ?_)
  · skip
    refine RnL.cons (fun g5 A_ W_ hs_ => ?_) ?_
    · have q3_ := (hs_.old 3 (by kernel_rfl) : A_.tmps[3]?.getD undef = .pointer (some ⟨w.heap.size, 0, none⟩))
      have cB0_0 := (HB0_5.out.drew.ext hs_.1).cell 0 rfl
      have cB0_1 := (HB0_5.out.drew.ext hs_.1).cell 1 rfl
      have cB0_2 := (HB0_5.out.drew.ext hs_.1).cell 2 rfl
      refine Rn.val fun K_ hK_ => ?_
      go_simp
      exact hK_.out _ (Ext.refl _)
    refine RnL.cons (fun g5 A_ W_ hs_ => ?_) ?_
    · have q50_ := hs_.val 0 rfl rfl rfl
      refine Rn.val fun K_ hK_ => ?_
      go_simp
      refine ((terr_2 HAW.out ▸ vcheck_c a _ (HG.out.ext (HX5.out.drew.trans hs_.1)) HAH.out.ts)).mono ?_; rintro e W9_ ⟨rfl, e9_⟩; exact hK_.out _ e9_
    refine RnL.cons (fun g5 A_ W_ hs_ => ?_) ?_
    · have q3_ := (hs_.old 3 (by kernel_rfl) : A_.tmps[3]?.getD undef = .pointer (some ⟨w.heap.size, 0, none⟩))
      have cB0_0 := (HB0_5.out.drew.ext hs_.1).cell 0 rfl
      have cB0_1 := (HB0_5.out.drew.ext hs_.1).cell 1 rfl
      have cB0_2 := (HB0_5.out.drew.ext hs_.1).cell 2 rfl
      refine Rn.val fun K_ hK_ => ?_
      go_simp
      exact hK_.out _ (Ext.refl _)
    refine RnL.cons (fun g5 A_ W_ hs_ => ?_) ?_
    · have q52_ := hs_.val 2 rfl rfl rfl
      refine Rn.val fun K_ hK_ => ?_
      go_simp
      refine (of_2 a _ (HG.out.ext (HX5.out.drew.trans hs_.1)) HAH.out.ts HAW.out).mono ?_; rintro e W9_ ⟨rfl, e9_⟩; exact hK_.out _ e9_
    refine RnL.cons (fun g5 A_ W_ hs_ => ?_) ?_
    · have q51_ := hs_.val 1 rfl rfl rfl
      have q53_ := hs_.val 3 rfl rfl rfl
      refine Rn.val fun K_ hK_ => ?_
      go_simp
      exact hK_.out _ (Ext.refl _)
    refine RnL.cons (fun g5 A_ W_ hs_ => ?_) ?_
    · have q54_ := hs_.val 4 rfl rfl rfl
      refine Rn.val fun K_ hK_ => ?_
      go_simp
      exact hK_.out _ (Ext.refl _)
    refine RnL.cons (fun g5 A_ W_ hs_ => ?_) ?_
    · have q8_ := (hs_.old 8 (by kernel_rfl) : A_.tmps[8]?.getD undef = .pointer (some ⟨w4.heap.size, 0, none⟩))
      have cB3_0 := (HB3_5.out.drew.ext hs_.1).cell 0 rfl
      have cB3_1 := (HB3_5.out.drew.ext hs_.1).cell 1 rfl
      refine Rn.val fun K_ hK_ => ?_
      go_simp
      exact hK_.out _ (Ext.refl _)
    refine RnL.cons (fun g5 A_ W_ hs_ => ?_) ?_
    · have q56_ := hs_.val 6 rfl rfl rfl
      refine Rn.val fun K_ hK_ => ?_
      go_simp
      refine (vcheckp_c ⟨a.x, a.y⟩ _ (HG.out.ext (HX5.out.drew.trans hs_.1)) HAH.out.p).mono ?_; rintro e W9_ ⟨rfl, e9_⟩; exact hK_.out _ e9_
    refine RnL.cons (fun g5 A_ W_ hs_ => ?_) ?_
    · have q8_ := (hs_.old 8 (by kernel_rfl) : A_.tmps[8]?.getD undef = .pointer (some ⟨w4.heap.size, 0, none⟩))
      have cB3_0 := (HB3_5.out.drew.ext hs_.1).cell 0 rfl
      have cB3_1 := (HB3_5.out.drew.ext hs_.1).cell 1 rfl
      refine Rn.val fun K_ hK_ => ?_
      go_simp
      exact hK_.out _ (Ext.refl _)
    refine RnL.cons (fun g5 A_ W_ hs_ => ?_) ?_
    · have q58_ := hs_.val 8 rfl rfl rfl
      refine Rn.val fun K_ hK_ => ?_
      go_simp
      refine (ofpe_c ⟨a.x, a.y⟩ _ (HG.out.ext (HX5.out.drew.trans hs_.1)) HAH.out.p).mono ?_; rintro e W9_ ⟨rfl, e9_⟩; exact hK_.out _ e9_
    refine RnL.cons (fun g5 A_ W_ hs_ => ?_) ?_
    · have q57_ := hs_.val 7 rfl rfl rfl
      have q59_ := hs_.val 9 rfl rfl rfl
      refine Rn.val fun K_ hK_ => ?_
      go_simp
      exact hK_.out _ (Ext.refl _)
    refine RnL.cons (fun g5 A_ W_ hs_ => ?_) ?_
    · have q55_ := hs_.val 5 rfl rfl rfl
      have q60_ := hs_.val 10 rfl rfl rfl
      refine Rn.val fun K_ hK_ => ?_
      go_simp
      exact hK_.out _ (Ext.refl _)
    refine RnL.cons (fun g5 A_ W_ hs_ => ?_) ?_
    · have q61_ := hs_.val 11 rfl rfl rfl
      refine Rn.val fun K_ hK_ => ?_
      go_simp
      exact hK_.out _ (Ext.refl _)
    refine RnL.cons (fun g5 A_ W_ hs_ => ?_) ?_
    · have q7_ := (hs_.old 7 (by kernel_rfl) : A_.tmps[7]?.getD undef = .pointer (some ⟨w3.heap.size, 0, none⟩))
      have cB2_0 := (HB2_5.out.drew.ext hs_.1).cell 0 rfl
      have cB2_1 := (HB2_5.out.drew.ext hs_.1).cell 1 rfl
      have cB2_2 := (HB2_5.out.drew.ext hs_.1).cell 2 rfl
      have cB2_3 := (HB2_5.out.drew.ext hs_.1).cell 3 rfl
      refine Rn.val fun K_ hK_ => ?_
      go_simp
      exact hK_.out _ (Ext.refl _)
    refine RnL.cons (fun g5 A_ W_ hs_ => ?_) ?_
    · have q63_ := hs_.val 13 rfl rfl rfl
      refine Rn.val fun K_ hK_ => ?_
      go_simp
      refine (vPlane_err a (k) _ (HG.out.ext (HX5.out.drew.trans hs_.1)) HAH.out.ts HKS.out (terr_4a HAW.out)).mono ?_; rintro e W9_ ⟨rfl, e9_⟩; exact hK_.out _ e9_
    refine RnL.cons (fun g5 A_ W_ hs_ => ?_) ?_
    · have q7_ := (hs_.old 7 (by kernel_rfl) : A_.tmps[7]?.getD undef = .pointer (some ⟨w3.heap.size, 0, none⟩))
      have cB2_0 := (HB2_5.out.drew.ext hs_.1).cell 0 rfl
      have cB2_1 := (HB2_5.out.drew.ext hs_.1).cell 1 rfl
      have cB2_2 := (HB2_5.out.drew.ext hs_.1).cell 2 rfl
      have cB2_3 := (HB2_5.out.drew.ext hs_.1).cell 3 rfl
      refine Rn.val fun K_ hK_ => ?_
      go_simp
      exact hK_.out _ (Ext.refl _)
    refine RnL.cons (fun g5 A_ W_ hs_ => ?_) ?_
    · have q65_ := hs_.val 15 rfl rfl rfl
      refine Rn.val fun K_ hK_ => ?_
      go_simp
      refine (scp_e0 a (k) _ (HG.out.ext (HX5.out.drew.trans hs_.1)) HAH.out.ts HAW.out).mono ?_; rintro e W9_ ⟨rfl, e9_⟩; exact hK_.out _ e9_
    refine RnL.cons (fun g5 A_ W_ hs_ => ?_) ?_
    · have q64_ := hs_.val 14 rfl rfl rfl
      have q66_ := hs_.val 16 rfl rfl rfl
      refine Rn.val fun K_ hK_ => ?_
      go_simp
      exact hK_.out _ (Ext.refl _)
    refine RnL.cons (fun g5 A_ W_ hs_ => ?_) ?_
    · have q62_ := hs_.val 12 rfl rfl rfl
      have q67_ := hs_.val 17 rfl rfl rfl
      refine Rn.val fun K_ hK_ => ?_
      go_simp
      exact hK_.out _ (Ext.refl _)
    exact RnL.nil
  simp only [fs, Kd.value, puts, Act.put, List.setIfInBounds_toArray, List.set_cons_zero, List.set_cons_succ]
  have HX6 : Hid (Ext w w6) := Lib.hid (HX5.out.drew.trans hx_)
  have HB0_6 := Lib.hid (HB0_5.out.drew.ext hx_)
  have HB1_6 := Lib.hid (HB1_5.out.drew.ext hx_)
  have HB2_6 := Lib.hid (HB2_5.out.drew.ext hx_)
  clear hx_ hm_ hne_
  go_wp2_with fail
  refine wp_name (fun W => Ext w W ∧ Blk W (w.heap.size) #[.string a.x, .string a.y, .string a.z] 30 ∧ Blk W (w.heap.size + 1) #[.string b.x, .string b.y, .string b.z] 30 ∧ Blk W (w3.heap.size) #[.string a.x, .string a.y, .string a.z, .string k] 48) ⟨HX6.out, HB0_6.out, HB1_6.out, HB2_6.out⟩ ?_
  rintro w7 ⟨e7, bB0_7, bB1_7, bB2_7⟩
  have HX7 := Lib.hid e7; have HB0_7 := Lib.hid bB0_7; have HB1_7 := Lib.hid bB1_7; have HB2_7 := Lib.hid bB2_7
  clear e7 bB0_7 bB1_7 bB2_7
  refine region_lin [.val (.agg #[.string a.x, .string a.y, .string a.z]), .val (.int .i64 2), .val (.agg #[.string b.x, .string b.y, .string b.z]), .val (.int .i64 (terr b.l)), .mem (fun b_ => .slice (some ⟨b_, 0, none⟩) 2 2) #[.int .i64 2, .int .i64 (terr b.l)] 32 Option.none, .val (.int .i64 2), .val (.int .i64 2)] (by kernel_rfl) (by kernel_rfl) (by kernel_rfl) ?_ (fun g7 w8 hx_ hm_ hne_ => ?_)
  · skip
    refine RnL.cons (fun g7 A_ W_ hs_ => ?_) ?_
    · have q3_ := (hs_.old 3 (by kernel_rfl) : A_.tmps[3]?.getD undef = .pointer (some ⟨w.heap.size, 0, none⟩))
      have cB0_0 := (HB0_7.out.drew.ext hs_.1).cell 0 rfl
      have cB0_1 := (HB0_7.out.drew.ext hs_.1).cell 1 rfl
      have cB0_2 := (HB0_7.out.drew.ext hs_.1).cell 2 rfl
      refine Rn.val fun K_ hK_ => ?_
      go_simp
      exact hK_.out _ (Ext.refl _)
    refine RnL.cons (fun g7 A_ W_ hs_ => ?_) ?_
    · have q69_ := hs_.val 0 rfl rfl rfl
      refine Rn.val fun K_ hK_ => ?_
      go_simp
      refine (of_2 a _ (HG.out.ext (HX7.out.drew.trans hs_.1)) HAH.out.ts HAW.out).mono ?_; rintro e W9_ ⟨rfl, e9_⟩; exact hK_.out _ e9_
    refine RnL.cons (fun g7 A_ W_ hs_ => ?_) ?_
    · have q4_ := (hs_.old 4 (by kernel_rfl) : A_.tmps[4]?.getD undef = .pointer (some ⟨w.heap.size + 1, 0, none⟩))
      have cB1_0 := (HB1_7.out.drew.ext hs_.1).cell 0 rfl
      have cB1_1 := (HB1_7.out.drew.ext hs_.1).cell 1 rfl
      have cB1_2 := (HB1_7.out.drew.ext hs_.1).cell 2 rfl
      refine Rn.val fun K_ hK_ => ?_
      go_simp
      exact hK_.out _ (Ext.refl _)
    refine RnL.cons (fun g7 A_ W_ hs_ => ?_) ?_
    · have q71_ := hs_.val 2 rfl rfl rfl
      refine Rn.val fun K_ hK_ => ?_
      go_simp
      refine (ofe_c b _ (HG.out.ext (HX7.out.drew.trans hs_.1)) HBH.out.ts).mono ?_; rintro e W9_ ⟨rfl, e9_⟩; exact hK_.out _ e9_
    refine RnL.cons (fun g7 A_ W_ hs_ => ?_) ?_
    · have q70_ := hs_.val 1 rfl rfl rfl
      have q72_ := hs_.val 3 rfl rfl rfl
      refine Rn.mem fun K_ hK_ => ?_
      go_simp
      exact hK_.out
    refine RnL.cons (fun g7 A_ W_ hs_ => ?_) ?_
    · have q73_ := (hs_.mem 4 rfl rfl rfl).1
      refine Rn.val fun K_ hK_ => ?_
      go_simp
      refine ((ferr_2 (terr b.l) ▸ first2_c 2 (terr b.l) (g7 4) _ ((hs_.mem 4 rfl rfl rfl).2.2 rfl))).mono ?_; rintro e _ ⟨rfl, rfl⟩; exact hK_.out _ (Ext.refl _)
    refine RnL.cons (fun g7 A_ W_ hs_ => ?_) ?_
    · have q74_ := hs_.val 5 rfl rfl rfl
      refine Rn.val fun K_ hK_ => ?_
      go_simp
      exact hK_.out _ (Ext.refl _)
    exact RnL.nil
  simp only [fs, Kd.value, puts, Act.put, List.setIfInBounds_toArray, List.set_cons_zero, List.set_cons_succ, Nat.reduceAdd]
  have HX8 : Hid (Ext w w8) := Lib.hid (HX7.out.drew.trans hx_)
  have HB0_8 := Lib.hid (HB0_7.out.drew.ext hx_)
  have HB1_8 := Lib.hid (HB1_7.out.drew.ext hx_)
  have HB2_8 := Lib.hid (HB2_7.out.drew.ext hx_)
  have HB4_8 : Hid (Blk w8 (g7 4) #[.int .i64 2, .int .i64 (terr b.l)] 32) := Lib.hid (hm_ 4 _ _ _ _ rfl).2; have HGEB4 : Hid (w.heap.size ≤ g7 4) := Lib.hid (Nat.le_trans HX7.out.size (hm_ 4 _ _ _ _ rfl).1)
  have HNEB0B4 : Hid (w.heap.size ≠ g7 4) := Lib.hid (Nat.ne_of_lt (Nat.lt_of_lt_of_le HB0_7.out.lt (hm_ 4 _ _ _ _ rfl).1))
  have HNEB1B4 : Hid (w.heap.size + 1 ≠ g7 4) := Lib.hid (Nat.ne_of_lt (Nat.lt_of_lt_of_le HB1_7.out.lt (hm_ 4 _ _ _ _ rfl).1))
  have HNEB2B4 : Hid (w3.heap.size ≠ g7 4) := Lib.hid (Nat.ne_of_lt (Nat.lt_of_lt_of_le HB2_7.out.lt (hm_ 4 _ _ _ _ rfl).1))
  clear hx_ hm_ hne_
  generalize g7 4 = i4 at *
  clear g7
  have c0_0 := HB0_8.out.cell 0 rfl
  have c0_1 := HB0_8.out.cell 1 rfl
  have c0_2 := HB0_8.out.cell 2 rfl
  have c1_0 := HB1_8.out.cell 0 rfl
  have c1_1 := HB1_8.out.cell 1 rfl
  have c1_2 := HB1_8.out.cell 2 rfl
  go_wp2_with fail
  refine (vAdd_err a b _ (HG.out.ext HX8.out) HAH.out.ts HBH.out.ts (verr_2a HAW.out)).mono ?_; rintro e w9 ⟨rfl, e9⟩
  have HX9 : Hid (Ext w w9) := Lib.hid (HX8.out.trans e9)
  have HB0_9 := Lib.hid (Blk.ext HB0_8.out e9)
  have HB1_9 := Lib.hid (Blk.ext HB1_8.out e9)
  have HB2_9 := Lib.hid (Blk.ext HB2_8.out e9)
  clear e9 c0_0 c0_1 c0_2 c1_0 c1_1 c1_2
  go_upto_region 10 with fail
  refine wp_name (fun W => Ext w W ∧ Blk W (w.heap.size) #[.string a.x, .string a.y, .string a.z] 30 ∧ Blk W (w.heap.size + 1) #[.string b.x, .string b.y, .string b.z] 30 ∧ Blk W (w3.heap.size) #[.string a.x, .string a.y, .string a.z, .string k] 48 ∧ Blk W (w9.heap.size) #[.string ⟨#[]⟩, .string ⟨#[]⟩, .string ⟨#[]⟩] 30) ⟨(HX9.out.alloc _), (HB0_9.out.alloc _), (HB1_9.out.alloc _), (HB2_9.out.alloc _), (Blk.new' (w := _) (cs := #[.string ⟨#[]⟩, .string ⟨#[]⟩, .string ⟨#[]⟩]) (t := 30) (by first | rfl | (simp only [World.size_alloc]; done) | (simp only [World.size_alloc]; omega) | simp))⟩ ?_
  rintro w10 ⟨e10, bB0_10, bB1_10, bB2_10, bB5_10⟩
  have HX10 := Lib.hid e10; have HB0_10 := Lib.hid bB0_10; have HB1_10 := Lib.hid bB1_10; have HB2_10 := Lib.hid bB2_10; have HB5_10 := Lib.hid bB5_10
  have HGEB5 : Hid (w.heap.size ≤ w9.heap.size) := Lib.hid (by have := HX9.out.size; first | omega | (simp only []; omega) | (simp; omega))
  clear e10 bB0_10 bB1_10 bB2_10 bB5_10
  have c0_0 := HB0_10.out.cell 0 rfl
  have c0_1 := HB0_10.out.cell 1 rfl
  have c0_2 := HB0_10.out.cell 2 rfl
  have c1_0 := HB1_10.out.cell 0 rfl
  have c1_1 := HB1_10.out.cell 1 rfl
  have c1_2 := HB1_10.out.cell 2 rfl
  go_wp2_with fail
  refine (vSub_err a b _ (HG.out.ext HX10.out) HAH.out.ts HBH.out.ts (verr_2a HAW.out)).mono ?_; rintro e w11 ⟨rfl, e11⟩
  have HX11 : Hid (Ext w w11) := Lib.hid (HX10.out.trans e11)
  have HB0_11 := Lib.hid (Blk.ext HB0_10.out e11)
  have HB1_11 := Lib.hid (Blk.ext HB1_10.out e11)
  have HB2_11 := Lib.hid (Blk.ext HB2_10.out e11)
  have HB5_11 := Lib.hid (Blk.ext HB5_10.out e11)
  clear e11 c0_0 c0_1 c0_2 c1_0 c1_1 c1_2
  go_upto_region 11 with fail
  refine wp_name (fun W => Ext w W ∧ Blk W (w.heap.size) #[.string a.x, .string a.y, .string a.z] 30 ∧ Blk W (w.heap.size + 1) #[.string b.x, .string b.y, .string b.z] 30 ∧ Blk W (w3.heap.size) #[.string a.x, .string a.y, .string a.z, .string k] 48 ∧ Blk W (w9.heap.size) #[.string ⟨#[]⟩, .string ⟨#[]⟩, .string ⟨#[]⟩] 30 ∧ Blk W (w11.heap.size) #[.string ⟨#[]⟩, .string ⟨#[]⟩, .string ⟨#[]⟩] 30) ⟨(HX11.out.alloc _), (HB0_11.out.alloc _), (HB1_11.out.alloc _), (HB2_11.out.alloc _), (HB5_11.out.alloc _), (Blk.new' (w := _) (cs := #[.string ⟨#[]⟩, .string ⟨#[]⟩, .string ⟨#[]⟩]) (t := 30) (by first | rfl | (simp only [World.size_alloc]; done) | (simp only [World.size_alloc]; omega) | simp))⟩ ?_
  rintro w12 ⟨e12, bB0_12, bB1_12, bB2_12, bB5_12, bB6_12⟩
  have HX12 := Lib.hid e12; have HB0_12 := Lib.hid bB0_12; have HB1_12 := Lib.hid bB1_12; have HB2_12 := Lib.hid bB2_12; have HB5_12 := Lib.hid bB5_12; have HB6_12 := Lib.hid bB6_12
  have HGEB6 : Hid (w.heap.size ≤ w11.heap.size) := Lib.hid (by have := HX11.out.size; first | omega | (simp only []; omega) | (simp; omega))
  clear e12 bB0_12 bB1_12 bB2_12 bB5_12 bB6_12
  have c0_0 := HB0_12.out.cell 0 rfl
  have c0_1 := HB0_12.out.cell 1 rfl
  have c0_2 := HB0_12.out.cell 2 rfl
  have c1_0 := HB1_12.out.cell 0 rfl
  have c1_1 := HB1_12.out.cell 1 rfl
  have c1_2 := HB1_12.out.cell 2 rfl
  go_wp2_with fail
  refine (vDot_err a b _ (HG.out.ext HX12.out) HAH.out.ts HBH.out.ts (verr_2a HAW.out)).mono ?_; rintro e w13 ⟨rfl, e13⟩
  have HX13 : Hid (Ext w w13) := Lib.hid (HX12.out.trans e13)
  have HB0_13 := Lib.hid (Blk.ext HB0_12.out e13)
  have HB1_13 := Lib.hid (Blk.ext HB1_12.out e13)
  have HB2_13 := Lib.hid (Blk.ext HB2_12.out e13)
  have HB5_13 := Lib.hid (Blk.ext HB5_12.out e13)
  have HB6_13 := Lib.hid (Blk.ext HB6_12.out e13)
  clear e13 c0_0 c0_1 c0_2 c1_0 c1_1 c1_2
  have c0_0 := HB0_13.out.cell 0 rfl
  have c0_1 := HB0_13.out.cell 1 rfl
  have c0_2 := HB0_13.out.cell 2 rfl
  have c1_0 := HB1_13.out.cell 0 rfl
  have c1_1 := HB1_13.out.cell 1 rfl
  have c1_2 := HB1_13.out.cell 2 rfl
  go_wp2_with fail
  refine (vCross_err a b _ (HG.out.ext HX13.out) HAH.out.ts HBH.out.ts (verr_2a HAW.out)).mono ?_; rintro e w14 ⟨rfl, e14⟩
  have HX14 : Hid (Ext w w14) := Lib.hid (HX13.out.trans e14)
  have HB0_14 := Lib.hid (Blk.ext HB0_13.out e14)
  have HB1_14 := Lib.hid (Blk.ext HB1_13.out e14)
  have HB2_14 := Lib.hid (Blk.ext HB2_13.out e14)
  have HB5_14 := Lib.hid (Blk.ext HB5_13.out e14)
  have HB6_14 := Lib.hid (Blk.ext HB6_13.out e14)
  clear e14 c0_0 c0_1 c0_2 c1_0 c1_1 c1_2
  go_upto_region 13 with fail
  refine wp_name (fun W => Ext w W ∧ Blk W (w.heap.size) #[.string a.x, .string a.y, .string a.z] 30 ∧ Blk W (w.heap.size + 1) #[.string b.x, .string b.y, .string b.z] 30 ∧ Blk W (w3.heap.size) #[.string a.x, .string a.y, .string a.z, .string k] 48 ∧ Blk W (w9.heap.size) #[.string ⟨#[]⟩, .string ⟨#[]⟩, .string ⟨#[]⟩] 30 ∧ Blk W (w11.heap.size) #[.string ⟨#[]⟩, .string ⟨#[]⟩, .string ⟨#[]⟩] 30 ∧ Blk W (w14.heap.size) #[.string ⟨#[]⟩, .string ⟨#[]⟩, .string ⟨#[]⟩] 30) ⟨(HX14.out.alloc _), (HB0_14.out.alloc _), (HB1_14.out.alloc _), (HB2_14.out.alloc _), (HB5_14.out.alloc _), (HB6_14.out.alloc _), (Blk.new' (w := _) (cs := #[.string ⟨#[]⟩, .string ⟨#[]⟩, .string ⟨#[]⟩]) (t := 30) (by first | rfl | (simp only [World.size_alloc]; done) | (simp only [World.size_alloc]; omega) | simp))⟩ ?_
  rintro w15 ⟨e15, bB0_15, bB1_15, bB2_15, bB5_15, bB6_15, bB7_15⟩
  have HX15 := Lib.hid e15; have HB0_15 := Lib.hid bB0_15; have HB1_15 := Lib.hid bB1_15; have HB2_15 := Lib.hid bB2_15; have HB5_15 := Lib.hid bB5_15; have HB6_15 := Lib.hid bB6_15; have HB7_15 := Lib.hid bB7_15
  have HGEB7 : Hid (w.heap.size ≤ w14.heap.size) := Lib.hid (by have := HX14.out.size; first | omega | (simp only []; omega) | (simp; omega))
  clear e15 bB0_15 bB1_15 bB2_15 bB5_15 bB6_15 bB7_15
  have c0_0 := HB0_15.out.cell 0 rfl
  have c0_1 := HB0_15.out.cell 1 rfl
  have c0_2 := HB0_15.out.cell 2 rfl
  have c1_0 := HB1_15.out.cell 0 rfl
  have c1_1 := HB1_15.out.cell 1 rfl
  have c1_2 := HB1_15.out.cell 2 rfl
  go_wp2_with fail
  refine (vParallel_err a b _ (HG.out.ext HX15.out) HAH.out.ts HBH.out.ts (verr_2a HAW.out)).mono ?_; rintro e w16 ⟨rfl, e16⟩
  have HX16 : Hid (Ext w w16) := Lib.hid (HX15.out.trans e16)
  have HB0_16 := Lib.hid (Blk.ext HB0_15.out e16)
  have HB1_16 := Lib.hid (Blk.ext HB1_15.out e16)
  have HB2_16 := Lib.hid (Blk.ext HB2_15.out e16)
  have HB5_16 := Lib.hid (Blk.ext HB5_15.out e16)
  have HB6_16 := Lib.hid (Blk.ext HB6_15.out e16)
  have HB7_16 := Lib.hid (Blk.ext HB7_15.out e16)
  clear e16 c0_0 c0_1 c0_2 c1_0 c1_1 c1_2
  have c5_0 := HB5_16.out.cell 0 rfl
  have c5_1 := HB5_16.out.cell 1 rfl
  have c5_2 := HB5_16.out.cell 2 rfl
  have c6_0 := HB6_16.out.cell 0 rfl
  have c6_1 := HB6_16.out.cell 1 rfl
  have c6_2 := HB6_16.out.cell 2 rfl
  have c7_0 := HB7_16.out.cell 0 rfl
  have c7_1 := HB7_16.out.cell 1 rfl
  have c7_2 := HB7_16.out.cell 2 rfl
  go_wp2_with fail
  refine wp_name (fun W => Ext w W ∧ Blk W (w.heap.size) #[.string a.x, .string a.y, .string a.z] 30 ∧ Blk W (w.heap.size + 1) #[.string b.x, .string b.y, .string b.z] 30 ∧ Blk W (w3.heap.size) #[.string a.x, .string a.y, .string a.z, .string k] 48) ⟨HX16.out, HB0_16.out, HB1_16.out, HB2_16.out⟩ ?_
  rintro w17 ⟨e17, bB0_17, bB1_17, bB2_17⟩
  have HX17 := Lib.hid e17; have HB0_17 := Lib.hid bB0_17; have HB1_17 := Lib.hid bB1_17; have HB2_17 := Lib.hid bB2_17
  clear e17 bB0_17 bB1_17 bB2_17 c5_0 c5_1 c5_2 c6_0 c6_1 c6_2 c7_0 c7_1 c7_2
  refine region_lin [.val (.agg #[.string a.x, .string a.y, .string a.z, .string k]), .val (.int .i64 2), .val (.agg #[.string b.x, .string b.y, .string b.z]), .val (.int .i64 (terr b.l)), .mem (fun b_ => .slice (some ⟨b_, 0, none⟩) 2 2) #[.int .i64 2, .int .i64 (terr b.l)] 32 Option.none, .val (.int .i64 2), .val (.int .i64 2)] (by kernel_rfl) (by kernel_rfl) (by kernel_rfl) ?_ (fun g17 w18 hx_ hm_ hne_ => ?_)
  · skip
    refine RnL.cons (fun g17 A_ W_ hs_ => ?_) ?_
    · have q7_ := (hs_.old 7 (by kernel_rfl) : A_.tmps[7]?.getD undef = .pointer (some ⟨w3.heap.size, 0, none⟩))
      have cB2_0 := (HB2_17.out.drew.ext hs_.1).cell 0 rfl
      have cB2_1 := (HB2_17.out.drew.ext hs_.1).cell 1 rfl
      have cB2_2 := (HB2_17.out.drew.ext hs_.1).cell 2 rfl
      have cB2_3 := (HB2_17.out.drew.ext hs_.1).cell 3 rfl
      refine Rn.val fun K_ hK_ => ?_
      go_simp
      exact hK_.out _ (Ext.refl _)
    refine RnL.cons (fun g17 A_ W_ hs_ => ?_) ?_
    · have q152_ := hs_.val 0 rfl rfl rfl
      refine Rn.val fun K_ hK_ => ?_
      go_simp
      refine (scp_e0 a (k) _ (HG.out.ext (HX17.out.drew.trans hs_.1)) HAH.out.ts HAW.out).mono ?_; rintro e W9_ ⟨rfl, e9_⟩; exact hK_.out _ e9_
    refine RnL.cons (fun g17 A_ W_ hs_ => ?_) ?_
    · have q4_ := (hs_.old 4 (by kernel_rfl) : A_.tmps[4]?.getD undef = .pointer (some ⟨w.heap.size + 1, 0, none⟩))
      have cB1_0 := (HB1_17.out.drew.ext hs_.1).cell 0 rfl
      have cB1_1 := (HB1_17.out.drew.ext hs_.1).cell 1 rfl
      have cB1_2 := (HB1_17.out.drew.ext hs_.1).cell 2 rfl
      refine Rn.val fun K_ hK_ => ?_
      go_simp
      exact hK_.out _ (Ext.refl _)
    refine RnL.cons (fun g17 A_ W_ hs_ => ?_) ?_
    · have q154_ := hs_.val 2 rfl rfl rfl
      refine Rn.val fun K_ hK_ => ?_
      go_simp
      refine (ofe_c b _ (HG.out.ext (HX17.out.drew.trans hs_.1)) HBH.out.ts).mono ?_; rintro e W9_ ⟨rfl, e9_⟩; exact hK_.out _ e9_
    refine RnL.cons (fun g17 A_ W_ hs_ => ?_) ?_
    · have q153_ := hs_.val 1 rfl rfl rfl
      have q155_ := hs_.val 3 rfl rfl rfl
      refine Rn.mem fun K_ hK_ => ?_
      go_simp
      exact hK_.out
    refine RnL.cons (fun g17 A_ W_ hs_ => ?_) ?_
    · have q156_ := (hs_.mem 4 rfl rfl rfl).1
      refine Rn.val fun K_ hK_ => ?_
      go_simp
      refine ((ferr_2 (terr b.l) ▸ first2_c 2 (terr b.l) (g17 4) _ ((hs_.mem 4 rfl rfl rfl).2.2 rfl))).mono ?_; rintro e _ ⟨rfl, rfl⟩; exact hK_.out _ (Ext.refl _)
    refine RnL.cons (fun g17 A_ W_ hs_ => ?_) ?_
    · have q157_ := hs_.val 5 rfl rfl rfl
      refine Rn.val fun K_ hK_ => ?_
      go_simp
      exact hK_.out _ (Ext.refl _)
    exact RnL.nil
  simp only [fs, Kd.value, puts, Act.put, List.setIfInBounds_toArray, List.set_cons_zero, List.set_cons_succ, Nat.reduceAdd]
  have HX18 : Hid (Ext w w18) := Lib.hid (HX17.out.drew.trans hx_)
  have HB0_18 := Lib.hid (HB0_17.out.drew.ext hx_)
  have HB1_18 := Lib.hid (HB1_17.out.drew.ext hx_)
  have HB2_18 := Lib.hid (HB2_17.out.drew.ext hx_)
  have HB8_18 : Hid (Blk w18 (g17 4) #[.int .i64 2, .int .i64 (terr b.l)] 32) := Lib.hid (hm_ 4 _ _ _ _ rfl).2; have HGEB8 : Hid (w.heap.size ≤ g17 4) := Lib.hid (Nat.le_trans HX17.out.size (hm_ 4 _ _ _ _ rfl).1)
  have HNEB0B8 : Hid (w.heap.size ≠ g17 4) := Lib.hid (Nat.ne_of_lt (Nat.lt_of_lt_of_le HB0_17.out.lt (hm_ 4 _ _ _ _ rfl).1))
  have HNEB1B8 : Hid (w.heap.size + 1 ≠ g17 4) := Lib.hid (Nat.ne_of_lt (Nat.lt_of_lt_of_le HB1_17.out.lt (hm_ 4 _ _ _ _ rfl).1))
  have HNEB2B8 : Hid (w3.heap.size ≠ g17 4) := Lib.hid (Nat.ne_of_lt (Nat.lt_of_lt_of_le HB2_17.out.lt (hm_ 4 _ _ _ _ rfl).1))
  clear hx_ hm_ hne_
  generalize g17 4 = i8 at *
  clear g17
  have c2_0 := HB2_18.out.cell 0 rfl
  have c2_1 := HB2_18.out.cell 1 rfl
  have c2_2 := HB2_18.out.cell 2 rfl
  have c2_3 := HB2_18.out.cell 3 rfl
  have c1_0 := HB1_18.out.cell 0 rfl
  have c1_1 := HB1_18.out.cell 1 rfl
  have c1_2 := HB1_18.out.cell 2 rfl
  go_wp2_with fail
  refine (vSide_err a (k) _ (HG.out.ext HX18.out) HAH.out.ts HKS.out b (terr_4a HAW.out)).mono ?_; rintro e w19 ⟨rfl, e19⟩
  have HX19 : Hid (Ext w w19) := Lib.hid (HX18.out.trans e19)
  have HB0_19 := Lib.hid (Blk.ext HB0_18.out e19)
  clear e19 c2_0 c2_1 c2_2 c2_3 c1_0 c1_1 c1_2
  have c0_0 := HB0_19.out.cell 0 rfl
  have c0_1 := HB0_19.out.cell 1 rfl
  have c0_2 := HB0_19.out.cell 2 rfl
  go_wp2_with fail
  refine (of_2 a _ (HG.out.ext HX19.out) HAH.out.ts HAW.out).mono ?_; rintro e w20 ⟨rfl, e20⟩
  have HX20 : Hid (Ext w w20) := Lib.hid (HX19.out.trans e20)
  have HB0_20 := Lib.hid (Blk.ext HB0_19.out e20)
  clear e20 c0_0 c0_1 c0_2
  have c0_0 := HB0_20.out.cell 0 rfl
  have c0_1 := HB0_20.out.cell 1 rfl
  have c0_2 := HB0_20.out.cell 2 rfl
  go_wp2_with fail
  refine (vScale_err a (k) _ (HG.out.ext HX20.out) HAH.out.ts (verr_1 HAW.out)).mono ?_; rintro e w21 ⟨rfl, e21⟩
  have HX21 : Hid (Ext w w21) := Lib.hid (HX20.out.trans e21)
  clear e21 c0_0 c0_1 c0_2
  go_wp2
  go_ret
  exact ⟨rfl, (HX21.out.alloc _)⟩

set_option maxRecDepth 100000 in
set_option maxHeartbeats 16000000 in
theorem errors_W2 (a : V3) (b : T3) (k : ByteArray) (w : World) (g : Gd w) (hah : SH ⟨qs a.x, qs a.y, qs a.z⟩) (hbh : SH b) (hk : k.size ≤ 40) (ha : VB 200 a) (hbw : b.l.all rq = false) (hkw : rq k = false) : Calls Tryz.prog 10 #[.agg #[.string (qs a.x), .string (qs a.y), .string (qs a.z)], .agg #[.string b.x, .string b.y, .string b.z], .string k] w (Ret w (.bool true)) := by
  have HAH := Lib.hid hah
  have HBH := Lib.hid hbh
  have HA := Lib.hid ha
  have HBW := Lib.hid hbw
  have HKW := Lib.hid hkw
  have HG := Lib.hid g
  clear hah hbh ha hbw hkw g
  have HKS : Hid (k.size ≤ 1000000) := Lib.hid (Nat.le_trans hk (by decide))
  have tk : decide ((40 : Int) < (k.size : Int)) = false := decide_eq_false (by omega)
  go_enter Tryz.func10, Tryz.ntmps10
  go_wp2_with fail
  refine (known_c _ (HG.out.ext (((Ext.refl w).alloc _).alloc _))).mono ?_; rintro e w1 ⟨rfl, e1⟩
  have HX1 : Hid (Ext w w1) := Lib.hid ((((Ext.refl w).alloc _).alloc _).trans e1)
  have HB0_1 : Hid (Blk w1 (w.heap.size) #[.string (qs a.x), .string (qs a.y), .string (qs a.z)] 30) := Lib.hid (Blk.ext ((Blk.new' (w := _) (cs := #[.string (qs a.x), .string (qs a.y), .string (qs a.z)]) (t := 30) (by first | rfl | (simp only [World.size_alloc]; done) | (simp only [World.size_alloc]; omega) | simp)).alloc _) e1)
  have HB1_1 : Hid (Blk w1 (w.heap.size + 1) #[.string b.x, .string b.y, .string b.z] 30) := Lib.hid (Blk.ext (Blk.new' (w := _) (cs := #[.string b.x, .string b.y, .string b.z]) (t := 30) (by first | rfl | (simp only [World.size_alloc]; done) | (simp only [World.size_alloc]; omega) | simp)) e1)
  have HGEB0 : Hid (w.heap.size ≤ w.heap.size) := Lib.hid (by first | omega | (simp only []; omega) | (simp; omega))
  have HGEB1 : Hid (w.heap.size ≤ w.heap.size + 1) := Lib.hid (by first | omega | (simp only []; omega) | (simp; omega))
  clear e1
  have c0_0 := HB0_1.out.cell 0 rfl
  have c0_1 := HB0_1.out.cell 1 rfl
  have c0_2 := HB0_1.out.cell 2 rfl
  go_wp2_with fail
  refine (short_3 ⟨qs a.x, qs a.y, qs a.z⟩ _ HAH.out.x HAH.out.y HAH.out.z).mono ?_; rintro e w2 ⟨rfl, e2⟩
  have HX2 : Hid (Ext w w2) := Lib.hid (HX1.out.trans e2)
  have HB0_2 := Lib.hid (Blk.ext HB0_1.out e2)
  have HB1_2 := Lib.hid (Blk.ext HB1_1.out e2)
  clear e2 c0_0 c0_1 c0_2
  have c1_0 := HB1_2.out.cell 0 rfl
  have c1_1 := HB1_2.out.cell 1 rfl
  have c1_2 := HB1_2.out.cell 2 rfl
  go_wp2_with fail
  refine (short_3 b _ HBH.out.x HBH.out.y HBH.out.z).mono ?_; rintro e w3 ⟨rfl, e3⟩
  have HX3 : Hid (Ext w w3) := Lib.hid (HX2.out.trans e3)
  have HB0_3 := Lib.hid (Blk.ext HB0_2.out e3)
  have HB1_3 := Lib.hid (Blk.ext HB1_2.out e3)
  clear e3 c1_0 c1_1 c1_2
  have c0_0 := HB0_3.out.cell 0 rfl
  have c0_1 := HB0_3.out.cell 1 rfl
  have c0_2 := HB0_3.out.cell 2 rfl
  go_upto_region 4 with fail
  refine wp_name (fun W => Ext w W ∧ Blk W (w.heap.size) #[.string (qs a.x), .string (qs a.y), .string (qs a.z)] 30 ∧ Blk W (w.heap.size + 1) #[.string b.x, .string b.y, .string b.z] 30 ∧ Blk W (w3.heap.size) #[.string (qs a.x), .string (qs a.y), .string (qs a.z), .string k] 48) ⟨(HX3.out.alloc _), (HB0_3.out.alloc _), (HB1_3.out.alloc _), (Blk.new' (w := _) (cs := #[.string (qs a.x), .string (qs a.y), .string (qs a.z), .string k]) (t := 48) (by first | rfl | (simp only [World.size_alloc]; done) | (simp only [World.size_alloc]; omega) | simp))⟩ ?_
  rintro w4 ⟨e4, bB0_4, bB1_4, bB2_4⟩
  have HX4 := Lib.hid e4; have HB0_4 := Lib.hid bB0_4; have HB1_4 := Lib.hid bB1_4; have HB2_4 := Lib.hid bB2_4
  have HGEB2 : Hid (w.heap.size ≤ w3.heap.size) := Lib.hid (by have := HX3.out.size; first | omega | (simp only []; omega) | (simp; omega))
  clear e4 bB0_4 bB1_4 bB2_4 c0_0 c0_1 c0_2
  have c0_0 := HB0_4.out.cell 0 rfl
  have c0_1 := HB0_4.out.cell 1 rfl
  go_wp2_with fail
  refine wp_name (fun W => Ext w W ∧ Blk W (w.heap.size) #[.string (qs a.x), .string (qs a.y), .string (qs a.z)] 30 ∧ Blk W (w.heap.size + 1) #[.string b.x, .string b.y, .string b.z] 30 ∧ Blk W (w3.heap.size) #[.string (qs a.x), .string (qs a.y), .string (qs a.z), .string k] 48 ∧ Blk W (w4.heap.size) #[.string (qs a.x), .string (qs a.y)] 62) ⟨(HX4.out.alloc _), (HB0_4.out.alloc _), (HB1_4.out.alloc _), (HB2_4.out.alloc _), (Blk.new' (w := _) (cs := #[.string (qs a.x), .string (qs a.y)]) (t := 62) (by first | rfl | (simp only [World.size_alloc]; done) | (simp only [World.size_alloc]; omega) | simp))⟩ ?_
  rintro w5 ⟨e5, bB0_5, bB1_5, bB2_5, bB3_5⟩
  have HX5 := Lib.hid e5; have HB0_5 := Lib.hid bB0_5; have HB1_5 := Lib.hid bB1_5; have HB2_5 := Lib.hid bB2_5; have HB3_5 := Lib.hid bB3_5
  have HGEB3 : Hid (w.heap.size ≤ w4.heap.size) := Lib.hid (by have := HX4.out.size; first | omega | (simp only []; omega) | (simp; omega))
  clear e5 bB0_5 bB1_5 bB2_5 bB3_5 c0_0 c0_1
  refine region_lin [.val (.agg #[.string (qs a.x), .string (qs a.y), .string (qs a.z)]), .val (.int .i64 0), .val (.agg #[.string (qs a.x), .string (qs a.y), .string (qs a.z)]), .val (.int .i64 0), .val (.bool false), .val (.bool false), .val (.agg #[.string (qs a.x), .string (qs a.y)]), .val (.int .i64 (terr (T2.l ⟨qs a.x, qs a.y⟩))), .val (.agg #[.string (qs a.x), .string (qs a.y)]), .val (.int .i64 (terr (T2.l ⟨qs a.x, qs a.y⟩))), .val (.bool false), .val (.bool false), .val (.bool false), .val (.agg #[.string (qs a.x), .string (qs a.y), .string (qs a.z), .string k]), .val (.int .i64 2), .val (.agg #[.string (qs a.x), .string (qs a.y), .string (qs a.z), .string k]), .val (.int .i64 2), .val (.bool false), .val (.bool false)] (by kernel_rfl) (by kernel_rfl) (by kernel_rfl) ?_ (fun g5 w6 hx_ hm_ hne_ => ?_)
  · skip
    refine RnL.cons (fun g5 A_ W_ hs_ => ?_) ?_
    · have q3_ := (hs_.old 3 (by kernel_rfl) : A_.tmps[3]?.getD undef = .pointer (some ⟨w.heap.size, 0, none⟩))
      have cB0_0 := (HB0_5.out.drew.ext hs_.1).cell 0 rfl
      have cB0_1 := (HB0_5.out.drew.ext hs_.1).cell 1 rfl
      have cB0_2 := (HB0_5.out.drew.ext hs_.1).cell 2 rfl
      refine Rn.val fun K_ hK_ => ?_
      go_simp
      exact hK_.out _ (Ext.refl _)
    refine RnL.cons (fun g5 A_ W_ hs_ => ?_) ?_
    · have q50_ := hs_.val 0 rfl rfl rfl
      refine Rn.val fun K_ hK_ => ?_
      go_simp
      refine (vCheck_ok a _ (HG.out.ext (HX5.out.drew.trans hs_.1)) HA.out).mono ?_; rintro e W9_ ⟨rfl, e9_⟩; exact hK_.out _ e9_
    refine RnL.cons (fun g5 A_ W_ hs_ => ?_) ?_
    · have q3_ := (hs_.old 3 (by kernel_rfl) : A_.tmps[3]?.getD undef = .pointer (some ⟨w.heap.size, 0, none⟩))
      have cB0_0 := (HB0_5.out.drew.ext hs_.1).cell 0 rfl
      have cB0_1 := (HB0_5.out.drew.ext hs_.1).cell 1 rfl
      have cB0_2 := (HB0_5.out.drew.ext hs_.1).cell 2 rfl
      refine Rn.val fun K_ hK_ => ?_
      go_simp
      exact hK_.out _ (Ext.refl _)
    refine RnL.cons (fun g5 A_ W_ hs_ => ?_) ?_
    · have q52_ := hs_.val 2 rfl rfl rfl
      refine Rn.val fun K_ hK_ => ?_
      go_simp
      refine (of_0 ⟨qs a.x, qs a.y, qs a.z⟩ _ (HG.out.ext (HX5.out.drew.trans hs_.1)) HAH.out.ts HA.out.all).mono ?_; rintro e W9_ ⟨rfl, e9_⟩; exact hK_.out _ e9_
    refine RnL.cons (fun g5 A_ W_ hs_ => ?_) ?_
    · have q51_ := hs_.val 1 rfl rfl rfl
      have q53_ := hs_.val 3 rfl rfl rfl
      refine Rn.val fun K_ hK_ => ?_
      go_simp
      exact hK_.out _ (Ext.refl _)
    refine RnL.cons (fun g5 A_ W_ hs_ => ?_) ?_
    · have q54_ := hs_.val 4 rfl rfl rfl
      refine Rn.val fun K_ hK_ => ?_
      go_simp
      exact hK_.out _ (Ext.refl _)
    refine RnL.cons (fun g5 A_ W_ hs_ => ?_) ?_
    · have q8_ := (hs_.old 8 (by kernel_rfl) : A_.tmps[8]?.getD undef = .pointer (some ⟨w4.heap.size, 0, none⟩))
      have cB3_0 := (HB3_5.out.drew.ext hs_.1).cell 0 rfl
      have cB3_1 := (HB3_5.out.drew.ext hs_.1).cell 1 rfl
      refine Rn.val fun K_ hK_ => ?_
      go_simp
      exact hK_.out _ (Ext.refl _)
    refine RnL.cons (fun g5 A_ W_ hs_ => ?_) ?_
    · have q56_ := hs_.val 6 rfl rfl rfl
      refine Rn.val fun K_ hK_ => ?_
      go_simp
      refine (vcheckp_c ⟨qs a.x, qs a.y⟩ _ (HG.out.ext (HX5.out.drew.trans hs_.1)) HAH.out.p).mono ?_; rintro e W9_ ⟨rfl, e9_⟩; exact hK_.out _ e9_
    refine RnL.cons (fun g5 A_ W_ hs_ => ?_) ?_
    · have q8_ := (hs_.old 8 (by kernel_rfl) : A_.tmps[8]?.getD undef = .pointer (some ⟨w4.heap.size, 0, none⟩))
      have cB3_0 := (HB3_5.out.drew.ext hs_.1).cell 0 rfl
      have cB3_1 := (HB3_5.out.drew.ext hs_.1).cell 1 rfl
      refine Rn.val fun K_ hK_ => ?_
      go_simp
      exact hK_.out _ (Ext.refl _)
    refine RnL.cons (fun g5 A_ W_ hs_ => ?_) ?_
    · have q58_ := hs_.val 8 rfl rfl rfl
      refine Rn.val fun K_ hK_ => ?_
      go_simp
      refine (ofpe_c ⟨qs a.x, qs a.y⟩ _ (HG.out.ext (HX5.out.drew.trans hs_.1)) HAH.out.p).mono ?_; rintro e W9_ ⟨rfl, e9_⟩; exact hK_.out _ e9_
    refine RnL.cons (fun g5 A_ W_ hs_ => ?_) ?_
    · have q57_ := hs_.val 7 rfl rfl rfl
      have q59_ := hs_.val 9 rfl rfl rfl
      refine Rn.val fun K_ hK_ => ?_
      go_simp
      exact hK_.out _ (Ext.refl _)
    refine RnL.cons (fun g5 A_ W_ hs_ => ?_) ?_
    · have q55_ := hs_.val 5 rfl rfl rfl
      have q60_ := hs_.val 10 rfl rfl rfl
      refine Rn.val fun K_ hK_ => ?_
      go_simp
      exact hK_.out _ (Ext.refl _)
    refine RnL.cons (fun g5 A_ W_ hs_ => ?_) ?_
    · have q61_ := hs_.val 11 rfl rfl rfl
      refine Rn.val fun K_ hK_ => ?_
      go_simp
      exact hK_.out _ (Ext.refl _)
    refine RnL.cons (fun g5 A_ W_ hs_ => ?_) ?_
    · have q7_ := (hs_.old 7 (by kernel_rfl) : A_.tmps[7]?.getD undef = .pointer (some ⟨w3.heap.size, 0, none⟩))
      have cB2_0 := (HB2_5.out.drew.ext hs_.1).cell 0 rfl
      have cB2_1 := (HB2_5.out.drew.ext hs_.1).cell 1 rfl
      have cB2_2 := (HB2_5.out.drew.ext hs_.1).cell 2 rfl
      have cB2_3 := (HB2_5.out.drew.ext hs_.1).cell 3 rfl
      refine Rn.val fun K_ hK_ => ?_
      go_simp
      exact hK_.out _ (Ext.refl _)
    refine RnL.cons (fun g5 A_ W_ hs_ => ?_) ?_
    · have q63_ := hs_.val 13 rfl rfl rfl
      refine Rn.val fun K_ hK_ => ?_
      go_simp
      refine (vPlane_err ⟨qs a.x, qs a.y, qs a.z⟩ (k) _ (HG.out.ext (HX5.out.drew.trans hs_.1)) HAH.out.ts HKS.out (terr_4k HKW.out)).mono ?_; rintro e W9_ ⟨rfl, e9_⟩; exact hK_.out _ e9_
    refine RnL.cons (fun g5 A_ W_ hs_ => ?_) ?_
    · have q7_ := (hs_.old 7 (by kernel_rfl) : A_.tmps[7]?.getD undef = .pointer (some ⟨w3.heap.size, 0, none⟩))
      have cB2_0 := (HB2_5.out.drew.ext hs_.1).cell 0 rfl
      have cB2_1 := (HB2_5.out.drew.ext hs_.1).cell 1 rfl
      have cB2_2 := (HB2_5.out.drew.ext hs_.1).cell 2 rfl
      have cB2_3 := (HB2_5.out.drew.ext hs_.1).cell 3 rfl
      refine Rn.val fun K_ hK_ => ?_
      go_simp
      exact hK_.out _ (Ext.refl _)
    refine RnL.cons (fun g5 A_ W_ hs_ => ?_) ?_
    · have q65_ := hs_.val 15 rfl rfl rfl
      refine Rn.val fun K_ hK_ => ?_
      go_simp
      refine (scp_e1 ⟨qs a.x, qs a.y, qs a.z⟩ (k) _ (HG.out.ext (HX5.out.drew.trans hs_.1)) HAH.out.ts HA.out.all HKS.out HKW.out).mono ?_; rintro e W9_ ⟨rfl, e9_⟩; exact hK_.out _ e9_
    refine RnL.cons (fun g5 A_ W_ hs_ => ?_) ?_
    · have q64_ := hs_.val 14 rfl rfl rfl
      have q66_ := hs_.val 16 rfl rfl rfl
      refine Rn.val fun K_ hK_ => ?_
      go_simp
      exact hK_.out _ (Ext.refl _)
    refine RnL.cons (fun g5 A_ W_ hs_ => ?_) ?_
    · have q62_ := hs_.val 12 rfl rfl rfl
      have q67_ := hs_.val 17 rfl rfl rfl
      refine Rn.val fun K_ hK_ => ?_
      go_simp
      exact hK_.out _ (Ext.refl _)
    exact RnL.nil
  simp only [fs, Kd.value, puts, Act.put, List.setIfInBounds_toArray, List.set_cons_zero, List.set_cons_succ]
  have HX6 : Hid (Ext w w6) := Lib.hid (HX5.out.drew.trans hx_)
  have HB0_6 := Lib.hid (HB0_5.out.drew.ext hx_)
  have HB1_6 := Lib.hid (HB1_5.out.drew.ext hx_)
  have HB2_6 := Lib.hid (HB2_5.out.drew.ext hx_)
  clear hx_ hm_ hne_
  go_wp2_with fail
  refine wp_name (fun W => Ext w W ∧ Blk W (w.heap.size) #[.string (qs a.x), .string (qs a.y), .string (qs a.z)] 30 ∧ Blk W (w.heap.size + 1) #[.string b.x, .string b.y, .string b.z] 30 ∧ Blk W (w3.heap.size) #[.string (qs a.x), .string (qs a.y), .string (qs a.z), .string k] 48) ⟨HX6.out, HB0_6.out, HB1_6.out, HB2_6.out⟩ ?_
  rintro w7 ⟨e7, bB0_7, bB1_7, bB2_7⟩
  have HX7 := Lib.hid e7; have HB0_7 := Lib.hid bB0_7; have HB1_7 := Lib.hid bB1_7; have HB2_7 := Lib.hid bB2_7
  clear e7 bB0_7 bB1_7 bB2_7
  refine region_lin [.val (.agg #[.string (qs a.x), .string (qs a.y), .string (qs a.z)]), .val (.int .i64 0), .val (.agg #[.string b.x, .string b.y, .string b.z]), .val (.int .i64 2), .mem (fun b_ => .slice (some ⟨b_, 0, none⟩) 2 2) #[.int .i64 0, .int .i64 2] 32 Option.none, .val (.int .i64 2), .val (.int .i64 2)] (by kernel_rfl) (by kernel_rfl) (by kernel_rfl) ?_ (fun g7 w8 hx_ hm_ hne_ => ?_)
  · skip
    refine RnL.cons (fun g7 A_ W_ hs_ => ?_) ?_
    · have q3_ := (hs_.old 3 (by kernel_rfl) : A_.tmps[3]?.getD undef = .pointer (some ⟨w.heap.size, 0, none⟩))
      have cB0_0 := (HB0_7.out.drew.ext hs_.1).cell 0 rfl
      have cB0_1 := (HB0_7.out.drew.ext hs_.1).cell 1 rfl
      have cB0_2 := (HB0_7.out.drew.ext hs_.1).cell 2 rfl
      refine Rn.val fun K_ hK_ => ?_
      go_simp
      exact hK_.out _ (Ext.refl _)
    refine RnL.cons (fun g7 A_ W_ hs_ => ?_) ?_
    · have q69_ := hs_.val 0 rfl rfl rfl
      refine Rn.val fun K_ hK_ => ?_
      go_simp
      refine (of_0 ⟨qs a.x, qs a.y, qs a.z⟩ _ (HG.out.ext (HX7.out.drew.trans hs_.1)) HAH.out.ts HA.out.all).mono ?_; rintro e W9_ ⟨rfl, e9_⟩; exact hK_.out _ e9_
    refine RnL.cons (fun g7 A_ W_ hs_ => ?_) ?_
    · have q4_ := (hs_.old 4 (by kernel_rfl) : A_.tmps[4]?.getD undef = .pointer (some ⟨w.heap.size + 1, 0, none⟩))
      have cB1_0 := (HB1_7.out.drew.ext hs_.1).cell 0 rfl
      have cB1_1 := (HB1_7.out.drew.ext hs_.1).cell 1 rfl
      have cB1_2 := (HB1_7.out.drew.ext hs_.1).cell 2 rfl
      refine Rn.val fun K_ hK_ => ?_
      go_simp
      exact hK_.out _ (Ext.refl _)
    refine RnL.cons (fun g7 A_ W_ hs_ => ?_) ?_
    · have q71_ := hs_.val 2 rfl rfl rfl
      refine Rn.val fun K_ hK_ => ?_
      go_simp
      refine (of_2 b _ (HG.out.ext (HX7.out.drew.trans hs_.1)) HBH.out.ts HBW.out).mono ?_; rintro e W9_ ⟨rfl, e9_⟩; exact hK_.out _ e9_
    refine RnL.cons (fun g7 A_ W_ hs_ => ?_) ?_
    · have q70_ := hs_.val 1 rfl rfl rfl
      have q72_ := hs_.val 3 rfl rfl rfl
      refine Rn.mem fun K_ hK_ => ?_
      go_simp
      exact hK_.out
    refine RnL.cons (fun g7 A_ W_ hs_ => ?_) ?_
    · have q73_ := (hs_.mem 4 rfl rfl rfl).1
      refine Rn.val fun K_ hK_ => ?_
      go_simp
      refine (((by decide : ferr [0, 2] = 2) ▸ first2_c 0 2 (g7 4) _ ((hs_.mem 4 rfl rfl rfl).2.2 rfl))).mono ?_; rintro e _ ⟨rfl, rfl⟩; exact hK_.out _ (Ext.refl _)
    refine RnL.cons (fun g7 A_ W_ hs_ => ?_) ?_
    · have q74_ := hs_.val 5 rfl rfl rfl
      refine Rn.val fun K_ hK_ => ?_
      go_simp
      exact hK_.out _ (Ext.refl _)
    exact RnL.nil
  simp only [fs, Kd.value, puts, Act.put, List.setIfInBounds_toArray, List.set_cons_zero, List.set_cons_succ, Nat.reduceAdd]
  have HX8 : Hid (Ext w w8) := Lib.hid (HX7.out.drew.trans hx_)
  have HB0_8 := Lib.hid (HB0_7.out.drew.ext hx_)
  have HB1_8 := Lib.hid (HB1_7.out.drew.ext hx_)
  have HB2_8 := Lib.hid (HB2_7.out.drew.ext hx_)
  have HB4_8 : Hid (Blk w8 (g7 4) #[.int .i64 0, .int .i64 2] 32) := Lib.hid (hm_ 4 _ _ _ _ rfl).2; have HGEB4 : Hid (w.heap.size ≤ g7 4) := Lib.hid (Nat.le_trans HX7.out.size (hm_ 4 _ _ _ _ rfl).1)
  have HNEB0B4 : Hid (w.heap.size ≠ g7 4) := Lib.hid (Nat.ne_of_lt (Nat.lt_of_lt_of_le HB0_7.out.lt (hm_ 4 _ _ _ _ rfl).1))
  have HNEB1B4 : Hid (w.heap.size + 1 ≠ g7 4) := Lib.hid (Nat.ne_of_lt (Nat.lt_of_lt_of_le HB1_7.out.lt (hm_ 4 _ _ _ _ rfl).1))
  have HNEB2B4 : Hid (w3.heap.size ≠ g7 4) := Lib.hid (Nat.ne_of_lt (Nat.lt_of_lt_of_le HB2_7.out.lt (hm_ 4 _ _ _ _ rfl).1))
  clear hx_ hm_ hne_
  generalize g7 4 = i4 at *
  clear g7
  have c0_0 := HB0_8.out.cell 0 rfl
  have c0_1 := HB0_8.out.cell 1 rfl
  have c0_2 := HB0_8.out.cell 2 rfl
  have c1_0 := HB1_8.out.cell 0 rfl
  have c1_1 := HB1_8.out.cell 1 rfl
  have c1_2 := HB1_8.out.cell 2 rfl
  go_wp2_with fail
  refine (vAdd_err ⟨qs a.x, qs a.y, qs a.z⟩ b _ (HG.out.ext HX8.out) HAH.out.ts HBH.out.ts (verr_2b HBW.out)).mono ?_; rintro e w9 ⟨rfl, e9⟩
  have HX9 : Hid (Ext w w9) := Lib.hid (HX8.out.trans e9)
  have HB0_9 := Lib.hid (Blk.ext HB0_8.out e9)
  have HB1_9 := Lib.hid (Blk.ext HB1_8.out e9)
  have HB2_9 := Lib.hid (Blk.ext HB2_8.out e9)
  clear e9 c0_0 c0_1 c0_2 c1_0 c1_1 c1_2
  go_upto_region 10 with fail
  refine wp_name (fun W => Ext w W ∧ Blk W (w.heap.size) #[.string (qs a.x), .string (qs a.y), .string (qs a.z)] 30 ∧ Blk W (w.heap.size + 1) #[.string b.x, .string b.y, .string b.z] 30 ∧ Blk W (w3.heap.size) #[.string (qs a.x), .string (qs a.y), .string (qs a.z), .string k] 48 ∧ Blk W (w9.heap.size) #[.string ⟨#[]⟩, .string ⟨#[]⟩, .string ⟨#[]⟩] 30) ⟨(HX9.out.alloc _), (HB0_9.out.alloc _), (HB1_9.out.alloc _), (HB2_9.out.alloc _), (Blk.new' (w := _) (cs := #[.string ⟨#[]⟩, .string ⟨#[]⟩, .string ⟨#[]⟩]) (t := 30) (by first | rfl | (simp only [World.size_alloc]; done) | (simp only [World.size_alloc]; omega) | simp))⟩ ?_
  rintro w10 ⟨e10, bB0_10, bB1_10, bB2_10, bB5_10⟩
  have HX10 := Lib.hid e10; have HB0_10 := Lib.hid bB0_10; have HB1_10 := Lib.hid bB1_10; have HB2_10 := Lib.hid bB2_10; have HB5_10 := Lib.hid bB5_10
  have HGEB5 : Hid (w.heap.size ≤ w9.heap.size) := Lib.hid (by have := HX9.out.size; first | omega | (simp only []; omega) | (simp; omega))
  clear e10 bB0_10 bB1_10 bB2_10 bB5_10
  have c0_0 := HB0_10.out.cell 0 rfl
  have c0_1 := HB0_10.out.cell 1 rfl
  have c0_2 := HB0_10.out.cell 2 rfl
  have c1_0 := HB1_10.out.cell 0 rfl
  have c1_1 := HB1_10.out.cell 1 rfl
  have c1_2 := HB1_10.out.cell 2 rfl
  go_wp2_with fail
  refine (vSub_err ⟨qs a.x, qs a.y, qs a.z⟩ b _ (HG.out.ext HX10.out) HAH.out.ts HBH.out.ts (verr_2b HBW.out)).mono ?_; rintro e w11 ⟨rfl, e11⟩
  have HX11 : Hid (Ext w w11) := Lib.hid (HX10.out.trans e11)
  have HB0_11 := Lib.hid (Blk.ext HB0_10.out e11)
  have HB1_11 := Lib.hid (Blk.ext HB1_10.out e11)
  have HB2_11 := Lib.hid (Blk.ext HB2_10.out e11)
  have HB5_11 := Lib.hid (Blk.ext HB5_10.out e11)
  clear e11 c0_0 c0_1 c0_2 c1_0 c1_1 c1_2
  go_upto_region 11 with fail
  refine wp_name (fun W => Ext w W ∧ Blk W (w.heap.size) #[.string (qs a.x), .string (qs a.y), .string (qs a.z)] 30 ∧ Blk W (w.heap.size + 1) #[.string b.x, .string b.y, .string b.z] 30 ∧ Blk W (w3.heap.size) #[.string (qs a.x), .string (qs a.y), .string (qs a.z), .string k] 48 ∧ Blk W (w9.heap.size) #[.string ⟨#[]⟩, .string ⟨#[]⟩, .string ⟨#[]⟩] 30 ∧ Blk W (w11.heap.size) #[.string ⟨#[]⟩, .string ⟨#[]⟩, .string ⟨#[]⟩] 30) ⟨(HX11.out.alloc _), (HB0_11.out.alloc _), (HB1_11.out.alloc _), (HB2_11.out.alloc _), (HB5_11.out.alloc _), (Blk.new' (w := _) (cs := #[.string ⟨#[]⟩, .string ⟨#[]⟩, .string ⟨#[]⟩]) (t := 30) (by first | rfl | (simp only [World.size_alloc]; done) | (simp only [World.size_alloc]; omega) | simp))⟩ ?_
  rintro w12 ⟨e12, bB0_12, bB1_12, bB2_12, bB5_12, bB6_12⟩
  have HX12 := Lib.hid e12; have HB0_12 := Lib.hid bB0_12; have HB1_12 := Lib.hid bB1_12; have HB2_12 := Lib.hid bB2_12; have HB5_12 := Lib.hid bB5_12; have HB6_12 := Lib.hid bB6_12
  have HGEB6 : Hid (w.heap.size ≤ w11.heap.size) := Lib.hid (by have := HX11.out.size; first | omega | (simp only []; omega) | (simp; omega))
  clear e12 bB0_12 bB1_12 bB2_12 bB5_12 bB6_12
  have c0_0 := HB0_12.out.cell 0 rfl
  have c0_1 := HB0_12.out.cell 1 rfl
  have c0_2 := HB0_12.out.cell 2 rfl
  have c1_0 := HB1_12.out.cell 0 rfl
  have c1_1 := HB1_12.out.cell 1 rfl
  have c1_2 := HB1_12.out.cell 2 rfl
  go_wp2_with fail
  refine (vDot_err ⟨qs a.x, qs a.y, qs a.z⟩ b _ (HG.out.ext HX12.out) HAH.out.ts HBH.out.ts (verr_2b HBW.out)).mono ?_; rintro e w13 ⟨rfl, e13⟩
  have HX13 : Hid (Ext w w13) := Lib.hid (HX12.out.trans e13)
  have HB0_13 := Lib.hid (Blk.ext HB0_12.out e13)
  have HB1_13 := Lib.hid (Blk.ext HB1_12.out e13)
  have HB2_13 := Lib.hid (Blk.ext HB2_12.out e13)
  have HB5_13 := Lib.hid (Blk.ext HB5_12.out e13)
  have HB6_13 := Lib.hid (Blk.ext HB6_12.out e13)
  clear e13 c0_0 c0_1 c0_2 c1_0 c1_1 c1_2
  have c0_0 := HB0_13.out.cell 0 rfl
  have c0_1 := HB0_13.out.cell 1 rfl
  have c0_2 := HB0_13.out.cell 2 rfl
  have c1_0 := HB1_13.out.cell 0 rfl
  have c1_1 := HB1_13.out.cell 1 rfl
  have c1_2 := HB1_13.out.cell 2 rfl
  go_wp2_with fail
  refine (vCross_err ⟨qs a.x, qs a.y, qs a.z⟩ b _ (HG.out.ext HX13.out) HAH.out.ts HBH.out.ts (verr_2b HBW.out)).mono ?_; rintro e w14 ⟨rfl, e14⟩
  have HX14 : Hid (Ext w w14) := Lib.hid (HX13.out.trans e14)
  have HB0_14 := Lib.hid (Blk.ext HB0_13.out e14)
  have HB1_14 := Lib.hid (Blk.ext HB1_13.out e14)
  have HB2_14 := Lib.hid (Blk.ext HB2_13.out e14)
  have HB5_14 := Lib.hid (Blk.ext HB5_13.out e14)
  have HB6_14 := Lib.hid (Blk.ext HB6_13.out e14)
  clear e14 c0_0 c0_1 c0_2 c1_0 c1_1 c1_2
  go_upto_region 13 with fail
  refine wp_name (fun W => Ext w W ∧ Blk W (w.heap.size) #[.string (qs a.x), .string (qs a.y), .string (qs a.z)] 30 ∧ Blk W (w.heap.size + 1) #[.string b.x, .string b.y, .string b.z] 30 ∧ Blk W (w3.heap.size) #[.string (qs a.x), .string (qs a.y), .string (qs a.z), .string k] 48 ∧ Blk W (w9.heap.size) #[.string ⟨#[]⟩, .string ⟨#[]⟩, .string ⟨#[]⟩] 30 ∧ Blk W (w11.heap.size) #[.string ⟨#[]⟩, .string ⟨#[]⟩, .string ⟨#[]⟩] 30 ∧ Blk W (w14.heap.size) #[.string ⟨#[]⟩, .string ⟨#[]⟩, .string ⟨#[]⟩] 30) ⟨(HX14.out.alloc _), (HB0_14.out.alloc _), (HB1_14.out.alloc _), (HB2_14.out.alloc _), (HB5_14.out.alloc _), (HB6_14.out.alloc _), (Blk.new' (w := _) (cs := #[.string ⟨#[]⟩, .string ⟨#[]⟩, .string ⟨#[]⟩]) (t := 30) (by first | rfl | (simp only [World.size_alloc]; done) | (simp only [World.size_alloc]; omega) | simp))⟩ ?_
  rintro w15 ⟨e15, bB0_15, bB1_15, bB2_15, bB5_15, bB6_15, bB7_15⟩
  have HX15 := Lib.hid e15; have HB0_15 := Lib.hid bB0_15; have HB1_15 := Lib.hid bB1_15; have HB2_15 := Lib.hid bB2_15; have HB5_15 := Lib.hid bB5_15; have HB6_15 := Lib.hid bB6_15; have HB7_15 := Lib.hid bB7_15
  have HGEB7 : Hid (w.heap.size ≤ w14.heap.size) := Lib.hid (by have := HX14.out.size; first | omega | (simp only []; omega) | (simp; omega))
  clear e15 bB0_15 bB1_15 bB2_15 bB5_15 bB6_15 bB7_15
  have c0_0 := HB0_15.out.cell 0 rfl
  have c0_1 := HB0_15.out.cell 1 rfl
  have c0_2 := HB0_15.out.cell 2 rfl
  have c1_0 := HB1_15.out.cell 0 rfl
  have c1_1 := HB1_15.out.cell 1 rfl
  have c1_2 := HB1_15.out.cell 2 rfl
  go_wp2_with fail
  refine (vParallel_err ⟨qs a.x, qs a.y, qs a.z⟩ b _ (HG.out.ext HX15.out) HAH.out.ts HBH.out.ts (verr_2b HBW.out)).mono ?_; rintro e w16 ⟨rfl, e16⟩
  have HX16 : Hid (Ext w w16) := Lib.hid (HX15.out.trans e16)
  have HB0_16 := Lib.hid (Blk.ext HB0_15.out e16)
  have HB1_16 := Lib.hid (Blk.ext HB1_15.out e16)
  have HB2_16 := Lib.hid (Blk.ext HB2_15.out e16)
  have HB5_16 := Lib.hid (Blk.ext HB5_15.out e16)
  have HB6_16 := Lib.hid (Blk.ext HB6_15.out e16)
  have HB7_16 := Lib.hid (Blk.ext HB7_15.out e16)
  clear e16 c0_0 c0_1 c0_2 c1_0 c1_1 c1_2
  have c5_0 := HB5_16.out.cell 0 rfl
  have c5_1 := HB5_16.out.cell 1 rfl
  have c5_2 := HB5_16.out.cell 2 rfl
  have c6_0 := HB6_16.out.cell 0 rfl
  have c6_1 := HB6_16.out.cell 1 rfl
  have c6_2 := HB6_16.out.cell 2 rfl
  have c7_0 := HB7_16.out.cell 0 rfl
  have c7_1 := HB7_16.out.cell 1 rfl
  have c7_2 := HB7_16.out.cell 2 rfl
  go_wp2_with fail
  refine wp_name (fun W => Ext w W ∧ Blk W (w.heap.size) #[.string (qs a.x), .string (qs a.y), .string (qs a.z)] 30 ∧ Blk W (w.heap.size + 1) #[.string b.x, .string b.y, .string b.z] 30 ∧ Blk W (w3.heap.size) #[.string (qs a.x), .string (qs a.y), .string (qs a.z), .string k] 48) ⟨HX16.out, HB0_16.out, HB1_16.out, HB2_16.out⟩ ?_
  rintro w17 ⟨e17, bB0_17, bB1_17, bB2_17⟩
  have HX17 := Lib.hid e17; have HB0_17 := Lib.hid bB0_17; have HB1_17 := Lib.hid bB1_17; have HB2_17 := Lib.hid bB2_17
  clear e17 bB0_17 bB1_17 bB2_17 c5_0 c5_1 c5_2 c6_0 c6_1 c6_2 c7_0 c7_1 c7_2
  refine region_lin [.val (.agg #[.string (qs a.x), .string (qs a.y), .string (qs a.z), .string k]), .val (.int .i64 2), .val (.agg #[.string b.x, .string b.y, .string b.z]), .val (.int .i64 2), .mem (fun b_ => .slice (some ⟨b_, 0, none⟩) 2 2) #[.int .i64 2, .int .i64 2] 32 Option.none, .val (.int .i64 2), .val (.int .i64 2)] (by kernel_rfl) (by kernel_rfl) (by kernel_rfl) ?_ (fun g17 w18 hx_ hm_ hne_ => ?_)
  · skip
    refine RnL.cons (fun g17 A_ W_ hs_ => ?_) ?_
    · have q7_ := (hs_.old 7 (by kernel_rfl) : A_.tmps[7]?.getD undef = .pointer (some ⟨w3.heap.size, 0, none⟩))
      have cB2_0 := (HB2_17.out.drew.ext hs_.1).cell 0 rfl
      have cB2_1 := (HB2_17.out.drew.ext hs_.1).cell 1 rfl
      have cB2_2 := (HB2_17.out.drew.ext hs_.1).cell 2 rfl
      have cB2_3 := (HB2_17.out.drew.ext hs_.1).cell 3 rfl
      refine Rn.val fun K_ hK_ => ?_
      go_simp
      exact hK_.out _ (Ext.refl _)
    refine RnL.cons (fun g17 A_ W_ hs_ => ?_) ?_
    · have q152_ := hs_.val 0 rfl rfl rfl
      refine Rn.val fun K_ hK_ => ?_
      go_simp
      refine (scp_e1 ⟨qs a.x, qs a.y, qs a.z⟩ (k) _ (HG.out.ext (HX17.out.drew.trans hs_.1)) HAH.out.ts HA.out.all HKS.out HKW.out).mono ?_; rintro e W9_ ⟨rfl, e9_⟩; exact hK_.out _ e9_
    refine RnL.cons (fun g17 A_ W_ hs_ => ?_) ?_
    · have q4_ := (hs_.old 4 (by kernel_rfl) : A_.tmps[4]?.getD undef = .pointer (some ⟨w.heap.size + 1, 0, none⟩))
      have cB1_0 := (HB1_17.out.drew.ext hs_.1).cell 0 rfl
      have cB1_1 := (HB1_17.out.drew.ext hs_.1).cell 1 rfl
      have cB1_2 := (HB1_17.out.drew.ext hs_.1).cell 2 rfl
      refine Rn.val fun K_ hK_ => ?_
      go_simp
      exact hK_.out _ (Ext.refl _)
    refine RnL.cons (fun g17 A_ W_ hs_ => ?_) ?_
    · have q154_ := hs_.val 2 rfl rfl rfl
      refine Rn.val fun K_ hK_ => ?_
      go_simp
      refine (of_2 b _ (HG.out.ext (HX17.out.drew.trans hs_.1)) HBH.out.ts HBW.out).mono ?_; rintro e W9_ ⟨rfl, e9_⟩; exact hK_.out _ e9_
    refine RnL.cons (fun g17 A_ W_ hs_ => ?_) ?_
    · have q153_ := hs_.val 1 rfl rfl rfl
      have q155_ := hs_.val 3 rfl rfl rfl
      refine Rn.mem fun K_ hK_ => ?_
      go_simp
      exact hK_.out
    refine RnL.cons (fun g17 A_ W_ hs_ => ?_) ?_
    · have q156_ := (hs_.mem 4 rfl rfl rfl).1
      refine Rn.val fun K_ hK_ => ?_
      go_simp
      refine (((by decide : ferr [2, 2] = 2) ▸ first2_c 2 2 (g17 4) _ ((hs_.mem 4 rfl rfl rfl).2.2 rfl))).mono ?_; rintro e _ ⟨rfl, rfl⟩; exact hK_.out _ (Ext.refl _)
    refine RnL.cons (fun g17 A_ W_ hs_ => ?_) ?_
    · have q157_ := hs_.val 5 rfl rfl rfl
      refine Rn.val fun K_ hK_ => ?_
      go_simp
      exact hK_.out _ (Ext.refl _)
    exact RnL.nil
  simp only [fs, Kd.value, puts, Act.put, List.setIfInBounds_toArray, List.set_cons_zero, List.set_cons_succ, Nat.reduceAdd]
  have HX18 : Hid (Ext w w18) := Lib.hid (HX17.out.drew.trans hx_)
  have HB0_18 := Lib.hid (HB0_17.out.drew.ext hx_)
  have HB1_18 := Lib.hid (HB1_17.out.drew.ext hx_)
  have HB2_18 := Lib.hid (HB2_17.out.drew.ext hx_)
  have HB8_18 : Hid (Blk w18 (g17 4) #[.int .i64 2, .int .i64 2] 32) := Lib.hid (hm_ 4 _ _ _ _ rfl).2; have HGEB8 : Hid (w.heap.size ≤ g17 4) := Lib.hid (Nat.le_trans HX17.out.size (hm_ 4 _ _ _ _ rfl).1)
  have HNEB0B8 : Hid (w.heap.size ≠ g17 4) := Lib.hid (Nat.ne_of_lt (Nat.lt_of_lt_of_le HB0_17.out.lt (hm_ 4 _ _ _ _ rfl).1))
  have HNEB1B8 : Hid (w.heap.size + 1 ≠ g17 4) := Lib.hid (Nat.ne_of_lt (Nat.lt_of_lt_of_le HB1_17.out.lt (hm_ 4 _ _ _ _ rfl).1))
  have HNEB2B8 : Hid (w3.heap.size ≠ g17 4) := Lib.hid (Nat.ne_of_lt (Nat.lt_of_lt_of_le HB2_17.out.lt (hm_ 4 _ _ _ _ rfl).1))
  clear hx_ hm_ hne_
  generalize g17 4 = i8 at *
  clear g17
  have c2_0 := HB2_18.out.cell 0 rfl
  have c2_1 := HB2_18.out.cell 1 rfl
  have c2_2 := HB2_18.out.cell 2 rfl
  have c2_3 := HB2_18.out.cell 3 rfl
  have c1_0 := HB1_18.out.cell 0 rfl
  have c1_1 := HB1_18.out.cell 1 rfl
  have c1_2 := HB1_18.out.cell 2 rfl
  go_wp2_with fail
  refine (vSide_err ⟨qs a.x, qs a.y, qs a.z⟩ (k) _ (HG.out.ext HX18.out) HAH.out.ts HKS.out b (terr_4k HKW.out)).mono ?_; rintro e w19 ⟨rfl, e19⟩
  have HX19 : Hid (Ext w w19) := Lib.hid (HX18.out.trans e19)
  have HB0_19 := Lib.hid (Blk.ext HB0_18.out e19)
  clear e19 c2_0 c2_1 c2_2 c2_3 c1_0 c1_1 c1_2
  have c0_0 := HB0_19.out.cell 0 rfl
  have c0_1 := HB0_19.out.cell 1 rfl
  have c0_2 := HB0_19.out.cell 2 rfl
  go_wp2_with fail
  refine (of_0 ⟨qs a.x, qs a.y, qs a.z⟩ _ (HG.out.ext HX19.out) HAH.out.ts HA.out.all).mono ?_; rintro e w20 ⟨rfl, e20⟩
  have HX20 : Hid (Ext w w20) := Lib.hid (HX19.out.trans e20)
  have HB0_20 := Lib.hid (Blk.ext HB0_19.out e20)
  clear e20 c0_0 c0_1 c0_2
  go_wp2_with fail
  refine (fright_no k _ (HG.out.ext HX20.out) HKS.out HKW.out).mono ?_; rintro e w21 ⟨rfl, e21⟩
  have HX21 : Hid (Ext w w21) := Lib.hid (HX20.out.trans e21)
  have HB0_21 := Lib.hid (Blk.ext HB0_20.out e21)
  clear e21
  have c0_0 := HB0_21.out.cell 0 rfl
  have c0_1 := HB0_21.out.cell 1 rfl
  have c0_2 := HB0_21.out.cell 2 rfl
  go_wp2_with fail
  refine (vScale_err2 ⟨qs a.x, qs a.y, qs a.z⟩ (k) _ (HG.out.ext HX21.out) HAH.out.ts HKS.out (verr_10 HA.out.all) (terr_1k HKW.out)).mono ?_; rintro e w22 ⟨rfl, e22⟩
  have HX22 : Hid (Ext w w22) := Lib.hid (HX21.out.trans e22)
  clear e22 c0_0 c0_1 c0_2
  go_wp2
  go_ret
  exact ⟨rfl, (HX22.out.alloc _)⟩

set_option maxRecDepth 100000 in
set_option maxHeartbeats 16000000 in
theorem errors_W3 (a : V3) (b : T3) (q : Rat) (w : World) (g : Gd w) (hah : SH ⟨qs a.x, qs a.y, qs a.z⟩) (hbh : SH b) (hk : (qs q).size ≤ 40) (ha : VB 200 a) (hbw : b.l.all rq = false) (hq : QB 200 q) (hz : ¬ (a.x = 0 ∧ a.y = 0 ∧ a.z = 0)) : Calls Tryz.prog 10 #[.agg #[.string (qs a.x), .string (qs a.y), .string (qs a.z)], .agg #[.string b.x, .string b.y, .string b.z], .string (qs q)] w (Ret w (.bool true)) := by
  have HAH := Lib.hid hah
  have HBH := Lib.hid hbh
  have HA := Lib.hid ha
  have HBW := Lib.hid hbw
  have HQ := Lib.hid hq
  have HZ := Lib.hid hz
  have HG := Lib.hid g
  clear hah hbh ha hbw hq hz g
  have HKS : Hid ((qs q).size ≤ 1000000) := Lib.hid (Nat.le_trans hk (by decide))
  have tk : decide ((40 : Int) < ((qs q).size : Int)) = false := decide_eq_false (by omega)
  go_enter Tryz.func10, Tryz.ntmps10
  go_wp2_with fail
  refine (known_c _ (HG.out.ext (((Ext.refl w).alloc _).alloc _))).mono ?_; rintro e w1 ⟨rfl, e1⟩
  have HX1 : Hid (Ext w w1) := Lib.hid ((((Ext.refl w).alloc _).alloc _).trans e1)
  have HB0_1 : Hid (Blk w1 (w.heap.size) #[.string (qs a.x), .string (qs a.y), .string (qs a.z)] 30) := Lib.hid (Blk.ext ((Blk.new' (w := _) (cs := #[.string (qs a.x), .string (qs a.y), .string (qs a.z)]) (t := 30) (by first | rfl | (simp only [World.size_alloc]; done) | (simp only [World.size_alloc]; omega) | simp)).alloc _) e1)
  have HB1_1 : Hid (Blk w1 (w.heap.size + 1) #[.string b.x, .string b.y, .string b.z] 30) := Lib.hid (Blk.ext (Blk.new' (w := _) (cs := #[.string b.x, .string b.y, .string b.z]) (t := 30) (by first | rfl | (simp only [World.size_alloc]; done) | (simp only [World.size_alloc]; omega) | simp)) e1)
  have HGEB0 : Hid (w.heap.size ≤ w.heap.size) := Lib.hid (by first | omega | (simp only []; omega) | (simp; omega))
  have HGEB1 : Hid (w.heap.size ≤ w.heap.size + 1) := Lib.hid (by first | omega | (simp only []; omega) | (simp; omega))
  clear e1
  have c0_0 := HB0_1.out.cell 0 rfl
  have c0_1 := HB0_1.out.cell 1 rfl
  have c0_2 := HB0_1.out.cell 2 rfl
  go_wp2_with fail
  refine (short_3 ⟨qs a.x, qs a.y, qs a.z⟩ _ HAH.out.x HAH.out.y HAH.out.z).mono ?_; rintro e w2 ⟨rfl, e2⟩
  have HX2 : Hid (Ext w w2) := Lib.hid (HX1.out.trans e2)
  have HB0_2 := Lib.hid (Blk.ext HB0_1.out e2)
  have HB1_2 := Lib.hid (Blk.ext HB1_1.out e2)
  clear e2 c0_0 c0_1 c0_2
  have c1_0 := HB1_2.out.cell 0 rfl
  have c1_1 := HB1_2.out.cell 1 rfl
  have c1_2 := HB1_2.out.cell 2 rfl
  go_wp2_with fail
  refine (short_3 b _ HBH.out.x HBH.out.y HBH.out.z).mono ?_; rintro e w3 ⟨rfl, e3⟩
  have HX3 : Hid (Ext w w3) := Lib.hid (HX2.out.trans e3)
  have HB0_3 := Lib.hid (Blk.ext HB0_2.out e3)
  have HB1_3 := Lib.hid (Blk.ext HB1_2.out e3)
  clear e3 c1_0 c1_1 c1_2
  have c0_0 := HB0_3.out.cell 0 rfl
  have c0_1 := HB0_3.out.cell 1 rfl
  have c0_2 := HB0_3.out.cell 2 rfl
  go_upto_region 4 with fail
  refine wp_name (fun W => Ext w W ∧ Blk W (w.heap.size) #[.string (qs a.x), .string (qs a.y), .string (qs a.z)] 30 ∧ Blk W (w.heap.size + 1) #[.string b.x, .string b.y, .string b.z] 30 ∧ Blk W (w3.heap.size) #[.string (qs a.x), .string (qs a.y), .string (qs a.z), .string (qs q)] 48) ⟨(HX3.out.alloc _), (HB0_3.out.alloc _), (HB1_3.out.alloc _), (Blk.new' (w := _) (cs := #[.string (qs a.x), .string (qs a.y), .string (qs a.z), .string (qs q)]) (t := 48) (by first | rfl | (simp only [World.size_alloc]; done) | (simp only [World.size_alloc]; omega) | simp))⟩ ?_
  rintro w4 ⟨e4, bB0_4, bB1_4, bB2_4⟩
  have HX4 := Lib.hid e4; have HB0_4 := Lib.hid bB0_4; have HB1_4 := Lib.hid bB1_4; have HB2_4 := Lib.hid bB2_4
  have HGEB2 : Hid (w.heap.size ≤ w3.heap.size) := Lib.hid (by have := HX3.out.size; first | omega | (simp only []; omega) | (simp; omega))
  clear e4 bB0_4 bB1_4 bB2_4 c0_0 c0_1 c0_2
  have c0_0 := HB0_4.out.cell 0 rfl
  have c0_1 := HB0_4.out.cell 1 rfl
  go_wp2_with fail
  refine wp_name (fun W => Ext w W ∧ Blk W (w.heap.size) #[.string (qs a.x), .string (qs a.y), .string (qs a.z)] 30 ∧ Blk W (w.heap.size + 1) #[.string b.x, .string b.y, .string b.z] 30 ∧ Blk W (w3.heap.size) #[.string (qs a.x), .string (qs a.y), .string (qs a.z), .string (qs q)] 48 ∧ Blk W (w4.heap.size) #[.string (qs a.x), .string (qs a.y)] 62) ⟨(HX4.out.alloc _), (HB0_4.out.alloc _), (HB1_4.out.alloc _), (HB2_4.out.alloc _), (Blk.new' (w := _) (cs := #[.string (qs a.x), .string (qs a.y)]) (t := 62) (by first | rfl | (simp only [World.size_alloc]; done) | (simp only [World.size_alloc]; omega) | simp))⟩ ?_
  rintro w5 ⟨e5, bB0_5, bB1_5, bB2_5, bB3_5⟩
  have HX5 := Lib.hid e5; have HB0_5 := Lib.hid bB0_5; have HB1_5 := Lib.hid bB1_5; have HB2_5 := Lib.hid bB2_5; have HB3_5 := Lib.hid bB3_5
  have HGEB3 : Hid (w.heap.size ≤ w4.heap.size) := Lib.hid (by have := HX4.out.size; first | omega | (simp only []; omega) | (simp; omega))
  clear e5 bB0_5 bB1_5 bB2_5 bB3_5 c0_0 c0_1
  refine region_lin [.val (.agg #[.string (qs a.x), .string (qs a.y), .string (qs a.z)]), .val (.int .i64 0), .val (.agg #[.string (qs a.x), .string (qs a.y), .string (qs a.z)]), .val (.int .i64 0), .val (.bool false), .val (.bool false), .val (.agg #[.string (qs a.x), .string (qs a.y)]), .val (.int .i64 (terr (T2.l ⟨qs a.x, qs a.y⟩))), .val (.agg #[.string (qs a.x), .string (qs a.y)]), .val (.int .i64 (terr (T2.l ⟨qs a.x, qs a.y⟩))), .val (.bool false), .val (.bool false), .val (.bool false), .val (.agg #[.string (qs a.x), .string (qs a.y), .string (qs a.z), .string (qs q)]), .val (.int .i64 0), .val (.agg #[.string (qs a.x), .string (qs a.y), .string (qs a.z), .string (qs q)]), .val (.int .i64 0), .val (.bool false), .val (.bool false)] (by kernel_rfl) (by kernel_rfl) (by kernel_rfl) ?_ (fun g5 w6 hx_ hm_ hne_ => ?_)
  · skip
    refine RnL.cons (fun g5 A_ W_ hs_ => ?_) ?_
    · have q3_ := (hs_.old 3 (by kernel_rfl) : A_.tmps[3]?.getD undef = .pointer (some ⟨w.heap.size, 0, none⟩))
      have cB0_0 := (HB0_5.out.drew.ext hs_.1).cell 0 rfl
      have cB0_1 := (HB0_5.out.drew.ext hs_.1).cell 1 rfl
      have cB0_2 := (HB0_5.out.drew.ext hs_.1).cell 2 rfl
      refine Rn.val fun K_ hK_ => ?_
      go_simp
      exact hK_.out _ (Ext.refl _)
    refine RnL.cons (fun g5 A_ W_ hs_ => ?_) ?_
    · have q50_ := hs_.val 0 rfl rfl rfl
      refine Rn.val fun K_ hK_ => ?_
      go_simp
      refine (vCheck_ok a _ (HG.out.ext (HX5.out.drew.trans hs_.1)) HA.out).mono ?_; rintro e W9_ ⟨rfl, e9_⟩; exact hK_.out _ e9_
    refine RnL.cons (fun g5 A_ W_ hs_ => ?_) ?_
    · have q3_ := (hs_.old 3 (by kernel_rfl) : A_.tmps[3]?.getD undef = .pointer (some ⟨w.heap.size, 0, none⟩))
      have cB0_0 := (HB0_5.out.drew.ext hs_.1).cell 0 rfl
      have cB0_1 := (HB0_5.out.drew.ext hs_.1).cell 1 rfl
      have cB0_2 := (HB0_5.out.drew.ext hs_.1).cell 2 rfl
      refine Rn.val fun K_ hK_ => ?_
      go_simp
      exact hK_.out _ (Ext.refl _)
    refine RnL.cons (fun g5 A_ W_ hs_ => ?_) ?_
    · have q52_ := hs_.val 2 rfl rfl rfl
      refine Rn.val fun K_ hK_ => ?_
      go_simp
      refine (of_0 ⟨qs a.x, qs a.y, qs a.z⟩ _ (HG.out.ext (HX5.out.drew.trans hs_.1)) HAH.out.ts HA.out.all).mono ?_; rintro e W9_ ⟨rfl, e9_⟩; exact hK_.out _ e9_
    refine RnL.cons (fun g5 A_ W_ hs_ => ?_) ?_
    · have q51_ := hs_.val 1 rfl rfl rfl
      have q53_ := hs_.val 3 rfl rfl rfl
      refine Rn.val fun K_ hK_ => ?_
      go_simp
      exact hK_.out _ (Ext.refl _)
    refine RnL.cons (fun g5 A_ W_ hs_ => ?_) ?_
    · have q54_ := hs_.val 4 rfl rfl rfl
      refine Rn.val fun K_ hK_ => ?_
      go_simp
      exact hK_.out _ (Ext.refl _)
    refine RnL.cons (fun g5 A_ W_ hs_ => ?_) ?_
    · have q8_ := (hs_.old 8 (by kernel_rfl) : A_.tmps[8]?.getD undef = .pointer (some ⟨w4.heap.size, 0, none⟩))
      have cB3_0 := (HB3_5.out.drew.ext hs_.1).cell 0 rfl
      have cB3_1 := (HB3_5.out.drew.ext hs_.1).cell 1 rfl
      refine Rn.val fun K_ hK_ => ?_
      go_simp
      exact hK_.out _ (Ext.refl _)
    refine RnL.cons (fun g5 A_ W_ hs_ => ?_) ?_
    · have q56_ := hs_.val 6 rfl rfl rfl
      refine Rn.val fun K_ hK_ => ?_
      go_simp
      refine (vcheckp_c ⟨qs a.x, qs a.y⟩ _ (HG.out.ext (HX5.out.drew.trans hs_.1)) HAH.out.p).mono ?_; rintro e W9_ ⟨rfl, e9_⟩; exact hK_.out _ e9_
    refine RnL.cons (fun g5 A_ W_ hs_ => ?_) ?_
    · have q8_ := (hs_.old 8 (by kernel_rfl) : A_.tmps[8]?.getD undef = .pointer (some ⟨w4.heap.size, 0, none⟩))
      have cB3_0 := (HB3_5.out.drew.ext hs_.1).cell 0 rfl
      have cB3_1 := (HB3_5.out.drew.ext hs_.1).cell 1 rfl
      refine Rn.val fun K_ hK_ => ?_
      go_simp
      exact hK_.out _ (Ext.refl _)
    refine RnL.cons (fun g5 A_ W_ hs_ => ?_) ?_
    · have q58_ := hs_.val 8 rfl rfl rfl
      refine Rn.val fun K_ hK_ => ?_
      go_simp
      refine (ofpe_c ⟨qs a.x, qs a.y⟩ _ (HG.out.ext (HX5.out.drew.trans hs_.1)) HAH.out.p).mono ?_; rintro e W9_ ⟨rfl, e9_⟩; exact hK_.out _ e9_
    refine RnL.cons (fun g5 A_ W_ hs_ => ?_) ?_
    · have q57_ := hs_.val 7 rfl rfl rfl
      have q59_ := hs_.val 9 rfl rfl rfl
      refine Rn.val fun K_ hK_ => ?_
      go_simp
      exact hK_.out _ (Ext.refl _)
    refine RnL.cons (fun g5 A_ W_ hs_ => ?_) ?_
    · have q55_ := hs_.val 5 rfl rfl rfl
      have q60_ := hs_.val 10 rfl rfl rfl
      refine Rn.val fun K_ hK_ => ?_
      go_simp
      exact hK_.out _ (Ext.refl _)
    refine RnL.cons (fun g5 A_ W_ hs_ => ?_) ?_
    · have q61_ := hs_.val 11 rfl rfl rfl
      refine Rn.val fun K_ hK_ => ?_
      go_simp
      exact hK_.out _ (Ext.refl _)
    refine RnL.cons (fun g5 A_ W_ hs_ => ?_) ?_
    · have q7_ := (hs_.old 7 (by kernel_rfl) : A_.tmps[7]?.getD undef = .pointer (some ⟨w3.heap.size, 0, none⟩))
      have cB2_0 := (HB2_5.out.drew.ext hs_.1).cell 0 rfl
      have cB2_1 := (HB2_5.out.drew.ext hs_.1).cell 1 rfl
      have cB2_2 := (HB2_5.out.drew.ext hs_.1).cell 2 rfl
      have cB2_3 := (HB2_5.out.drew.ext hs_.1).cell 3 rfl
      refine Rn.val fun K_ hK_ => ?_
      go_simp
      exact hK_.out _ (Ext.refl _)
    refine RnL.cons (fun g5 A_ W_ hs_ => ?_) ?_
    · have q63_ := hs_.val 13 rfl rfl rfl
      refine Rn.val fun K_ hK_ => ?_
      go_simp
      refine (vPlane_ok ⟨a, q⟩ _ (HG.out.ext (HX5.out.drew.trans hs_.1)) HA.out HQ.out HZ.out).mono ?_; rintro e W9_ ⟨rfl, e9_⟩; exact hK_.out _ e9_
    refine RnL.cons (fun g5 A_ W_ hs_ => ?_) ?_
    · have q7_ := (hs_.old 7 (by kernel_rfl) : A_.tmps[7]?.getD undef = .pointer (some ⟨w3.heap.size, 0, none⟩))
      have cB2_0 := (HB2_5.out.drew.ext hs_.1).cell 0 rfl
      have cB2_1 := (HB2_5.out.drew.ext hs_.1).cell 1 rfl
      have cB2_2 := (HB2_5.out.drew.ext hs_.1).cell 2 rfl
      have cB2_3 := (HB2_5.out.drew.ext hs_.1).cell 3 rfl
      refine Rn.val fun K_ hK_ => ?_
      go_simp
      exact hK_.out _ (Ext.refl _)
    refine RnL.cons (fun g5 A_ W_ hs_ => ?_) ?_
    · have q65_ := hs_.val 15 rfl rfl rfl
      refine Rn.val fun K_ hK_ => ?_
      go_simp
      refine (scp_n ⟨a, q⟩ _ (HG.out.ext (HX5.out.drew.trans hs_.1)) HA.out HQ.out HZ.out).mono ?_; rintro e W9_ ⟨rfl, e9_⟩; exact hK_.out _ e9_
    refine RnL.cons (fun g5 A_ W_ hs_ => ?_) ?_
    · have q64_ := hs_.val 14 rfl rfl rfl
      have q66_ := hs_.val 16 rfl rfl rfl
      refine Rn.val fun K_ hK_ => ?_
      go_simp
      exact hK_.out _ (Ext.refl _)
    refine RnL.cons (fun g5 A_ W_ hs_ => ?_) ?_
    · have q62_ := hs_.val 12 rfl rfl rfl
      have q67_ := hs_.val 17 rfl rfl rfl
      refine Rn.val fun K_ hK_ => ?_
      go_simp
      exact hK_.out _ (Ext.refl _)
    exact RnL.nil
  simp only [fs, Kd.value, puts, Act.put, List.setIfInBounds_toArray, List.set_cons_zero, List.set_cons_succ]
  have HX6 : Hid (Ext w w6) := Lib.hid (HX5.out.drew.trans hx_)
  have HB0_6 := Lib.hid (HB0_5.out.drew.ext hx_)
  have HB1_6 := Lib.hid (HB1_5.out.drew.ext hx_)
  have HB2_6 := Lib.hid (HB2_5.out.drew.ext hx_)
  clear hx_ hm_ hne_
  go_wp2_with fail
  refine wp_name (fun W => Ext w W ∧ Blk W (w.heap.size) #[.string (qs a.x), .string (qs a.y), .string (qs a.z)] 30 ∧ Blk W (w.heap.size + 1) #[.string b.x, .string b.y, .string b.z] 30 ∧ Blk W (w3.heap.size) #[.string (qs a.x), .string (qs a.y), .string (qs a.z), .string (qs q)] 48) ⟨HX6.out, HB0_6.out, HB1_6.out, HB2_6.out⟩ ?_
  rintro w7 ⟨e7, bB0_7, bB1_7, bB2_7⟩
  have HX7 := Lib.hid e7; have HB0_7 := Lib.hid bB0_7; have HB1_7 := Lib.hid bB1_7; have HB2_7 := Lib.hid bB2_7
  clear e7 bB0_7 bB1_7 bB2_7
  refine region_lin [.val (.agg #[.string (qs a.x), .string (qs a.y), .string (qs a.z)]), .val (.int .i64 0), .val (.agg #[.string b.x, .string b.y, .string b.z]), .val (.int .i64 2), .mem (fun b_ => .slice (some ⟨b_, 0, none⟩) 2 2) #[.int .i64 0, .int .i64 2] 32 Option.none, .val (.int .i64 2), .val (.int .i64 2)] (by kernel_rfl) (by kernel_rfl) (by kernel_rfl) ?_ (fun g7 w8 hx_ hm_ hne_ => ?_)
  · skip
    refine RnL.cons (fun g7 A_ W_ hs_ => ?_) ?_
    · have q3_ := (hs_.old 3 (by kernel_rfl) : A_.tmps[3]?.getD undef = .pointer (some ⟨w.heap.size, 0, none⟩))
      have cB0_0 := (HB0_7.out.drew.ext hs_.1).cell 0 rfl
      have cB0_1 := (HB0_7.out.drew.ext hs_.1).cell 1 rfl
      have cB0_2 := (HB0_7.out.drew.ext hs_.1).cell 2 rfl
      refine Rn.val fun K_ hK_ => ?_
      go_simp
      exact hK_.out _ (Ext.refl _)
    refine RnL.cons (fun g7 A_ W_ hs_ => ?_) ?_
    · have q69_ := hs_.val 0 rfl rfl rfl
      refine Rn.val fun K_ hK_ => ?_
      go_simp
      refine (of_0 ⟨qs a.x, qs a.y, qs a.z⟩ _ (HG.out.ext (HX7.out.drew.trans hs_.1)) HAH.out.ts HA.out.all).mono ?_; rintro e W9_ ⟨rfl, e9_⟩; exact hK_.out _ e9_
    refine RnL.cons (fun g7 A_ W_ hs_ => ?_) ?_
    · have q4_ := (hs_.old 4 (by kernel_rfl) : A_.tmps[4]?.getD undef = .pointer (some ⟨w.heap.size + 1, 0, none⟩))
      have cB1_0 := (HB1_7.out.drew.ext hs_.1).cell 0 rfl
      have cB1_1 := (HB1_7.out.drew.ext hs_.1).cell 1 rfl
      have cB1_2 := (HB1_7.out.drew.ext hs_.1).cell 2 rfl
      refine Rn.val fun K_ hK_ => ?_
      go_simp
      exact hK_.out _ (Ext.refl _)
    refine RnL.cons (fun g7 A_ W_ hs_ => ?_) ?_
    · have q71_ := hs_.val 2 rfl rfl rfl
      refine Rn.val fun K_ hK_ => ?_
      go_simp
      refine (of_2 b _ (HG.out.ext (HX7.out.drew.trans hs_.1)) HBH.out.ts HBW.out).mono ?_; rintro e W9_ ⟨rfl, e9_⟩; exact hK_.out _ e9_
    refine RnL.cons (fun g7 A_ W_ hs_ => ?_) ?_
    · have q70_ := hs_.val 1 rfl rfl rfl
      have q72_ := hs_.val 3 rfl rfl rfl
      refine Rn.mem fun K_ hK_ => ?_
      go_simp
      exact hK_.out
    refine RnL.cons (fun g7 A_ W_ hs_ => ?_) ?_
    · have q73_ := (hs_.mem 4 rfl rfl rfl).1
      refine Rn.val fun K_ hK_ => ?_
      go_simp
      refine (((by decide : ferr [0, 2] = 2) ▸ first2_c 0 2 (g7 4) _ ((hs_.mem 4 rfl rfl rfl).2.2 rfl))).mono ?_; rintro e _ ⟨rfl, rfl⟩; exact hK_.out _ (Ext.refl _)
    refine RnL.cons (fun g7 A_ W_ hs_ => ?_) ?_
    · have q74_ := hs_.val 5 rfl rfl rfl
      refine Rn.val fun K_ hK_ => ?_
      go_simp
      exact hK_.out _ (Ext.refl _)
    exact RnL.nil
  simp only [fs, Kd.value, puts, Act.put, List.setIfInBounds_toArray, List.set_cons_zero, List.set_cons_succ, Nat.reduceAdd]
  have HX8 : Hid (Ext w w8) := Lib.hid (HX7.out.drew.trans hx_)
  have HB0_8 := Lib.hid (HB0_7.out.drew.ext hx_)
  have HB1_8 := Lib.hid (HB1_7.out.drew.ext hx_)
  have HB2_8 := Lib.hid (HB2_7.out.drew.ext hx_)
  have HB4_8 : Hid (Blk w8 (g7 4) #[.int .i64 0, .int .i64 2] 32) := Lib.hid (hm_ 4 _ _ _ _ rfl).2; have HGEB4 : Hid (w.heap.size ≤ g7 4) := Lib.hid (Nat.le_trans HX7.out.size (hm_ 4 _ _ _ _ rfl).1)
  have HNEB0B4 : Hid (w.heap.size ≠ g7 4) := Lib.hid (Nat.ne_of_lt (Nat.lt_of_lt_of_le HB0_7.out.lt (hm_ 4 _ _ _ _ rfl).1))
  have HNEB1B4 : Hid (w.heap.size + 1 ≠ g7 4) := Lib.hid (Nat.ne_of_lt (Nat.lt_of_lt_of_le HB1_7.out.lt (hm_ 4 _ _ _ _ rfl).1))
  have HNEB2B4 : Hid (w3.heap.size ≠ g7 4) := Lib.hid (Nat.ne_of_lt (Nat.lt_of_lt_of_le HB2_7.out.lt (hm_ 4 _ _ _ _ rfl).1))
  clear hx_ hm_ hne_
  generalize g7 4 = i4 at *
  clear g7
  have c0_0 := HB0_8.out.cell 0 rfl
  have c0_1 := HB0_8.out.cell 1 rfl
  have c0_2 := HB0_8.out.cell 2 rfl
  have c1_0 := HB1_8.out.cell 0 rfl
  have c1_1 := HB1_8.out.cell 1 rfl
  have c1_2 := HB1_8.out.cell 2 rfl
  go_wp2_with fail
  refine (vAdd_err ⟨qs a.x, qs a.y, qs a.z⟩ b _ (HG.out.ext HX8.out) HAH.out.ts HBH.out.ts (verr_2b HBW.out)).mono ?_; rintro e w9 ⟨rfl, e9⟩
  have HX9 : Hid (Ext w w9) := Lib.hid (HX8.out.trans e9)
  have HB0_9 := Lib.hid (Blk.ext HB0_8.out e9)
  have HB1_9 := Lib.hid (Blk.ext HB1_8.out e9)
  have HB2_9 := Lib.hid (Blk.ext HB2_8.out e9)
  clear e9 c0_0 c0_1 c0_2 c1_0 c1_1 c1_2
  go_upto_region 10 with fail
  refine wp_name (fun W => Ext w W ∧ Blk W (w.heap.size) #[.string (qs a.x), .string (qs a.y), .string (qs a.z)] 30 ∧ Blk W (w.heap.size + 1) #[.string b.x, .string b.y, .string b.z] 30 ∧ Blk W (w3.heap.size) #[.string (qs a.x), .string (qs a.y), .string (qs a.z), .string (qs q)] 48 ∧ Blk W (w9.heap.size) #[.string ⟨#[]⟩, .string ⟨#[]⟩, .string ⟨#[]⟩] 30) ⟨(HX9.out.alloc _), (HB0_9.out.alloc _), (HB1_9.out.alloc _), (HB2_9.out.alloc _), (Blk.new' (w := _) (cs := #[.string ⟨#[]⟩, .string ⟨#[]⟩, .string ⟨#[]⟩]) (t := 30) (by first | rfl | (simp only [World.size_alloc]; done) | (simp only [World.size_alloc]; omega) | simp))⟩ ?_
  rintro w10 ⟨e10, bB0_10, bB1_10, bB2_10, bB5_10⟩
  have HX10 := Lib.hid e10; have HB0_10 := Lib.hid bB0_10; have HB1_10 := Lib.hid bB1_10; have HB2_10 := Lib.hid bB2_10; have HB5_10 := Lib.hid bB5_10
  have HGEB5 : Hid (w.heap.size ≤ w9.heap.size) := Lib.hid (by have := HX9.out.size; first | omega | (simp only []; omega) | (simp; omega))
  clear e10 bB0_10 bB1_10 bB2_10 bB5_10
  have c0_0 := HB0_10.out.cell 0 rfl
  have c0_1 := HB0_10.out.cell 1 rfl
  have c0_2 := HB0_10.out.cell 2 rfl
  have c1_0 := HB1_10.out.cell 0 rfl
  have c1_1 := HB1_10.out.cell 1 rfl
  have c1_2 := HB1_10.out.cell 2 rfl
  go_wp2_with fail
  refine (vSub_err ⟨qs a.x, qs a.y, qs a.z⟩ b _ (HG.out.ext HX10.out) HAH.out.ts HBH.out.ts (verr_2b HBW.out)).mono ?_; rintro e w11 ⟨rfl, e11⟩
  have HX11 : Hid (Ext w w11) := Lib.hid (HX10.out.trans e11)
  have HB0_11 := Lib.hid (Blk.ext HB0_10.out e11)
  have HB1_11 := Lib.hid (Blk.ext HB1_10.out e11)
  have HB2_11 := Lib.hid (Blk.ext HB2_10.out e11)
  have HB5_11 := Lib.hid (Blk.ext HB5_10.out e11)
  clear e11 c0_0 c0_1 c0_2 c1_0 c1_1 c1_2
  go_upto_region 11 with fail
  refine wp_name (fun W => Ext w W ∧ Blk W (w.heap.size) #[.string (qs a.x), .string (qs a.y), .string (qs a.z)] 30 ∧ Blk W (w.heap.size + 1) #[.string b.x, .string b.y, .string b.z] 30 ∧ Blk W (w3.heap.size) #[.string (qs a.x), .string (qs a.y), .string (qs a.z), .string (qs q)] 48 ∧ Blk W (w9.heap.size) #[.string ⟨#[]⟩, .string ⟨#[]⟩, .string ⟨#[]⟩] 30 ∧ Blk W (w11.heap.size) #[.string ⟨#[]⟩, .string ⟨#[]⟩, .string ⟨#[]⟩] 30) ⟨(HX11.out.alloc _), (HB0_11.out.alloc _), (HB1_11.out.alloc _), (HB2_11.out.alloc _), (HB5_11.out.alloc _), (Blk.new' (w := _) (cs := #[.string ⟨#[]⟩, .string ⟨#[]⟩, .string ⟨#[]⟩]) (t := 30) (by first | rfl | (simp only [World.size_alloc]; done) | (simp only [World.size_alloc]; omega) | simp))⟩ ?_
  rintro w12 ⟨e12, bB0_12, bB1_12, bB2_12, bB5_12, bB6_12⟩
  have HX12 := Lib.hid e12; have HB0_12 := Lib.hid bB0_12; have HB1_12 := Lib.hid bB1_12; have HB2_12 := Lib.hid bB2_12; have HB5_12 := Lib.hid bB5_12; have HB6_12 := Lib.hid bB6_12
  have HGEB6 : Hid (w.heap.size ≤ w11.heap.size) := Lib.hid (by have := HX11.out.size; first | omega | (simp only []; omega) | (simp; omega))
  clear e12 bB0_12 bB1_12 bB2_12 bB5_12 bB6_12
  have c0_0 := HB0_12.out.cell 0 rfl
  have c0_1 := HB0_12.out.cell 1 rfl
  have c0_2 := HB0_12.out.cell 2 rfl
  have c1_0 := HB1_12.out.cell 0 rfl
  have c1_1 := HB1_12.out.cell 1 rfl
  have c1_2 := HB1_12.out.cell 2 rfl
  go_wp2_with fail
  refine (vDot_err ⟨qs a.x, qs a.y, qs a.z⟩ b _ (HG.out.ext HX12.out) HAH.out.ts HBH.out.ts (verr_2b HBW.out)).mono ?_; rintro e w13 ⟨rfl, e13⟩
  have HX13 : Hid (Ext w w13) := Lib.hid (HX12.out.trans e13)
  have HB0_13 := Lib.hid (Blk.ext HB0_12.out e13)
  have HB1_13 := Lib.hid (Blk.ext HB1_12.out e13)
  have HB2_13 := Lib.hid (Blk.ext HB2_12.out e13)
  have HB5_13 := Lib.hid (Blk.ext HB5_12.out e13)
  have HB6_13 := Lib.hid (Blk.ext HB6_12.out e13)
  clear e13 c0_0 c0_1 c0_2 c1_0 c1_1 c1_2
  have c0_0 := HB0_13.out.cell 0 rfl
  have c0_1 := HB0_13.out.cell 1 rfl
  have c0_2 := HB0_13.out.cell 2 rfl
  have c1_0 := HB1_13.out.cell 0 rfl
  have c1_1 := HB1_13.out.cell 1 rfl
  have c1_2 := HB1_13.out.cell 2 rfl
  go_wp2_with fail
  refine (vCross_err ⟨qs a.x, qs a.y, qs a.z⟩ b _ (HG.out.ext HX13.out) HAH.out.ts HBH.out.ts (verr_2b HBW.out)).mono ?_; rintro e w14 ⟨rfl, e14⟩
  have HX14 : Hid (Ext w w14) := Lib.hid (HX13.out.trans e14)
  have HB0_14 := Lib.hid (Blk.ext HB0_13.out e14)
  have HB1_14 := Lib.hid (Blk.ext HB1_13.out e14)
  have HB2_14 := Lib.hid (Blk.ext HB2_13.out e14)
  have HB5_14 := Lib.hid (Blk.ext HB5_13.out e14)
  have HB6_14 := Lib.hid (Blk.ext HB6_13.out e14)
  clear e14 c0_0 c0_1 c0_2 c1_0 c1_1 c1_2
  go_upto_region 13 with fail
  refine wp_name (fun W => Ext w W ∧ Blk W (w.heap.size) #[.string (qs a.x), .string (qs a.y), .string (qs a.z)] 30 ∧ Blk W (w.heap.size + 1) #[.string b.x, .string b.y, .string b.z] 30 ∧ Blk W (w3.heap.size) #[.string (qs a.x), .string (qs a.y), .string (qs a.z), .string (qs q)] 48 ∧ Blk W (w9.heap.size) #[.string ⟨#[]⟩, .string ⟨#[]⟩, .string ⟨#[]⟩] 30 ∧ Blk W (w11.heap.size) #[.string ⟨#[]⟩, .string ⟨#[]⟩, .string ⟨#[]⟩] 30 ∧ Blk W (w14.heap.size) #[.string ⟨#[]⟩, .string ⟨#[]⟩, .string ⟨#[]⟩] 30) ⟨(HX14.out.alloc _), (HB0_14.out.alloc _), (HB1_14.out.alloc _), (HB2_14.out.alloc _), (HB5_14.out.alloc _), (HB6_14.out.alloc _), (Blk.new' (w := _) (cs := #[.string ⟨#[]⟩, .string ⟨#[]⟩, .string ⟨#[]⟩]) (t := 30) (by first | rfl | (simp only [World.size_alloc]; done) | (simp only [World.size_alloc]; omega) | simp))⟩ ?_
  rintro w15 ⟨e15, bB0_15, bB1_15, bB2_15, bB5_15, bB6_15, bB7_15⟩
  have HX15 := Lib.hid e15; have HB0_15 := Lib.hid bB0_15; have HB1_15 := Lib.hid bB1_15; have HB2_15 := Lib.hid bB2_15; have HB5_15 := Lib.hid bB5_15; have HB6_15 := Lib.hid bB6_15; have HB7_15 := Lib.hid bB7_15
  have HGEB7 : Hid (w.heap.size ≤ w14.heap.size) := Lib.hid (by have := HX14.out.size; first | omega | (simp only []; omega) | (simp; omega))
  clear e15 bB0_15 bB1_15 bB2_15 bB5_15 bB6_15 bB7_15
  have c0_0 := HB0_15.out.cell 0 rfl
  have c0_1 := HB0_15.out.cell 1 rfl
  have c0_2 := HB0_15.out.cell 2 rfl
  have c1_0 := HB1_15.out.cell 0 rfl
  have c1_1 := HB1_15.out.cell 1 rfl
  have c1_2 := HB1_15.out.cell 2 rfl
  go_wp2_with fail
  refine (vParallel_err ⟨qs a.x, qs a.y, qs a.z⟩ b _ (HG.out.ext HX15.out) HAH.out.ts HBH.out.ts (verr_2b HBW.out)).mono ?_; rintro e w16 ⟨rfl, e16⟩
  have HX16 : Hid (Ext w w16) := Lib.hid (HX15.out.trans e16)
  have HB0_16 := Lib.hid (Blk.ext HB0_15.out e16)
  have HB1_16 := Lib.hid (Blk.ext HB1_15.out e16)
  have HB2_16 := Lib.hid (Blk.ext HB2_15.out e16)
  have HB5_16 := Lib.hid (Blk.ext HB5_15.out e16)
  have HB6_16 := Lib.hid (Blk.ext HB6_15.out e16)
  have HB7_16 := Lib.hid (Blk.ext HB7_15.out e16)
  clear e16 c0_0 c0_1 c0_2 c1_0 c1_1 c1_2
  have c5_0 := HB5_16.out.cell 0 rfl
  have c5_1 := HB5_16.out.cell 1 rfl
  have c5_2 := HB5_16.out.cell 2 rfl
  have c6_0 := HB6_16.out.cell 0 rfl
  have c6_1 := HB6_16.out.cell 1 rfl
  have c6_2 := HB6_16.out.cell 2 rfl
  have c7_0 := HB7_16.out.cell 0 rfl
  have c7_1 := HB7_16.out.cell 1 rfl
  have c7_2 := HB7_16.out.cell 2 rfl
  go_wp2_with fail
  refine wp_name (fun W => Ext w W ∧ Blk W (w.heap.size) #[.string (qs a.x), .string (qs a.y), .string (qs a.z)] 30 ∧ Blk W (w.heap.size + 1) #[.string b.x, .string b.y, .string b.z] 30 ∧ Blk W (w3.heap.size) #[.string (qs a.x), .string (qs a.y), .string (qs a.z), .string (qs q)] 48) ⟨HX16.out, HB0_16.out, HB1_16.out, HB2_16.out⟩ ?_
  rintro w17 ⟨e17, bB0_17, bB1_17, bB2_17⟩
  have HX17 := Lib.hid e17; have HB0_17 := Lib.hid bB0_17; have HB1_17 := Lib.hid bB1_17; have HB2_17 := Lib.hid bB2_17
  clear e17 bB0_17 bB1_17 bB2_17 c5_0 c5_1 c5_2 c6_0 c6_1 c6_2 c7_0 c7_1 c7_2
  refine region_lin [.val (.agg #[.string (qs a.x), .string (qs a.y), .string (qs a.z), .string (qs q)]), .val (.int .i64 0), .val (.agg #[.string b.x, .string b.y, .string b.z]), .val (.int .i64 2), .mem (fun b_ => .slice (some ⟨b_, 0, none⟩) 2 2) #[.int .i64 0, .int .i64 2] 32 Option.none, .val (.int .i64 2), .val (.int .i64 2)] (by kernel_rfl) (by kernel_rfl) (by kernel_rfl) ?_ (fun g17 w18 hx_ hm_ hne_ => ?_)
  · skip
    refine RnL.cons (fun g17 A_ W_ hs_ => ?_) ?_
    · have q7_ := (hs_.old 7 (by kernel_rfl) : A_.tmps[7]?.getD undef = .pointer (some ⟨w3.heap.size, 0, none⟩))
      have cB2_0 := (HB2_17.out.drew.ext hs_.1).cell 0 rfl
      have cB2_1 := (HB2_17.out.drew.ext hs_.1).cell 1 rfl
      have cB2_2 := (HB2_17.out.drew.ext hs_.1).cell 2 rfl
      have cB2_3 := (HB2_17.out.drew.ext hs_.1).cell 3 rfl
      refine Rn.val fun K_ hK_ => ?_
      go_simp
      exact hK_.out _ (Ext.refl _)
    refine RnL.cons (fun g17 A_ W_ hs_ => ?_) ?_
    · have q152_ := hs_.val 0 rfl rfl rfl
      refine Rn.val fun K_ hK_ => ?_
      go_simp
      refine (scp_n ⟨a, q⟩ _ (HG.out.ext (HX17.out.drew.trans hs_.1)) HA.out HQ.out HZ.out).mono ?_; rintro e W9_ ⟨rfl, e9_⟩; exact hK_.out _ e9_
    refine RnL.cons (fun g17 A_ W_ hs_ => ?_) ?_
    · have q4_ := (hs_.old 4 (by kernel_rfl) : A_.tmps[4]?.getD undef = .pointer (some ⟨w.heap.size + 1, 0, none⟩))
      have cB1_0 := (HB1_17.out.drew.ext hs_.1).cell 0 rfl
      have cB1_1 := (HB1_17.out.drew.ext hs_.1).cell 1 rfl
      have cB1_2 := (HB1_17.out.drew.ext hs_.1).cell 2 rfl
      refine Rn.val fun K_ hK_ => ?_
      go_simp
      exact hK_.out _ (Ext.refl _)
    refine RnL.cons (fun g17 A_ W_ hs_ => ?_) ?_
    · have q154_ := hs_.val 2 rfl rfl rfl
      refine Rn.val fun K_ hK_ => ?_
      go_simp
      refine (of_2 b _ (HG.out.ext (HX17.out.drew.trans hs_.1)) HBH.out.ts HBW.out).mono ?_; rintro e W9_ ⟨rfl, e9_⟩; exact hK_.out _ e9_
    refine RnL.cons (fun g17 A_ W_ hs_ => ?_) ?_
    · have q153_ := hs_.val 1 rfl rfl rfl
      have q155_ := hs_.val 3 rfl rfl rfl
      refine Rn.mem fun K_ hK_ => ?_
      go_simp
      exact hK_.out
    refine RnL.cons (fun g17 A_ W_ hs_ => ?_) ?_
    · have q156_ := (hs_.mem 4 rfl rfl rfl).1
      refine Rn.val fun K_ hK_ => ?_
      go_simp
      refine (((by decide : ferr [0, 2] = 2) ▸ first2_c 0 2 (g17 4) _ ((hs_.mem 4 rfl rfl rfl).2.2 rfl))).mono ?_; rintro e _ ⟨rfl, rfl⟩; exact hK_.out _ (Ext.refl _)
    refine RnL.cons (fun g17 A_ W_ hs_ => ?_) ?_
    · have q157_ := hs_.val 5 rfl rfl rfl
      refine Rn.val fun K_ hK_ => ?_
      go_simp
      exact hK_.out _ (Ext.refl _)
    exact RnL.nil
  simp only [fs, Kd.value, puts, Act.put, List.setIfInBounds_toArray, List.set_cons_zero, List.set_cons_succ, Nat.reduceAdd]
  have HX18 : Hid (Ext w w18) := Lib.hid (HX17.out.drew.trans hx_)
  have HB0_18 := Lib.hid (HB0_17.out.drew.ext hx_)
  have HB1_18 := Lib.hid (HB1_17.out.drew.ext hx_)
  have HB2_18 := Lib.hid (HB2_17.out.drew.ext hx_)
  have HB8_18 : Hid (Blk w18 (g17 4) #[.int .i64 0, .int .i64 2] 32) := Lib.hid (hm_ 4 _ _ _ _ rfl).2; have HGEB8 : Hid (w.heap.size ≤ g17 4) := Lib.hid (Nat.le_trans HX17.out.size (hm_ 4 _ _ _ _ rfl).1)
  have HNEB0B8 : Hid (w.heap.size ≠ g17 4) := Lib.hid (Nat.ne_of_lt (Nat.lt_of_lt_of_le HB0_17.out.lt (hm_ 4 _ _ _ _ rfl).1))
  have HNEB1B8 : Hid (w.heap.size + 1 ≠ g17 4) := Lib.hid (Nat.ne_of_lt (Nat.lt_of_lt_of_le HB1_17.out.lt (hm_ 4 _ _ _ _ rfl).1))
  have HNEB2B8 : Hid (w3.heap.size ≠ g17 4) := Lib.hid (Nat.ne_of_lt (Nat.lt_of_lt_of_le HB2_17.out.lt (hm_ 4 _ _ _ _ rfl).1))
  clear hx_ hm_ hne_
  generalize g17 4 = i8 at *
  clear g17
  have c2_0 := HB2_18.out.cell 0 rfl
  have c2_1 := HB2_18.out.cell 1 rfl
  have c2_2 := HB2_18.out.cell 2 rfl
  have c2_3 := HB2_18.out.cell 3 rfl
  have c1_0 := HB1_18.out.cell 0 rfl
  have c1_1 := HB1_18.out.cell 1 rfl
  have c1_2 := HB1_18.out.cell 2 rfl
  go_wp2_with fail
  refine (vSide_b ⟨a, q⟩ b _ (HG.out.ext HX18.out) HA.out HQ.out HZ.out HBH.out.ts (terr_2 HBW.out)).mono ?_; rintro e w19 ⟨rfl, e19⟩
  have HX19 : Hid (Ext w w19) := Lib.hid (HX18.out.trans e19)
  have HB0_19 := Lib.hid (Blk.ext HB0_18.out e19)
  clear e19 c2_0 c2_1 c2_2 c2_3 c1_0 c1_1 c1_2
  have c0_0 := HB0_19.out.cell 0 rfl
  have c0_1 := HB0_19.out.cell 1 rfl
  have c0_2 := HB0_19.out.cell 2 rfl
  go_wp2_with fail
  refine (of_0 ⟨qs a.x, qs a.y, qs a.z⟩ _ (HG.out.ext HX19.out) HAH.out.ts HA.out.all).mono ?_; rintro e w20 ⟨rfl, e20⟩
  have HX20 : Hid (Ext w w20) := Lib.hid (HX19.out.trans e20)
  clear e20 c0_0 c0_1 c0_2
  go_wp2_with fail
  refine (fright_yes (qs q) _ (HG.out.ext HX20.out) HKS.out (rq_qs HQ.out)).mono ?_; rintro e w21 ⟨rfl, e21⟩
  have HX21 : Hid (Ext w w21) := Lib.hid (HX20.out.trans e21)
  clear e21
  go_wp2
  go_ret
  exact ⟨rfl, HX21.out⟩

set_option maxRecDepth 100000 in
set_option maxHeartbeats 16000000 in
theorem errors_W4 (a : V3) (b : T3) (q : Rat) (w : World) (g : Gd w) (hah : SH ⟨qs a.x, qs a.y, qs a.z⟩) (hbh : SH b) (hk : (qs q).size ≤ 40) (ha : VB 200 a) (hbw : b.l.all rq = false) (hq : QB 200 q) (hz : a.x = 0 ∧ a.y = 0 ∧ a.z = 0) : Calls Tryz.prog 10 #[.agg #[.string (qs a.x), .string (qs a.y), .string (qs a.z)], .agg #[.string b.x, .string b.y, .string b.z], .string (qs q)] w (Ret w (.bool true)) := by
  have HAH := Lib.hid hah
  have HBH := Lib.hid hbh
  have HA := Lib.hid ha
  have HBW := Lib.hid hbw
  have HQ := Lib.hid hq
  have HZ := Lib.hid hz
  have HG := Lib.hid g
  clear hah hbh ha hbw hq hz g
  have HKS : Hid ((qs q).size ≤ 1000000) := Lib.hid (Nat.le_trans hk (by decide))
  have tk : decide ((40 : Int) < ((qs q).size : Int)) = false := decide_eq_false (by omega)
  go_enter Tryz.func10, Tryz.ntmps10
  go_wp2_with fail
  refine (known_c _ (HG.out.ext (((Ext.refl w).alloc _).alloc _))).mono ?_; rintro e w1 ⟨rfl, e1⟩
  have HX1 : Hid (Ext w w1) := Lib.hid ((((Ext.refl w).alloc _).alloc _).trans e1)
  have HB0_1 : Hid (Blk w1 (w.heap.size) #[.string (qs a.x), .string (qs a.y), .string (qs a.z)] 30) := Lib.hid (Blk.ext ((Blk.new' (w := _) (cs := #[.string (qs a.x), .string (qs a.y), .string (qs a.z)]) (t := 30) (by first | rfl | (simp only [World.size_alloc]; done) | (simp only [World.size_alloc]; omega) | simp)).alloc _) e1)
  have HB1_1 : Hid (Blk w1 (w.heap.size + 1) #[.string b.x, .string b.y, .string b.z] 30) := Lib.hid (Blk.ext (Blk.new' (w := _) (cs := #[.string b.x, .string b.y, .string b.z]) (t := 30) (by first | rfl | (simp only [World.size_alloc]; done) | (simp only [World.size_alloc]; omega) | simp)) e1)
  have HGEB0 : Hid (w.heap.size ≤ w.heap.size) := Lib.hid (by first | omega | (simp only []; omega) | (simp; omega))
  have HGEB1 : Hid (w.heap.size ≤ w.heap.size + 1) := Lib.hid (by first | omega | (simp only []; omega) | (simp; omega))
  clear e1
  have c0_0 := HB0_1.out.cell 0 rfl
  have c0_1 := HB0_1.out.cell 1 rfl
  have c0_2 := HB0_1.out.cell 2 rfl
  go_wp2_with fail
  refine (short_3 ⟨qs a.x, qs a.y, qs a.z⟩ _ HAH.out.x HAH.out.y HAH.out.z).mono ?_; rintro e w2 ⟨rfl, e2⟩
  have HX2 : Hid (Ext w w2) := Lib.hid (HX1.out.trans e2)
  have HB0_2 := Lib.hid (Blk.ext HB0_1.out e2)
  have HB1_2 := Lib.hid (Blk.ext HB1_1.out e2)
  clear e2 c0_0 c0_1 c0_2
  have c1_0 := HB1_2.out.cell 0 rfl
  have c1_1 := HB1_2.out.cell 1 rfl
  have c1_2 := HB1_2.out.cell 2 rfl
  go_wp2_with fail
  refine (short_3 b _ HBH.out.x HBH.out.y HBH.out.z).mono ?_; rintro e w3 ⟨rfl, e3⟩
  have HX3 : Hid (Ext w w3) := Lib.hid (HX2.out.trans e3)
  have HB0_3 := Lib.hid (Blk.ext HB0_2.out e3)
  have HB1_3 := Lib.hid (Blk.ext HB1_2.out e3)
  clear e3 c1_0 c1_1 c1_2
  have c0_0 := HB0_3.out.cell 0 rfl
  have c0_1 := HB0_3.out.cell 1 rfl
  have c0_2 := HB0_3.out.cell 2 rfl
  go_upto_region 4 with fail
  refine wp_name (fun W => Ext w W ∧ Blk W (w.heap.size) #[.string (qs a.x), .string (qs a.y), .string (qs a.z)] 30 ∧ Blk W (w.heap.size + 1) #[.string b.x, .string b.y, .string b.z] 30 ∧ Blk W (w3.heap.size) #[.string (qs a.x), .string (qs a.y), .string (qs a.z), .string (qs q)] 48) ⟨(HX3.out.alloc _), (HB0_3.out.alloc _), (HB1_3.out.alloc _), (Blk.new' (w := _) (cs := #[.string (qs a.x), .string (qs a.y), .string (qs a.z), .string (qs q)]) (t := 48) (by first | rfl | (simp only [World.size_alloc]; done) | (simp only [World.size_alloc]; omega) | simp))⟩ ?_
  rintro w4 ⟨e4, bB0_4, bB1_4, bB2_4⟩
  have HX4 := Lib.hid e4; have HB0_4 := Lib.hid bB0_4; have HB1_4 := Lib.hid bB1_4; have HB2_4 := Lib.hid bB2_4
  have HGEB2 : Hid (w.heap.size ≤ w3.heap.size) := Lib.hid (by have := HX3.out.size; first | omega | (simp only []; omega) | (simp; omega))
  clear e4 bB0_4 bB1_4 bB2_4 c0_0 c0_1 c0_2
  have c0_0 := HB0_4.out.cell 0 rfl
  have c0_1 := HB0_4.out.cell 1 rfl
  go_wp2_with fail
  refine wp_name (fun W => Ext w W ∧ Blk W (w.heap.size) #[.string (qs a.x), .string (qs a.y), .string (qs a.z)] 30 ∧ Blk W (w.heap.size + 1) #[.string b.x, .string b.y, .string b.z] 30 ∧ Blk W (w3.heap.size) #[.string (qs a.x), .string (qs a.y), .string (qs a.z), .string (qs q)] 48 ∧ Blk W (w4.heap.size) #[.string (qs a.x), .string (qs a.y)] 62) ⟨(HX4.out.alloc _), (HB0_4.out.alloc _), (HB1_4.out.alloc _), (HB2_4.out.alloc _), (Blk.new' (w := _) (cs := #[.string (qs a.x), .string (qs a.y)]) (t := 62) (by first | rfl | (simp only [World.size_alloc]; done) | (simp only [World.size_alloc]; omega) | simp))⟩ ?_
  rintro w5 ⟨e5, bB0_5, bB1_5, bB2_5, bB3_5⟩
  have HX5 := Lib.hid e5; have HB0_5 := Lib.hid bB0_5; have HB1_5 := Lib.hid bB1_5; have HB2_5 := Lib.hid bB2_5; have HB3_5 := Lib.hid bB3_5
  have HGEB3 : Hid (w.heap.size ≤ w4.heap.size) := Lib.hid (by have := HX4.out.size; first | omega | (simp only []; omega) | (simp; omega))
  clear e5 bB0_5 bB1_5 bB2_5 bB3_5 c0_0 c0_1
  refine region_lin [.val (.agg #[.string (qs a.x), .string (qs a.y), .string (qs a.z)]), .val (.int .i64 0), .val (.agg #[.string (qs a.x), .string (qs a.y), .string (qs a.z)]), .val (.int .i64 0), .val (.bool false), .val (.bool false), .val (.agg #[.string (qs a.x), .string (qs a.y)]), .val (.int .i64 (terr (T2.l ⟨qs a.x, qs a.y⟩))), .val (.agg #[.string (qs a.x), .string (qs a.y)]), .val (.int .i64 (terr (T2.l ⟨qs a.x, qs a.y⟩))), .val (.bool false), .val (.bool false), .val (.bool false), .val (.agg #[.string (qs a.x), .string (qs a.y), .string (qs a.z), .string (qs q)]), .val (.int .i64 17), .val (.agg #[.string (qs a.x), .string (qs a.y), .string (qs a.z), .string (qs q)]), .val (.int .i64 17), .val (.bool false), .val (.bool false)] (by kernel_rfl) (by kernel_rfl) (by kernel_rfl) ?_ (fun g5 w6 hx_ hm_ hne_ => ?_)
  · skip
    refine RnL.cons (fun g5 A_ W_ hs_ => ?_) ?_
    · have q3_ := (hs_.old 3 (by kernel_rfl) : A_.tmps[3]?.getD undef = .pointer (some ⟨w.heap.size, 0, none⟩))
      have cB0_0 := (HB0_5.out.drew.ext hs_.1).cell 0 rfl
      have cB0_1 := (HB0_5.out.drew.ext hs_.1).cell 1 rfl
      have cB0_2 := (HB0_5.out.drew.ext hs_.1).cell 2 rfl
      refine Rn.val fun K_ hK_ => ?_
      go_simp
      exact hK_.out _ (Ext.refl _)
    refine RnL.cons (fun g5 A_ W_ hs_ => ?_) ?_
    · have q50_ := hs_.val 0 rfl rfl rfl
      refine Rn.val fun K_ hK_ => ?_
      go_simp
      refine (vCheck_ok a _ (HG.out.ext (HX5.out.drew.trans hs_.1)) HA.out).mono ?_; rintro e W9_ ⟨rfl, e9_⟩; exact hK_.out _ e9_
    refine RnL.cons (fun g5 A_ W_ hs_ => ?_) ?_
    · have q3_ := (hs_.old 3 (by kernel_rfl) : A_.tmps[3]?.getD undef = .pointer (some ⟨w.heap.size, 0, none⟩))
      have cB0_0 := (HB0_5.out.drew.ext hs_.1).cell 0 rfl
      have cB0_1 := (HB0_5.out.drew.ext hs_.1).cell 1 rfl
      have cB0_2 := (HB0_5.out.drew.ext hs_.1).cell 2 rfl
      refine Rn.val fun K_ hK_ => ?_
      go_simp
      exact hK_.out _ (Ext.refl _)
    refine RnL.cons (fun g5 A_ W_ hs_ => ?_) ?_
    · have q52_ := hs_.val 2 rfl rfl rfl
      refine Rn.val fun K_ hK_ => ?_
      go_simp
      refine (of_0 ⟨qs a.x, qs a.y, qs a.z⟩ _ (HG.out.ext (HX5.out.drew.trans hs_.1)) HAH.out.ts HA.out.all).mono ?_; rintro e W9_ ⟨rfl, e9_⟩; exact hK_.out _ e9_
    refine RnL.cons (fun g5 A_ W_ hs_ => ?_) ?_
    · have q51_ := hs_.val 1 rfl rfl rfl
      have q53_ := hs_.val 3 rfl rfl rfl
      refine Rn.val fun K_ hK_ => ?_
      go_simp
      exact hK_.out _ (Ext.refl _)
    refine RnL.cons (fun g5 A_ W_ hs_ => ?_) ?_
    · have q54_ := hs_.val 4 rfl rfl rfl
      refine Rn.val fun K_ hK_ => ?_
      go_simp
      exact hK_.out _ (Ext.refl _)
    refine RnL.cons (fun g5 A_ W_ hs_ => ?_) ?_
    · have q8_ := (hs_.old 8 (by kernel_rfl) : A_.tmps[8]?.getD undef = .pointer (some ⟨w4.heap.size, 0, none⟩))
      have cB3_0 := (HB3_5.out.drew.ext hs_.1).cell 0 rfl
      have cB3_1 := (HB3_5.out.drew.ext hs_.1).cell 1 rfl
      refine Rn.val fun K_ hK_ => ?_
      go_simp
      exact hK_.out _ (Ext.refl _)
    refine RnL.cons (fun g5 A_ W_ hs_ => ?_) ?_
    · have q56_ := hs_.val 6 rfl rfl rfl
      refine Rn.val fun K_ hK_ => ?_
      go_simp
      refine (vcheckp_c ⟨qs a.x, qs a.y⟩ _ (HG.out.ext (HX5.out.drew.trans hs_.1)) HAH.out.p).mono ?_; rintro e W9_ ⟨rfl, e9_⟩; exact hK_.out _ e9_
    refine RnL.cons (fun g5 A_ W_ hs_ => ?_) ?_
    · have q8_ := (hs_.old 8 (by kernel_rfl) : A_.tmps[8]?.getD undef = .pointer (some ⟨w4.heap.size, 0, none⟩))
      have cB3_0 := (HB3_5.out.drew.ext hs_.1).cell 0 rfl
      have cB3_1 := (HB3_5.out.drew.ext hs_.1).cell 1 rfl
      refine Rn.val fun K_ hK_ => ?_
      go_simp
      exact hK_.out _ (Ext.refl _)
    refine RnL.cons (fun g5 A_ W_ hs_ => ?_) ?_
    · have q58_ := hs_.val 8 rfl rfl rfl
      refine Rn.val fun K_ hK_ => ?_
      go_simp
      refine (ofpe_c ⟨qs a.x, qs a.y⟩ _ (HG.out.ext (HX5.out.drew.trans hs_.1)) HAH.out.p).mono ?_; rintro e W9_ ⟨rfl, e9_⟩; exact hK_.out _ e9_
    refine RnL.cons (fun g5 A_ W_ hs_ => ?_) ?_
    · have q57_ := hs_.val 7 rfl rfl rfl
      have q59_ := hs_.val 9 rfl rfl rfl
      refine Rn.val fun K_ hK_ => ?_
      go_simp
      exact hK_.out _ (Ext.refl _)
    refine RnL.cons (fun g5 A_ W_ hs_ => ?_) ?_
    · have q55_ := hs_.val 5 rfl rfl rfl
      have q60_ := hs_.val 10 rfl rfl rfl
      refine Rn.val fun K_ hK_ => ?_
      go_simp
      exact hK_.out _ (Ext.refl _)
    refine RnL.cons (fun g5 A_ W_ hs_ => ?_) ?_
    · have q61_ := hs_.val 11 rfl rfl rfl
      refine Rn.val fun K_ hK_ => ?_
      go_simp
      exact hK_.out _ (Ext.refl _)
    refine RnL.cons (fun g5 A_ W_ hs_ => ?_) ?_
    · have q7_ := (hs_.old 7 (by kernel_rfl) : A_.tmps[7]?.getD undef = .pointer (some ⟨w3.heap.size, 0, none⟩))
      have cB2_0 := (HB2_5.out.drew.ext hs_.1).cell 0 rfl
      have cB2_1 := (HB2_5.out.drew.ext hs_.1).cell 1 rfl
      have cB2_2 := (HB2_5.out.drew.ext hs_.1).cell 2 rfl
      have cB2_3 := (HB2_5.out.drew.ext hs_.1).cell 3 rfl
      refine Rn.val fun K_ hK_ => ?_
      go_simp
      exact hK_.out _ (Ext.refl _)
    refine RnL.cons (fun g5 A_ W_ hs_ => ?_) ?_
    · have q63_ := hs_.val 13 rfl rfl rfl
      refine Rn.val fun K_ hK_ => ?_
      go_simp
      refine (vPlane_zero ⟨a, q⟩ _ (HG.out.ext (HX5.out.drew.trans hs_.1)) HA.out HQ.out HZ.out).mono ?_; rintro e W9_ ⟨rfl, e9_⟩; exact hK_.out _ e9_
    refine RnL.cons (fun g5 A_ W_ hs_ => ?_) ?_
    · have q7_ := (hs_.old 7 (by kernel_rfl) : A_.tmps[7]?.getD undef = .pointer (some ⟨w3.heap.size, 0, none⟩))
      have cB2_0 := (HB2_5.out.drew.ext hs_.1).cell 0 rfl
      have cB2_1 := (HB2_5.out.drew.ext hs_.1).cell 1 rfl
      have cB2_2 := (HB2_5.out.drew.ext hs_.1).cell 2 rfl
      have cB2_3 := (HB2_5.out.drew.ext hs_.1).cell 3 rfl
      refine Rn.val fun K_ hK_ => ?_
      go_simp
      exact hK_.out _ (Ext.refl _)
    refine RnL.cons (fun g5 A_ W_ hs_ => ?_) ?_
    · have q65_ := hs_.val 15 rfl rfl rfl
      refine Rn.val fun K_ hK_ => ?_
      go_simp
      refine (scp_z ⟨a, q⟩ _ (HG.out.ext (HX5.out.drew.trans hs_.1)) HA.out HQ.out HZ.out).mono ?_; rintro e W9_ ⟨rfl, e9_⟩; exact hK_.out _ e9_
    refine RnL.cons (fun g5 A_ W_ hs_ => ?_) ?_
    · have q64_ := hs_.val 14 rfl rfl rfl
      have q66_ := hs_.val 16 rfl rfl rfl
      refine Rn.val fun K_ hK_ => ?_
      go_simp
      exact hK_.out _ (Ext.refl _)
    refine RnL.cons (fun g5 A_ W_ hs_ => ?_) ?_
    · have q62_ := hs_.val 12 rfl rfl rfl
      have q67_ := hs_.val 17 rfl rfl rfl
      refine Rn.val fun K_ hK_ => ?_
      go_simp
      exact hK_.out _ (Ext.refl _)
    exact RnL.nil
  simp only [fs, Kd.value, puts, Act.put, List.setIfInBounds_toArray, List.set_cons_zero, List.set_cons_succ]
  have HX6 : Hid (Ext w w6) := Lib.hid (HX5.out.drew.trans hx_)
  have HB0_6 := Lib.hid (HB0_5.out.drew.ext hx_)
  have HB1_6 := Lib.hid (HB1_5.out.drew.ext hx_)
  have HB2_6 := Lib.hid (HB2_5.out.drew.ext hx_)
  clear hx_ hm_ hne_
  go_wp2_with fail
  refine wp_name (fun W => Ext w W ∧ Blk W (w.heap.size) #[.string (qs a.x), .string (qs a.y), .string (qs a.z)] 30 ∧ Blk W (w.heap.size + 1) #[.string b.x, .string b.y, .string b.z] 30 ∧ Blk W (w3.heap.size) #[.string (qs a.x), .string (qs a.y), .string (qs a.z), .string (qs q)] 48) ⟨HX6.out, HB0_6.out, HB1_6.out, HB2_6.out⟩ ?_
  rintro w7 ⟨e7, bB0_7, bB1_7, bB2_7⟩
  have HX7 := Lib.hid e7; have HB0_7 := Lib.hid bB0_7; have HB1_7 := Lib.hid bB1_7; have HB2_7 := Lib.hid bB2_7
  clear e7 bB0_7 bB1_7 bB2_7
  refine region_lin [.val (.agg #[.string (qs a.x), .string (qs a.y), .string (qs a.z)]), .val (.int .i64 0), .val (.agg #[.string b.x, .string b.y, .string b.z]), .val (.int .i64 2), .mem (fun b_ => .slice (some ⟨b_, 0, none⟩) 2 2) #[.int .i64 0, .int .i64 2] 32 Option.none, .val (.int .i64 2), .val (.int .i64 2)] (by kernel_rfl) (by kernel_rfl) (by kernel_rfl) ?_ (fun g7 w8 hx_ hm_ hne_ => ?_)
  · skip
    refine RnL.cons (fun g7 A_ W_ hs_ => ?_) ?_
    · have q3_ := (hs_.old 3 (by kernel_rfl) : A_.tmps[3]?.getD undef = .pointer (some ⟨w.heap.size, 0, none⟩))
      have cB0_0 := (HB0_7.out.drew.ext hs_.1).cell 0 rfl
      have cB0_1 := (HB0_7.out.drew.ext hs_.1).cell 1 rfl
      have cB0_2 := (HB0_7.out.drew.ext hs_.1).cell 2 rfl
      refine Rn.val fun K_ hK_ => ?_
      go_simp
      exact hK_.out _ (Ext.refl _)
    refine RnL.cons (fun g7 A_ W_ hs_ => ?_) ?_
    · have q69_ := hs_.val 0 rfl rfl rfl
      refine Rn.val fun K_ hK_ => ?_
      go_simp
      refine (of_0 ⟨qs a.x, qs a.y, qs a.z⟩ _ (HG.out.ext (HX7.out.drew.trans hs_.1)) HAH.out.ts HA.out.all).mono ?_; rintro e W9_ ⟨rfl, e9_⟩; exact hK_.out _ e9_
    refine RnL.cons (fun g7 A_ W_ hs_ => ?_) ?_
    · have q4_ := (hs_.old 4 (by kernel_rfl) : A_.tmps[4]?.getD undef = .pointer (some ⟨w.heap.size + 1, 0, none⟩))
      have cB1_0 := (HB1_7.out.drew.ext hs_.1).cell 0 rfl
      have cB1_1 := (HB1_7.out.drew.ext hs_.1).cell 1 rfl
      have cB1_2 := (HB1_7.out.drew.ext hs_.1).cell 2 rfl
      refine Rn.val fun K_ hK_ => ?_
      go_simp
      exact hK_.out _ (Ext.refl _)
    refine RnL.cons (fun g7 A_ W_ hs_ => ?_) ?_
    · have q71_ := hs_.val 2 rfl rfl rfl
      refine Rn.val fun K_ hK_ => ?_
      go_simp
      refine (of_2 b _ (HG.out.ext (HX7.out.drew.trans hs_.1)) HBH.out.ts HBW.out).mono ?_; rintro e W9_ ⟨rfl, e9_⟩; exact hK_.out _ e9_
    refine RnL.cons (fun g7 A_ W_ hs_ => ?_) ?_
    · have q70_ := hs_.val 1 rfl rfl rfl
      have q72_ := hs_.val 3 rfl rfl rfl
      refine Rn.mem fun K_ hK_ => ?_
      go_simp
      exact hK_.out
    refine RnL.cons (fun g7 A_ W_ hs_ => ?_) ?_
    · have q73_ := (hs_.mem 4 rfl rfl rfl).1
      refine Rn.val fun K_ hK_ => ?_
      go_simp
      refine (((by decide : ferr [0, 2] = 2) ▸ first2_c 0 2 (g7 4) _ ((hs_.mem 4 rfl rfl rfl).2.2 rfl))).mono ?_; rintro e _ ⟨rfl, rfl⟩; exact hK_.out _ (Ext.refl _)
    refine RnL.cons (fun g7 A_ W_ hs_ => ?_) ?_
    · have q74_ := hs_.val 5 rfl rfl rfl
      refine Rn.val fun K_ hK_ => ?_
      go_simp
      exact hK_.out _ (Ext.refl _)
    exact RnL.nil
  simp only [fs, Kd.value, puts, Act.put, List.setIfInBounds_toArray, List.set_cons_zero, List.set_cons_succ, Nat.reduceAdd]
  have HX8 : Hid (Ext w w8) := Lib.hid (HX7.out.drew.trans hx_)
  have HB0_8 := Lib.hid (HB0_7.out.drew.ext hx_)
  have HB1_8 := Lib.hid (HB1_7.out.drew.ext hx_)
  have HB2_8 := Lib.hid (HB2_7.out.drew.ext hx_)
  have HB4_8 : Hid (Blk w8 (g7 4) #[.int .i64 0, .int .i64 2] 32) := Lib.hid (hm_ 4 _ _ _ _ rfl).2; have HGEB4 : Hid (w.heap.size ≤ g7 4) := Lib.hid (Nat.le_trans HX7.out.size (hm_ 4 _ _ _ _ rfl).1)
  have HNEB0B4 : Hid (w.heap.size ≠ g7 4) := Lib.hid (Nat.ne_of_lt (Nat.lt_of_lt_of_le HB0_7.out.lt (hm_ 4 _ _ _ _ rfl).1))
  have HNEB1B4 : Hid (w.heap.size + 1 ≠ g7 4) := Lib.hid (Nat.ne_of_lt (Nat.lt_of_lt_of_le HB1_7.out.lt (hm_ 4 _ _ _ _ rfl).1))
  have HNEB2B4 : Hid (w3.heap.size ≠ g7 4) := Lib.hid (Nat.ne_of_lt (Nat.lt_of_lt_of_le HB2_7.out.lt (hm_ 4 _ _ _ _ rfl).1))
  clear hx_ hm_ hne_
  generalize g7 4 = i4 at *
  clear g7
  have c0_0 := HB0_8.out.cell 0 rfl
  have c0_1 := HB0_8.out.cell 1 rfl
  have c0_2 := HB0_8.out.cell 2 rfl
  have c1_0 := HB1_8.out.cell 0 rfl
  have c1_1 := HB1_8.out.cell 1 rfl
  have c1_2 := HB1_8.out.cell 2 rfl
  go_wp2_with fail
  refine (vAdd_err ⟨qs a.x, qs a.y, qs a.z⟩ b _ (HG.out.ext HX8.out) HAH.out.ts HBH.out.ts (verr_2b HBW.out)).mono ?_; rintro e w9 ⟨rfl, e9⟩
  have HX9 : Hid (Ext w w9) := Lib.hid (HX8.out.trans e9)
  have HB0_9 := Lib.hid (Blk.ext HB0_8.out e9)
  have HB1_9 := Lib.hid (Blk.ext HB1_8.out e9)
  have HB2_9 := Lib.hid (Blk.ext HB2_8.out e9)
  clear e9 c0_0 c0_1 c0_2 c1_0 c1_1 c1_2
  go_upto_region 10 with fail
  refine wp_name (fun W => Ext w W ∧ Blk W (w.heap.size) #[.string (qs a.x), .string (qs a.y), .string (qs a.z)] 30 ∧ Blk W (w.heap.size + 1) #[.string b.x, .string b.y, .string b.z] 30 ∧ Blk W (w3.heap.size) #[.string (qs a.x), .string (qs a.y), .string (qs a.z), .string (qs q)] 48 ∧ Blk W (w9.heap.size) #[.string ⟨#[]⟩, .string ⟨#[]⟩, .string ⟨#[]⟩] 30) ⟨(HX9.out.alloc _), (HB0_9.out.alloc _), (HB1_9.out.alloc _), (HB2_9.out.alloc _), (Blk.new' (w := _) (cs := #[.string ⟨#[]⟩, .string ⟨#[]⟩, .string ⟨#[]⟩]) (t := 30) (by first | rfl | (simp only [World.size_alloc]; done) | (simp only [World.size_alloc]; omega) | simp))⟩ ?_
  rintro w10 ⟨e10, bB0_10, bB1_10, bB2_10, bB5_10⟩
  have HX10 := Lib.hid e10; have HB0_10 := Lib.hid bB0_10; have HB1_10 := Lib.hid bB1_10; have HB2_10 := Lib.hid bB2_10; have HB5_10 := Lib.hid bB5_10
  have HGEB5 : Hid (w.heap.size ≤ w9.heap.size) := Lib.hid (by have := HX9.out.size; first | omega | (simp only []; omega) | (simp; omega))
  clear e10 bB0_10 bB1_10 bB2_10 bB5_10
  have c0_0 := HB0_10.out.cell 0 rfl
  have c0_1 := HB0_10.out.cell 1 rfl
  have c0_2 := HB0_10.out.cell 2 rfl
  have c1_0 := HB1_10.out.cell 0 rfl
  have c1_1 := HB1_10.out.cell 1 rfl
  have c1_2 := HB1_10.out.cell 2 rfl
  go_wp2_with fail
  refine (vSub_err ⟨qs a.x, qs a.y, qs a.z⟩ b _ (HG.out.ext HX10.out) HAH.out.ts HBH.out.ts (verr_2b HBW.out)).mono ?_; rintro e w11 ⟨rfl, e11⟩
  have HX11 : Hid (Ext w w11) := Lib.hid (HX10.out.trans e11)
  have HB0_11 := Lib.hid (Blk.ext HB0_10.out e11)
  have HB1_11 := Lib.hid (Blk.ext HB1_10.out e11)
  have HB2_11 := Lib.hid (Blk.ext HB2_10.out e11)
  have HB5_11 := Lib.hid (Blk.ext HB5_10.out e11)
  clear e11 c0_0 c0_1 c0_2 c1_0 c1_1 c1_2
  go_upto_region 11 with fail
  refine wp_name (fun W => Ext w W ∧ Blk W (w.heap.size) #[.string (qs a.x), .string (qs a.y), .string (qs a.z)] 30 ∧ Blk W (w.heap.size + 1) #[.string b.x, .string b.y, .string b.z] 30 ∧ Blk W (w3.heap.size) #[.string (qs a.x), .string (qs a.y), .string (qs a.z), .string (qs q)] 48 ∧ Blk W (w9.heap.size) #[.string ⟨#[]⟩, .string ⟨#[]⟩, .string ⟨#[]⟩] 30 ∧ Blk W (w11.heap.size) #[.string ⟨#[]⟩, .string ⟨#[]⟩, .string ⟨#[]⟩] 30) ⟨(HX11.out.alloc _), (HB0_11.out.alloc _), (HB1_11.out.alloc _), (HB2_11.out.alloc _), (HB5_11.out.alloc _), (Blk.new' (w := _) (cs := #[.string ⟨#[]⟩, .string ⟨#[]⟩, .string ⟨#[]⟩]) (t := 30) (by first | rfl | (simp only [World.size_alloc]; done) | (simp only [World.size_alloc]; omega) | simp))⟩ ?_
  rintro w12 ⟨e12, bB0_12, bB1_12, bB2_12, bB5_12, bB6_12⟩
  have HX12 := Lib.hid e12; have HB0_12 := Lib.hid bB0_12; have HB1_12 := Lib.hid bB1_12; have HB2_12 := Lib.hid bB2_12; have HB5_12 := Lib.hid bB5_12; have HB6_12 := Lib.hid bB6_12
  have HGEB6 : Hid (w.heap.size ≤ w11.heap.size) := Lib.hid (by have := HX11.out.size; first | omega | (simp only []; omega) | (simp; omega))
  clear e12 bB0_12 bB1_12 bB2_12 bB5_12 bB6_12
  have c0_0 := HB0_12.out.cell 0 rfl
  have c0_1 := HB0_12.out.cell 1 rfl
  have c0_2 := HB0_12.out.cell 2 rfl
  have c1_0 := HB1_12.out.cell 0 rfl
  have c1_1 := HB1_12.out.cell 1 rfl
  have c1_2 := HB1_12.out.cell 2 rfl
  go_wp2_with fail
  refine (vDot_err ⟨qs a.x, qs a.y, qs a.z⟩ b _ (HG.out.ext HX12.out) HAH.out.ts HBH.out.ts (verr_2b HBW.out)).mono ?_; rintro e w13 ⟨rfl, e13⟩
  have HX13 : Hid (Ext w w13) := Lib.hid (HX12.out.trans e13)
  have HB0_13 := Lib.hid (Blk.ext HB0_12.out e13)
  have HB1_13 := Lib.hid (Blk.ext HB1_12.out e13)
  have HB2_13 := Lib.hid (Blk.ext HB2_12.out e13)
  have HB5_13 := Lib.hid (Blk.ext HB5_12.out e13)
  have HB6_13 := Lib.hid (Blk.ext HB6_12.out e13)
  clear e13 c0_0 c0_1 c0_2 c1_0 c1_1 c1_2
  have c0_0 := HB0_13.out.cell 0 rfl
  have c0_1 := HB0_13.out.cell 1 rfl
  have c0_2 := HB0_13.out.cell 2 rfl
  have c1_0 := HB1_13.out.cell 0 rfl
  have c1_1 := HB1_13.out.cell 1 rfl
  have c1_2 := HB1_13.out.cell 2 rfl
  go_wp2_with fail
  refine (vCross_err ⟨qs a.x, qs a.y, qs a.z⟩ b _ (HG.out.ext HX13.out) HAH.out.ts HBH.out.ts (verr_2b HBW.out)).mono ?_; rintro e w14 ⟨rfl, e14⟩
  have HX14 : Hid (Ext w w14) := Lib.hid (HX13.out.trans e14)
  have HB0_14 := Lib.hid (Blk.ext HB0_13.out e14)
  have HB1_14 := Lib.hid (Blk.ext HB1_13.out e14)
  have HB2_14 := Lib.hid (Blk.ext HB2_13.out e14)
  have HB5_14 := Lib.hid (Blk.ext HB5_13.out e14)
  have HB6_14 := Lib.hid (Blk.ext HB6_13.out e14)
  clear e14 c0_0 c0_1 c0_2 c1_0 c1_1 c1_2
  go_upto_region 13 with fail
  refine wp_name (fun W => Ext w W ∧ Blk W (w.heap.size) #[.string (qs a.x), .string (qs a.y), .string (qs a.z)] 30 ∧ Blk W (w.heap.size + 1) #[.string b.x, .string b.y, .string b.z] 30 ∧ Blk W (w3.heap.size) #[.string (qs a.x), .string (qs a.y), .string (qs a.z), .string (qs q)] 48 ∧ Blk W (w9.heap.size) #[.string ⟨#[]⟩, .string ⟨#[]⟩, .string ⟨#[]⟩] 30 ∧ Blk W (w11.heap.size) #[.string ⟨#[]⟩, .string ⟨#[]⟩, .string ⟨#[]⟩] 30 ∧ Blk W (w14.heap.size) #[.string ⟨#[]⟩, .string ⟨#[]⟩, .string ⟨#[]⟩] 30) ⟨(HX14.out.alloc _), (HB0_14.out.alloc _), (HB1_14.out.alloc _), (HB2_14.out.alloc _), (HB5_14.out.alloc _), (HB6_14.out.alloc _), (Blk.new' (w := _) (cs := #[.string ⟨#[]⟩, .string ⟨#[]⟩, .string ⟨#[]⟩]) (t := 30) (by first | rfl | (simp only [World.size_alloc]; done) | (simp only [World.size_alloc]; omega) | simp))⟩ ?_
  rintro w15 ⟨e15, bB0_15, bB1_15, bB2_15, bB5_15, bB6_15, bB7_15⟩
  have HX15 := Lib.hid e15; have HB0_15 := Lib.hid bB0_15; have HB1_15 := Lib.hid bB1_15; have HB2_15 := Lib.hid bB2_15; have HB5_15 := Lib.hid bB5_15; have HB6_15 := Lib.hid bB6_15; have HB7_15 := Lib.hid bB7_15
  have HGEB7 : Hid (w.heap.size ≤ w14.heap.size) := Lib.hid (by have := HX14.out.size; first | omega | (simp only []; omega) | (simp; omega))
  clear e15 bB0_15 bB1_15 bB2_15 bB5_15 bB6_15 bB7_15
  have c0_0 := HB0_15.out.cell 0 rfl
  have c0_1 := HB0_15.out.cell 1 rfl
  have c0_2 := HB0_15.out.cell 2 rfl
  have c1_0 := HB1_15.out.cell 0 rfl
  have c1_1 := HB1_15.out.cell 1 rfl
  have c1_2 := HB1_15.out.cell 2 rfl
  go_wp2_with fail
  refine (vParallel_err ⟨qs a.x, qs a.y, qs a.z⟩ b _ (HG.out.ext HX15.out) HAH.out.ts HBH.out.ts (verr_2b HBW.out)).mono ?_; rintro e w16 ⟨rfl, e16⟩
  have HX16 : Hid (Ext w w16) := Lib.hid (HX15.out.trans e16)
  have HB0_16 := Lib.hid (Blk.ext HB0_15.out e16)
  have HB1_16 := Lib.hid (Blk.ext HB1_15.out e16)
  have HB2_16 := Lib.hid (Blk.ext HB2_15.out e16)
  have HB5_16 := Lib.hid (Blk.ext HB5_15.out e16)
  have HB6_16 := Lib.hid (Blk.ext HB6_15.out e16)
  have HB7_16 := Lib.hid (Blk.ext HB7_15.out e16)
  clear e16 c0_0 c0_1 c0_2 c1_0 c1_1 c1_2
  have c5_0 := HB5_16.out.cell 0 rfl
  have c5_1 := HB5_16.out.cell 1 rfl
  have c5_2 := HB5_16.out.cell 2 rfl
  have c6_0 := HB6_16.out.cell 0 rfl
  have c6_1 := HB6_16.out.cell 1 rfl
  have c6_2 := HB6_16.out.cell 2 rfl
  have c7_0 := HB7_16.out.cell 0 rfl
  have c7_1 := HB7_16.out.cell 1 rfl
  have c7_2 := HB7_16.out.cell 2 rfl
  go_wp2_with fail
  refine wp_name (fun W => Ext w W ∧ Blk W (w.heap.size) #[.string (qs a.x), .string (qs a.y), .string (qs a.z)] 30 ∧ Blk W (w.heap.size + 1) #[.string b.x, .string b.y, .string b.z] 30 ∧ Blk W (w3.heap.size) #[.string (qs a.x), .string (qs a.y), .string (qs a.z), .string (qs q)] 48) ⟨HX16.out, HB0_16.out, HB1_16.out, HB2_16.out⟩ ?_
  rintro w17 ⟨e17, bB0_17, bB1_17, bB2_17⟩
  have HX17 := Lib.hid e17; have HB0_17 := Lib.hid bB0_17; have HB1_17 := Lib.hid bB1_17; have HB2_17 := Lib.hid bB2_17
  clear e17 bB0_17 bB1_17 bB2_17 c5_0 c5_1 c5_2 c6_0 c6_1 c6_2 c7_0 c7_1 c7_2
  refine region_lin [.val (.agg #[.string (qs a.x), .string (qs a.y), .string (qs a.z), .string (qs q)]), .val (.int .i64 17), .val (.agg #[.string b.x, .string b.y, .string b.z]), .val (.int .i64 2), .mem (fun b_ => .slice (some ⟨b_, 0, none⟩) 2 2) #[.int .i64 17, .int .i64 2] 32 Option.none, .val (.int .i64 17), .val (.int .i64 17)] (by kernel_rfl) (by kernel_rfl) (by kernel_rfl) ?_ (fun g17 w18 hx_ hm_ hne_ => ?_)
  · skip
    refine RnL.cons (fun g17 A_ W_ hs_ => ?_) ?_
    · have q7_ := (hs_.old 7 (by kernel_rfl) : A_.tmps[7]?.getD undef = .pointer (some ⟨w3.heap.size, 0, none⟩))
      have cB2_0 := (HB2_17.out.drew.ext hs_.1).cell 0 rfl
      have cB2_1 := (HB2_17.out.drew.ext hs_.1).cell 1 rfl
      have cB2_2 := (HB2_17.out.drew.ext hs_.1).cell 2 rfl
      have cB2_3 := (HB2_17.out.drew.ext hs_.1).cell 3 rfl
      refine Rn.val fun K_ hK_ => ?_
      go_simp
      exact hK_.out _ (Ext.refl _)
    refine RnL.cons (fun g17 A_ W_ hs_ => ?_) ?_
    · have q152_ := hs_.val 0 rfl rfl rfl
      refine Rn.val fun K_ hK_ => ?_
      go_simp
      refine (scp_z ⟨a, q⟩ _ (HG.out.ext (HX17.out.drew.trans hs_.1)) HA.out HQ.out HZ.out).mono ?_; rintro e W9_ ⟨rfl, e9_⟩; exact hK_.out _ e9_
    refine RnL.cons (fun g17 A_ W_ hs_ => ?_) ?_
    · have q4_ := (hs_.old 4 (by kernel_rfl) : A_.tmps[4]?.getD undef = .pointer (some ⟨w.heap.size + 1, 0, none⟩))
      have cB1_0 := (HB1_17.out.drew.ext hs_.1).cell 0 rfl
      have cB1_1 := (HB1_17.out.drew.ext hs_.1).cell 1 rfl
      have cB1_2 := (HB1_17.out.drew.ext hs_.1).cell 2 rfl
      refine Rn.val fun K_ hK_ => ?_
      go_simp
      exact hK_.out _ (Ext.refl _)
    refine RnL.cons (fun g17 A_ W_ hs_ => ?_) ?_
    · have q154_ := hs_.val 2 rfl rfl rfl
      refine Rn.val fun K_ hK_ => ?_
      go_simp
      refine (of_2 b _ (HG.out.ext (HX17.out.drew.trans hs_.1)) HBH.out.ts HBW.out).mono ?_; rintro e W9_ ⟨rfl, e9_⟩; exact hK_.out _ e9_
    refine RnL.cons (fun g17 A_ W_ hs_ => ?_) ?_
    · have q153_ := hs_.val 1 rfl rfl rfl
      have q155_ := hs_.val 3 rfl rfl rfl
      refine Rn.mem fun K_ hK_ => ?_
      go_simp
      exact hK_.out
    refine RnL.cons (fun g17 A_ W_ hs_ => ?_) ?_
    · have q156_ := (hs_.mem 4 rfl rfl rfl).1
      refine Rn.val fun K_ hK_ => ?_
      go_simp
      refine (((by decide : ferr [17, 2] = 17) ▸ first2_c 17 2 (g17 4) _ ((hs_.mem 4 rfl rfl rfl).2.2 rfl))).mono ?_; rintro e _ ⟨rfl, rfl⟩; exact hK_.out _ (Ext.refl _)
    refine RnL.cons (fun g17 A_ W_ hs_ => ?_) ?_
    · have q157_ := hs_.val 5 rfl rfl rfl
      refine Rn.val fun K_ hK_ => ?_
      go_simp
      exact hK_.out _ (Ext.refl _)
    exact RnL.nil
  simp only [fs, Kd.value, puts, Act.put, List.setIfInBounds_toArray, List.set_cons_zero, List.set_cons_succ, Nat.reduceAdd]
  have HX18 : Hid (Ext w w18) := Lib.hid (HX17.out.drew.trans hx_)
  have HB0_18 := Lib.hid (HB0_17.out.drew.ext hx_)
  have HB1_18 := Lib.hid (HB1_17.out.drew.ext hx_)
  have HB2_18 := Lib.hid (HB2_17.out.drew.ext hx_)
  have HB8_18 : Hid (Blk w18 (g17 4) #[.int .i64 17, .int .i64 2] 32) := Lib.hid (hm_ 4 _ _ _ _ rfl).2; have HGEB8 : Hid (w.heap.size ≤ g17 4) := Lib.hid (Nat.le_trans HX17.out.size (hm_ 4 _ _ _ _ rfl).1)
  have HNEB0B8 : Hid (w.heap.size ≠ g17 4) := Lib.hid (Nat.ne_of_lt (Nat.lt_of_lt_of_le HB0_17.out.lt (hm_ 4 _ _ _ _ rfl).1))
  have HNEB1B8 : Hid (w.heap.size + 1 ≠ g17 4) := Lib.hid (Nat.ne_of_lt (Nat.lt_of_lt_of_le HB1_17.out.lt (hm_ 4 _ _ _ _ rfl).1))
  have HNEB2B8 : Hid (w3.heap.size ≠ g17 4) := Lib.hid (Nat.ne_of_lt (Nat.lt_of_lt_of_le HB2_17.out.lt (hm_ 4 _ _ _ _ rfl).1))
  clear hx_ hm_ hne_
  generalize g17 4 = i8 at *
  clear g17
  have c2_0 := HB2_18.out.cell 0 rfl
  have c2_1 := HB2_18.out.cell 1 rfl
  have c2_2 := HB2_18.out.cell 2 rfl
  have c2_3 := HB2_18.out.cell 3 rfl
  have c1_0 := HB1_18.out.cell 0 rfl
  have c1_1 := HB1_18.out.cell 1 rfl
  have c1_2 := HB1_18.out.cell 2 rfl
  go_wp2_with fail
  refine (vSide_zero ⟨a, q⟩ b _ (HG.out.ext HX18.out) HA.out HQ.out HZ.out).mono ?_; rintro e w19 ⟨rfl, e19⟩
  have HX19 : Hid (Ext w w19) := Lib.hid (HX18.out.trans e19)
  have HB0_19 := Lib.hid (Blk.ext HB0_18.out e19)
  clear e19 c2_0 c2_1 c2_2 c2_3 c1_0 c1_1 c1_2
  have c0_0 := HB0_19.out.cell 0 rfl
  have c0_1 := HB0_19.out.cell 1 rfl
  have c0_2 := HB0_19.out.cell 2 rfl
  go_wp2_with fail
  refine (of_0 ⟨qs a.x, qs a.y, qs a.z⟩ _ (HG.out.ext HX19.out) HAH.out.ts HA.out.all).mono ?_; rintro e w20 ⟨rfl, e20⟩
  have HX20 : Hid (Ext w w20) := Lib.hid (HX19.out.trans e20)
  clear e20 c0_0 c0_1 c0_2
  go_wp2_with fail
  refine (fright_yes (qs q) _ (HG.out.ext HX20.out) HKS.out (rq_qs HQ.out)).mono ?_; rintro e w21 ⟨rfl, e21⟩
  have HX21 : Hid (Ext w w21) := Lib.hid (HX20.out.trans e21)
  clear e21
  go_wp2
  go_ret
  exact ⟨rfl, HX21.out⟩

set_option maxRecDepth 100000 in
set_option maxHeartbeats 16000000 in
theorem errors_W5 (a : V3) (b : V3) (k : ByteArray) (w : World) (g : Gd w) (hah : SH ⟨qs a.x, qs a.y, qs a.z⟩) (hbh : SH ⟨qs b.x, qs b.y, qs b.z⟩) (hk : k.size ≤ 40) (ha : VB 200 a) (hb : VB 200 b) (hkw : rq k = false) : Calls Tryz.prog 10 #[.agg #[.string (qs a.x), .string (qs a.y), .string (qs a.z)], .agg #[.string (qs b.x), .string (qs b.y), .string (qs b.z)], .string k] w (Ret w (.bool true)) := by
  have HAH := Lib.hid hah
  have HBH := Lib.hid hbh
  have HA := Lib.hid ha
  have HB := Lib.hid hb
  have HKW := Lib.hid hkw
  have HG := Lib.hid g
  clear hah hbh ha hb hkw g
  have HKS : Hid (k.size ≤ 1000000) := Lib.hid (Nat.le_trans hk (by decide))
  have tk : decide ((40 : Int) < (k.size : Int)) = false := decide_eq_false (by omega)
  go_enter Tryz.func10, Tryz.ntmps10
  go_wp2_with fail
  refine (known_c _ (HG.out.ext (((Ext.refl w).alloc _).alloc _))).mono ?_; rintro e w1 ⟨rfl, e1⟩
  have HX1 : Hid (Ext w w1) := Lib.hid ((((Ext.refl w).alloc _).alloc _).trans e1)
  have HB0_1 : Hid (Blk w1 (w.heap.size) #[.string (qs a.x), .string (qs a.y), .string (qs a.z)] 30) := Lib.hid (Blk.ext ((Blk.new' (w := _) (cs := #[.string (qs a.x), .string (qs a.y), .string (qs a.z)]) (t := 30) (by first | rfl | (simp only [World.size_alloc]; done) | (simp only [World.size_alloc]; omega) | simp)).alloc _) e1)
  have HB1_1 : Hid (Blk w1 (w.heap.size + 1) #[.string (qs b.x), .string (qs b.y), .string (qs b.z)] 30) := Lib.hid (Blk.ext (Blk.new' (w := _) (cs := #[.string (qs b.x), .string (qs b.y), .string (qs b.z)]) (t := 30) (by first | rfl | (simp only [World.size_alloc]; done) | (simp only [World.size_alloc]; omega) | simp)) e1)
  have HGEB0 : Hid (w.heap.size ≤ w.heap.size) := Lib.hid (by first | omega | (simp only []; omega) | (simp; omega))
  have HGEB1 : Hid (w.heap.size ≤ w.heap.size + 1) := Lib.hid (by first | omega | (simp only []; omega) | (simp; omega))
  clear e1
  have c0_0 := HB0_1.out.cell 0 rfl
  have c0_1 := HB0_1.out.cell 1 rfl
  have c0_2 := HB0_1.out.cell 2 rfl
  go_wp2_with fail
  refine (short_3 ⟨qs a.x, qs a.y, qs a.z⟩ _ HAH.out.x HAH.out.y HAH.out.z).mono ?_; rintro e w2 ⟨rfl, e2⟩
  have HX2 : Hid (Ext w w2) := Lib.hid (HX1.out.trans e2)
  have HB0_2 := Lib.hid (Blk.ext HB0_1.out e2)
  have HB1_2 := Lib.hid (Blk.ext HB1_1.out e2)
  clear e2 c0_0 c0_1 c0_2
  have c1_0 := HB1_2.out.cell 0 rfl
  have c1_1 := HB1_2.out.cell 1 rfl
  have c1_2 := HB1_2.out.cell 2 rfl
  go_wp2_with fail
  refine (short_3 ⟨qs b.x, qs b.y, qs b.z⟩ _ HBH.out.x HBH.out.y HBH.out.z).mono ?_; rintro e w3 ⟨rfl, e3⟩
  have HX3 : Hid (Ext w w3) := Lib.hid (HX2.out.trans e3)
  have HB0_3 := Lib.hid (Blk.ext HB0_2.out e3)
  have HB1_3 := Lib.hid (Blk.ext HB1_2.out e3)
  clear e3 c1_0 c1_1 c1_2
  have c0_0 := HB0_3.out.cell 0 rfl
  have c0_1 := HB0_3.out.cell 1 rfl
  have c0_2 := HB0_3.out.cell 2 rfl
  go_upto_region 4 with fail
  refine wp_name (fun W => Ext w W ∧ Blk W (w.heap.size) #[.string (qs a.x), .string (qs a.y), .string (qs a.z)] 30 ∧ Blk W (w.heap.size + 1) #[.string (qs b.x), .string (qs b.y), .string (qs b.z)] 30 ∧ Blk W (w3.heap.size) #[.string (qs a.x), .string (qs a.y), .string (qs a.z), .string k] 48) ⟨(HX3.out.alloc _), (HB0_3.out.alloc _), (HB1_3.out.alloc _), (Blk.new' (w := _) (cs := #[.string (qs a.x), .string (qs a.y), .string (qs a.z), .string k]) (t := 48) (by first | rfl | (simp only [World.size_alloc]; done) | (simp only [World.size_alloc]; omega) | simp))⟩ ?_
  rintro w4 ⟨e4, bB0_4, bB1_4, bB2_4⟩
  have HX4 := Lib.hid e4; have HB0_4 := Lib.hid bB0_4; have HB1_4 := Lib.hid bB1_4; have HB2_4 := Lib.hid bB2_4
  have HGEB2 : Hid (w.heap.size ≤ w3.heap.size) := Lib.hid (by have := HX3.out.size; first | omega | (simp only []; omega) | (simp; omega))
  clear e4 bB0_4 bB1_4 bB2_4 c0_0 c0_1 c0_2
  have c0_0 := HB0_4.out.cell 0 rfl
  have c0_1 := HB0_4.out.cell 1 rfl
  go_wp2_with fail
  refine wp_name (fun W => Ext w W ∧ Blk W (w.heap.size) #[.string (qs a.x), .string (qs a.y), .string (qs a.z)] 30 ∧ Blk W (w.heap.size + 1) #[.string (qs b.x), .string (qs b.y), .string (qs b.z)] 30 ∧ Blk W (w3.heap.size) #[.string (qs a.x), .string (qs a.y), .string (qs a.z), .string k] 48 ∧ Blk W (w4.heap.size) #[.string (qs a.x), .string (qs a.y)] 62) ⟨(HX4.out.alloc _), (HB0_4.out.alloc _), (HB1_4.out.alloc _), (HB2_4.out.alloc _), (Blk.new' (w := _) (cs := #[.string (qs a.x), .string (qs a.y)]) (t := 62) (by first | rfl | (simp only [World.size_alloc]; done) | (simp only [World.size_alloc]; omega) | simp))⟩ ?_
  rintro w5 ⟨e5, bB0_5, bB1_5, bB2_5, bB3_5⟩
  have HX5 := Lib.hid e5; have HB0_5 := Lib.hid bB0_5; have HB1_5 := Lib.hid bB1_5; have HB2_5 := Lib.hid bB2_5; have HB3_5 := Lib.hid bB3_5
  have HGEB3 : Hid (w.heap.size ≤ w4.heap.size) := Lib.hid (by have := HX4.out.size; first | omega | (simp only []; omega) | (simp; omega))
  clear e5 bB0_5 bB1_5 bB2_5 bB3_5 c0_0 c0_1
  refine region_lin [.val (.agg #[.string (qs a.x), .string (qs a.y), .string (qs a.z)]), .val (.int .i64 0), .val (.agg #[.string (qs a.x), .string (qs a.y), .string (qs a.z)]), .val (.int .i64 0), .val (.bool false), .val (.bool false), .val (.agg #[.string (qs a.x), .string (qs a.y)]), .val (.int .i64 (terr (T2.l ⟨qs a.x, qs a.y⟩))), .val (.agg #[.string (qs a.x), .string (qs a.y)]), .val (.int .i64 (terr (T2.l ⟨qs a.x, qs a.y⟩))), .val (.bool false), .val (.bool false), .val (.bool false), .val (.agg #[.string (qs a.x), .string (qs a.y), .string (qs a.z), .string k]), .val (.int .i64 2), .val (.agg #[.string (qs a.x), .string (qs a.y), .string (qs a.z), .string k]), .val (.int .i64 2), .val (.bool false), .val (.bool false)] (by kernel_rfl) (by kernel_rfl) (by kernel_rfl) ?_ (fun g5 w6 hx_ hm_ hne_ => ?_)
  · skip
    refine RnL.cons (fun g5 A_ W_ hs_ => ?_) ?_
    · have q3_ := (hs_.old 3 (by kernel_rfl) : A_.tmps[3]?.getD undef = .pointer (some ⟨w.heap.size, 0, none⟩))
      have cB0_0 := (HB0_5.out.drew.ext hs_.1).cell 0 rfl
      have cB0_1 := (HB0_5.out.drew.ext hs_.1).cell 1 rfl
      have cB0_2 := (HB0_5.out.drew.ext hs_.1).cell 2 rfl
      refine Rn.val fun K_ hK_ => ?_
      go_simp
      exact hK_.out _ (Ext.refl _)
    refine RnL.cons (fun g5 A_ W_ hs_ => ?_) ?_
    · have q50_ := hs_.val 0 rfl rfl rfl
      refine Rn.val fun K_ hK_ => ?_
      go_simp
      refine (vCheck_ok a _ (HG.out.ext (HX5.out.drew.trans hs_.1)) HA.out).mono ?_; rintro e W9_ ⟨rfl, e9_⟩; exact hK_.out _ e9_
    refine RnL.cons (fun g5 A_ W_ hs_ => ?_) ?_
    · have q3_ := (hs_.old 3 (by kernel_rfl) : A_.tmps[3]?.getD undef = .pointer (some ⟨w.heap.size, 0, none⟩))
      have cB0_0 := (HB0_5.out.drew.ext hs_.1).cell 0 rfl
      have cB0_1 := (HB0_5.out.drew.ext hs_.1).cell 1 rfl
      have cB0_2 := (HB0_5.out.drew.ext hs_.1).cell 2 rfl
      refine Rn.val fun K_ hK_ => ?_
      go_simp
      exact hK_.out _ (Ext.refl _)
    refine RnL.cons (fun g5 A_ W_ hs_ => ?_) ?_
    · have q52_ := hs_.val 2 rfl rfl rfl
      refine Rn.val fun K_ hK_ => ?_
      go_simp
      refine (of_0 ⟨qs a.x, qs a.y, qs a.z⟩ _ (HG.out.ext (HX5.out.drew.trans hs_.1)) HAH.out.ts HA.out.all).mono ?_; rintro e W9_ ⟨rfl, e9_⟩; exact hK_.out _ e9_
    refine RnL.cons (fun g5 A_ W_ hs_ => ?_) ?_
    · have q51_ := hs_.val 1 rfl rfl rfl
      have q53_ := hs_.val 3 rfl rfl rfl
      refine Rn.val fun K_ hK_ => ?_
      go_simp
      exact hK_.out _ (Ext.refl _)
    refine RnL.cons (fun g5 A_ W_ hs_ => ?_) ?_
    · have q54_ := hs_.val 4 rfl rfl rfl
      refine Rn.val fun K_ hK_ => ?_
      go_simp
      exact hK_.out _ (Ext.refl _)
    refine RnL.cons (fun g5 A_ W_ hs_ => ?_) ?_
    · have q8_ := (hs_.old 8 (by kernel_rfl) : A_.tmps[8]?.getD undef = .pointer (some ⟨w4.heap.size, 0, none⟩))
      have cB3_0 := (HB3_5.out.drew.ext hs_.1).cell 0 rfl
      have cB3_1 := (HB3_5.out.drew.ext hs_.1).cell 1 rfl
      refine Rn.val fun K_ hK_ => ?_
      go_simp
      exact hK_.out _ (Ext.refl _)
    refine RnL.cons (fun g5 A_ W_ hs_ => ?_) ?_
    · have q56_ := hs_.val 6 rfl rfl rfl
      refine Rn.val fun K_ hK_ => ?_
      go_simp
      refine (vcheckp_c ⟨qs a.x, qs a.y⟩ _ (HG.out.ext (HX5.out.drew.trans hs_.1)) HAH.out.p).mono ?_; rintro e W9_ ⟨rfl, e9_⟩; exact hK_.out _ e9_
    refine RnL.cons (fun g5 A_ W_ hs_ => ?_) ?_
    · have q8_ := (hs_.old 8 (by kernel_rfl) : A_.tmps[8]?.getD undef = .pointer (some ⟨w4.heap.size, 0, none⟩))
      have cB3_0 := (HB3_5.out.drew.ext hs_.1).cell 0 rfl
      have cB3_1 := (HB3_5.out.drew.ext hs_.1).cell 1 rfl
      refine Rn.val fun K_ hK_ => ?_
      go_simp
      exact hK_.out _ (Ext.refl _)
    refine RnL.cons (fun g5 A_ W_ hs_ => ?_) ?_
    · have q58_ := hs_.val 8 rfl rfl rfl
      refine Rn.val fun K_ hK_ => ?_
      go_simp
      refine (ofpe_c ⟨qs a.x, qs a.y⟩ _ (HG.out.ext (HX5.out.drew.trans hs_.1)) HAH.out.p).mono ?_; rintro e W9_ ⟨rfl, e9_⟩; exact hK_.out _ e9_
    refine RnL.cons (fun g5 A_ W_ hs_ => ?_) ?_
    · have q57_ := hs_.val 7 rfl rfl rfl
      have q59_ := hs_.val 9 rfl rfl rfl
      refine Rn.val fun K_ hK_ => ?_
      go_simp
      exact hK_.out _ (Ext.refl _)
    refine RnL.cons (fun g5 A_ W_ hs_ => ?_) ?_
    · have q55_ := hs_.val 5 rfl rfl rfl
      have q60_ := hs_.val 10 rfl rfl rfl
      refine Rn.val fun K_ hK_ => ?_
      go_simp
      exact hK_.out _ (Ext.refl _)
    refine RnL.cons (fun g5 A_ W_ hs_ => ?_) ?_
    · have q61_ := hs_.val 11 rfl rfl rfl
      refine Rn.val fun K_ hK_ => ?_
      go_simp
      exact hK_.out _ (Ext.refl _)
    refine RnL.cons (fun g5 A_ W_ hs_ => ?_) ?_
    · have q7_ := (hs_.old 7 (by kernel_rfl) : A_.tmps[7]?.getD undef = .pointer (some ⟨w3.heap.size, 0, none⟩))
      have cB2_0 := (HB2_5.out.drew.ext hs_.1).cell 0 rfl
      have cB2_1 := (HB2_5.out.drew.ext hs_.1).cell 1 rfl
      have cB2_2 := (HB2_5.out.drew.ext hs_.1).cell 2 rfl
      have cB2_3 := (HB2_5.out.drew.ext hs_.1).cell 3 rfl
      refine Rn.val fun K_ hK_ => ?_
      go_simp
      exact hK_.out _ (Ext.refl _)
    refine RnL.cons (fun g5 A_ W_ hs_ => ?_) ?_
    · have q63_ := hs_.val 13 rfl rfl rfl
      refine Rn.val fun K_ hK_ => ?_
      go_simp
      refine (vPlane_err ⟨qs a.x, qs a.y, qs a.z⟩ (k) _ (HG.out.ext (HX5.out.drew.trans hs_.1)) HAH.out.ts HKS.out (terr_4k HKW.out)).mono ?_; rintro e W9_ ⟨rfl, e9_⟩; exact hK_.out _ e9_
    refine RnL.cons (fun g5 A_ W_ hs_ => ?_) ?_
    · have q7_ := (hs_.old 7 (by kernel_rfl) : A_.tmps[7]?.getD undef = .pointer (some ⟨w3.heap.size, 0, none⟩))
      have cB2_0 := (HB2_5.out.drew.ext hs_.1).cell 0 rfl
      have cB2_1 := (HB2_5.out.drew.ext hs_.1).cell 1 rfl
      have cB2_2 := (HB2_5.out.drew.ext hs_.1).cell 2 rfl
      have cB2_3 := (HB2_5.out.drew.ext hs_.1).cell 3 rfl
      refine Rn.val fun K_ hK_ => ?_
      go_simp
      exact hK_.out _ (Ext.refl _)
    refine RnL.cons (fun g5 A_ W_ hs_ => ?_) ?_
    · have q65_ := hs_.val 15 rfl rfl rfl
      refine Rn.val fun K_ hK_ => ?_
      go_simp
      refine (scp_e1 ⟨qs a.x, qs a.y, qs a.z⟩ (k) _ (HG.out.ext (HX5.out.drew.trans hs_.1)) HAH.out.ts HA.out.all HKS.out HKW.out).mono ?_; rintro e W9_ ⟨rfl, e9_⟩; exact hK_.out _ e9_
    refine RnL.cons (fun g5 A_ W_ hs_ => ?_) ?_
    · have q64_ := hs_.val 14 rfl rfl rfl
      have q66_ := hs_.val 16 rfl rfl rfl
      refine Rn.val fun K_ hK_ => ?_
      go_simp
      exact hK_.out _ (Ext.refl _)
    refine RnL.cons (fun g5 A_ W_ hs_ => ?_) ?_
    · have q62_ := hs_.val 12 rfl rfl rfl
      have q67_ := hs_.val 17 rfl rfl rfl
      refine Rn.val fun K_ hK_ => ?_
      go_simp
      exact hK_.out _ (Ext.refl _)
    exact RnL.nil
  simp only [fs, Kd.value, puts, Act.put, List.setIfInBounds_toArray, List.set_cons_zero, List.set_cons_succ]
  have HX6 : Hid (Ext w w6) := Lib.hid (HX5.out.drew.trans hx_)
  have HB0_6 := Lib.hid (HB0_5.out.drew.ext hx_)
  have HB1_6 := Lib.hid (HB1_5.out.drew.ext hx_)
  have HB2_6 := Lib.hid (HB2_5.out.drew.ext hx_)
  clear hx_ hm_ hne_
  go_wp2_with fail
  refine wp_name (fun W => Ext w W ∧ Blk W (w.heap.size) #[.string (qs a.x), .string (qs a.y), .string (qs a.z)] 30 ∧ Blk W (w.heap.size + 1) #[.string (qs b.x), .string (qs b.y), .string (qs b.z)] 30 ∧ Blk W (w3.heap.size) #[.string (qs a.x), .string (qs a.y), .string (qs a.z), .string k] 48) ⟨HX6.out, HB0_6.out, HB1_6.out, HB2_6.out⟩ ?_
  rintro w7 ⟨e7, bB0_7, bB1_7, bB2_7⟩
  have HX7 := Lib.hid e7; have HB0_7 := Lib.hid bB0_7; have HB1_7 := Lib.hid bB1_7; have HB2_7 := Lib.hid bB2_7
  clear e7 bB0_7 bB1_7 bB2_7
  refine region_lin [.val (.agg #[.string (qs a.x), .string (qs a.y), .string (qs a.z)]), .val (.int .i64 0), .val (.agg #[.string (qs b.x), .string (qs b.y), .string (qs b.z)]), .val (.int .i64 0), .mem (fun b_ => .slice (some ⟨b_, 0, none⟩) 2 2) #[.int .i64 0, .int .i64 0] 32 Option.none, .val (.int .i64 0), .val (.int .i64 0)] (by kernel_rfl) (by kernel_rfl) (by kernel_rfl) ?_ (fun g7 w8 hx_ hm_ hne_ => ?_)
  · skip
    refine RnL.cons (fun g7 A_ W_ hs_ => ?_) ?_
    · have q3_ := (hs_.old 3 (by kernel_rfl) : A_.tmps[3]?.getD undef = .pointer (some ⟨w.heap.size, 0, none⟩))
      have cB0_0 := (HB0_7.out.drew.ext hs_.1).cell 0 rfl
      have cB0_1 := (HB0_7.out.drew.ext hs_.1).cell 1 rfl
      have cB0_2 := (HB0_7.out.drew.ext hs_.1).cell 2 rfl
      refine Rn.val fun K_ hK_ => ?_
      go_simp
      exact hK_.out _ (Ext.refl _)
    refine RnL.cons (fun g7 A_ W_ hs_ => ?_) ?_
    · have q69_ := hs_.val 0 rfl rfl rfl
      refine Rn.val fun K_ hK_ => ?_
      go_simp
      refine (of_0 ⟨qs a.x, qs a.y, qs a.z⟩ _ (HG.out.ext (HX7.out.drew.trans hs_.1)) HAH.out.ts HA.out.all).mono ?_; rintro e W9_ ⟨rfl, e9_⟩; exact hK_.out _ e9_
    refine RnL.cons (fun g7 A_ W_ hs_ => ?_) ?_
    · have q4_ := (hs_.old 4 (by kernel_rfl) : A_.tmps[4]?.getD undef = .pointer (some ⟨w.heap.size + 1, 0, none⟩))
      have cB1_0 := (HB1_7.out.drew.ext hs_.1).cell 0 rfl
      have cB1_1 := (HB1_7.out.drew.ext hs_.1).cell 1 rfl
      have cB1_2 := (HB1_7.out.drew.ext hs_.1).cell 2 rfl
      refine Rn.val fun K_ hK_ => ?_
      go_simp
      exact hK_.out _ (Ext.refl _)
    refine RnL.cons (fun g7 A_ W_ hs_ => ?_) ?_
    · have q71_ := hs_.val 2 rfl rfl rfl
      refine Rn.val fun K_ hK_ => ?_
      go_simp
      refine (of_0 ⟨qs b.x, qs b.y, qs b.z⟩ _ (HG.out.ext (HX7.out.drew.trans hs_.1)) HBH.out.ts HB.out.all).mono ?_; rintro e W9_ ⟨rfl, e9_⟩; exact hK_.out _ e9_
    refine RnL.cons (fun g7 A_ W_ hs_ => ?_) ?_
    · have q70_ := hs_.val 1 rfl rfl rfl
      have q72_ := hs_.val 3 rfl rfl rfl
      refine Rn.mem fun K_ hK_ => ?_
      go_simp
      exact hK_.out
    refine RnL.cons (fun g7 A_ W_ hs_ => ?_) ?_
    · have q73_ := (hs_.mem 4 rfl rfl rfl).1
      refine Rn.val fun K_ hK_ => ?_
      go_simp
      refine (((by decide : ferr [0, 0] = 0) ▸ first2_c 0 0 (g7 4) _ ((hs_.mem 4 rfl rfl rfl).2.2 rfl))).mono ?_; rintro e _ ⟨rfl, rfl⟩; exact hK_.out _ (Ext.refl _)
    refine RnL.cons (fun g7 A_ W_ hs_ => ?_) ?_
    · have q74_ := hs_.val 5 rfl rfl rfl
      refine Rn.val fun K_ hK_ => ?_
      go_simp
      exact hK_.out _ (Ext.refl _)
    exact RnL.nil
  simp only [fs, Kd.value, puts, Act.put, List.setIfInBounds_toArray, List.set_cons_zero, List.set_cons_succ, Nat.reduceAdd]
  have HX8 : Hid (Ext w w8) := Lib.hid (HX7.out.drew.trans hx_)
  have HB0_8 := Lib.hid (HB0_7.out.drew.ext hx_)
  have HB1_8 := Lib.hid (HB1_7.out.drew.ext hx_)
  have HB2_8 := Lib.hid (HB2_7.out.drew.ext hx_)
  have HB4_8 : Hid (Blk w8 (g7 4) #[.int .i64 0, .int .i64 0] 32) := Lib.hid (hm_ 4 _ _ _ _ rfl).2; have HGEB4 : Hid (w.heap.size ≤ g7 4) := Lib.hid (Nat.le_trans HX7.out.size (hm_ 4 _ _ _ _ rfl).1)
  have HNEB0B4 : Hid (w.heap.size ≠ g7 4) := Lib.hid (Nat.ne_of_lt (Nat.lt_of_lt_of_le HB0_7.out.lt (hm_ 4 _ _ _ _ rfl).1))
  have HNEB1B4 : Hid (w.heap.size + 1 ≠ g7 4) := Lib.hid (Nat.ne_of_lt (Nat.lt_of_lt_of_le HB1_7.out.lt (hm_ 4 _ _ _ _ rfl).1))
  have HNEB2B4 : Hid (w3.heap.size ≠ g7 4) := Lib.hid (Nat.ne_of_lt (Nat.lt_of_lt_of_le HB2_7.out.lt (hm_ 4 _ _ _ _ rfl).1))
  clear hx_ hm_ hne_
  generalize g7 4 = i4 at *
  clear g7
  go_wp2_with fail
  refine wp_name (fun W => Ext w W ∧ Blk W (w.heap.size) #[.string (qs a.x), .string (qs a.y), .string (qs a.z)] 30 ∧ Blk W (w.heap.size + 1) #[.string (qs b.x), .string (qs b.y), .string (qs b.z)] 30 ∧ Blk W (w3.heap.size) #[.string (qs a.x), .string (qs a.y), .string (qs a.z), .string k] 48) ⟨HX8.out, HB0_8.out, HB1_8.out, HB2_8.out⟩ ?_
  rintro w9 ⟨e9, bB0_9, bB1_9, bB2_9⟩
  have HX9 := Lib.hid e9; have HB0_9 := Lib.hid bB0_9; have HB1_9 := Lib.hid bB1_9; have HB2_9 := Lib.hid bB2_9
  clear e9 bB0_9 bB1_9 bB2_9
  refine region_lin [.val (.agg #[.string (qs a.x), .string (qs a.y), .string (qs a.z), .string k]), .val (.int .i64 2), .val (.agg #[.string (qs b.x), .string (qs b.y), .string (qs b.z)]), .val (.int .i64 0), .mem (fun b_ => .slice (some ⟨b_, 0, none⟩) 2 2) #[.int .i64 2, .int .i64 0] 32 Option.none, .val (.int .i64 2), .val (.int .i64 2)] (by kernel_rfl) (by kernel_rfl) (by kernel_rfl) ?_ (fun g9 w10 hx_ hm_ hne_ => ?_)
  · skip
    refine RnL.cons (fun g9 A_ W_ hs_ => ?_) ?_
    · have q7_ := (hs_.old 7 (by kernel_rfl) : A_.tmps[7]?.getD undef = .pointer (some ⟨w3.heap.size, 0, none⟩))
      have cB2_0 := (HB2_9.out.drew.ext hs_.1).cell 0 rfl
      have cB2_1 := (HB2_9.out.drew.ext hs_.1).cell 1 rfl
      have cB2_2 := (HB2_9.out.drew.ext hs_.1).cell 2 rfl
      have cB2_3 := (HB2_9.out.drew.ext hs_.1).cell 3 rfl
      refine Rn.val fun K_ hK_ => ?_
      go_simp
      exact hK_.out _ (Ext.refl _)
    refine RnL.cons (fun g9 A_ W_ hs_ => ?_) ?_
    · have q152_ := hs_.val 0 rfl rfl rfl
      refine Rn.val fun K_ hK_ => ?_
      go_simp
      refine (scp_e1 ⟨qs a.x, qs a.y, qs a.z⟩ (k) _ (HG.out.ext (HX9.out.drew.trans hs_.1)) HAH.out.ts HA.out.all HKS.out HKW.out).mono ?_; rintro e W9_ ⟨rfl, e9_⟩; exact hK_.out _ e9_
    refine RnL.cons (fun g9 A_ W_ hs_ => ?_) ?_
    · have q4_ := (hs_.old 4 (by kernel_rfl) : A_.tmps[4]?.getD undef = .pointer (some ⟨w.heap.size + 1, 0, none⟩))
      have cB1_0 := (HB1_9.out.drew.ext hs_.1).cell 0 rfl
      have cB1_1 := (HB1_9.out.drew.ext hs_.1).cell 1 rfl
      have cB1_2 := (HB1_9.out.drew.ext hs_.1).cell 2 rfl
      refine Rn.val fun K_ hK_ => ?_
      go_simp
      exact hK_.out _ (Ext.refl _)
    refine RnL.cons (fun g9 A_ W_ hs_ => ?_) ?_
    · have q154_ := hs_.val 2 rfl rfl rfl
      refine Rn.val fun K_ hK_ => ?_
      go_simp
      refine (of_0 ⟨qs b.x, qs b.y, qs b.z⟩ _ (HG.out.ext (HX9.out.drew.trans hs_.1)) HBH.out.ts HB.out.all).mono ?_; rintro e W9_ ⟨rfl, e9_⟩; exact hK_.out _ e9_
    refine RnL.cons (fun g9 A_ W_ hs_ => ?_) ?_
    · have q153_ := hs_.val 1 rfl rfl rfl
      have q155_ := hs_.val 3 rfl rfl rfl
      refine Rn.mem fun K_ hK_ => ?_
      go_simp
      exact hK_.out
    refine RnL.cons (fun g9 A_ W_ hs_ => ?_) ?_
    · have q156_ := (hs_.mem 4 rfl rfl rfl).1
      refine Rn.val fun K_ hK_ => ?_
      go_simp
      refine (((by decide : ferr [2, 0] = 2) ▸ first2_c 2 0 (g9 4) _ ((hs_.mem 4 rfl rfl rfl).2.2 rfl))).mono ?_; rintro e _ ⟨rfl, rfl⟩; exact hK_.out _ (Ext.refl _)
    refine RnL.cons (fun g9 A_ W_ hs_ => ?_) ?_
    · have q157_ := hs_.val 5 rfl rfl rfl
      refine Rn.val fun K_ hK_ => ?_
      go_simp
      exact hK_.out _ (Ext.refl _)
    exact RnL.nil
  simp only [fs, Kd.value, puts, Act.put, List.setIfInBounds_toArray, List.set_cons_zero, List.set_cons_succ, Nat.reduceAdd]
  have HX10 : Hid (Ext w w10) := Lib.hid (HX9.out.drew.trans hx_)
  have HB0_10 := Lib.hid (HB0_9.out.drew.ext hx_)
  have HB1_10 := Lib.hid (HB1_9.out.drew.ext hx_)
  have HB2_10 := Lib.hid (HB2_9.out.drew.ext hx_)
  have HB5_10 : Hid (Blk w10 (g9 4) #[.int .i64 2, .int .i64 0] 32) := Lib.hid (hm_ 4 _ _ _ _ rfl).2; have HGEB5 : Hid (w.heap.size ≤ g9 4) := Lib.hid (Nat.le_trans HX9.out.size (hm_ 4 _ _ _ _ rfl).1)
  have HNEB0B5 : Hid (w.heap.size ≠ g9 4) := Lib.hid (Nat.ne_of_lt (Nat.lt_of_lt_of_le HB0_9.out.lt (hm_ 4 _ _ _ _ rfl).1))
  have HNEB1B5 : Hid (w.heap.size + 1 ≠ g9 4) := Lib.hid (Nat.ne_of_lt (Nat.lt_of_lt_of_le HB1_9.out.lt (hm_ 4 _ _ _ _ rfl).1))
  have HNEB2B5 : Hid (w3.heap.size ≠ g9 4) := Lib.hid (Nat.ne_of_lt (Nat.lt_of_lt_of_le HB2_9.out.lt (hm_ 4 _ _ _ _ rfl).1))
  clear hx_ hm_ hne_
  generalize g9 4 = i5 at *
  clear g9
  have c2_0 := HB2_10.out.cell 0 rfl
  have c2_1 := HB2_10.out.cell 1 rfl
  have c2_2 := HB2_10.out.cell 2 rfl
  have c2_3 := HB2_10.out.cell 3 rfl
  have c1_0 := HB1_10.out.cell 0 rfl
  have c1_1 := HB1_10.out.cell 1 rfl
  have c1_2 := HB1_10.out.cell 2 rfl
  go_wp2_with fail
  refine (vSide_err ⟨qs a.x, qs a.y, qs a.z⟩ (k) _ (HG.out.ext HX10.out) HAH.out.ts HKS.out ⟨qs b.x, qs b.y, qs b.z⟩ (terr_4k HKW.out)).mono ?_; rintro e w11 ⟨rfl, e11⟩
  have HX11 : Hid (Ext w w11) := Lib.hid (HX10.out.trans e11)
  have HB0_11 := Lib.hid (Blk.ext HB0_10.out e11)
  clear e11 c2_0 c2_1 c2_2 c2_3 c1_0 c1_1 c1_2
  have c0_0 := HB0_11.out.cell 0 rfl
  have c0_1 := HB0_11.out.cell 1 rfl
  have c0_2 := HB0_11.out.cell 2 rfl
  go_wp2_with fail
  refine (of_0 ⟨qs a.x, qs a.y, qs a.z⟩ _ (HG.out.ext HX11.out) HAH.out.ts HA.out.all).mono ?_; rintro e w12 ⟨rfl, e12⟩
  have HX12 : Hid (Ext w w12) := Lib.hid (HX11.out.trans e12)
  have HB0_12 := Lib.hid (Blk.ext HB0_11.out e12)
  clear e12 c0_0 c0_1 c0_2
  go_wp2_with fail
  refine (fright_no k _ (HG.out.ext HX12.out) HKS.out HKW.out).mono ?_; rintro e w13 ⟨rfl, e13⟩
  have HX13 : Hid (Ext w w13) := Lib.hid (HX12.out.trans e13)
  have HB0_13 := Lib.hid (Blk.ext HB0_12.out e13)
  clear e13
  have c0_0 := HB0_13.out.cell 0 rfl
  have c0_1 := HB0_13.out.cell 1 rfl
  have c0_2 := HB0_13.out.cell 2 rfl
  go_wp2_with fail
  refine (vScale_err2 ⟨qs a.x, qs a.y, qs a.z⟩ (k) _ (HG.out.ext HX13.out) HAH.out.ts HKS.out (verr_10 HA.out.all) (terr_1k HKW.out)).mono ?_; rintro e w14 ⟨rfl, e14⟩
  have HX14 : Hid (Ext w w14) := Lib.hid (HX13.out.trans e14)
  clear e14 c0_0 c0_1 c0_2
  go_wp2
  go_ret
  exact ⟨rfl, (HX14.out.alloc _)⟩

set_option maxRecDepth 100000 in
set_option maxHeartbeats 16000000 in
theorem errors_W6 (a : V3) (b : V3) (q : Rat) (w : World) (g : Gd w) (hah : SH ⟨qs a.x, qs a.y, qs a.z⟩) (hbh : SH ⟨qs b.x, qs b.y, qs b.z⟩) (hk : (qs q).size ≤ 40) (ha : VB 200 a) (hb : VB 200 b) (hq : QB 200 q) (hz : a.x = 0 ∧ a.y = 0 ∧ a.z = 0) : Calls Tryz.prog 10 #[.agg #[.string (qs a.x), .string (qs a.y), .string (qs a.z)], .agg #[.string (qs b.x), .string (qs b.y), .string (qs b.z)], .string (qs q)] w (Ret w (.bool true)) := by
  have HAH := Lib.hid hah
  have HBH := Lib.hid hbh
  have HA := Lib.hid ha
  have HB := Lib.hid hb
  have HQ := Lib.hid hq
  have HZ := Lib.hid hz
  have HG := Lib.hid g
  clear hah hbh ha hb hq hz g
  have HKS : Hid ((qs q).size ≤ 1000000) := Lib.hid (Nat.le_trans hk (by decide))
  have tk : decide ((40 : Int) < ((qs q).size : Int)) = false := decide_eq_false (by omega)
  go_enter Tryz.func10, Tryz.ntmps10
  go_wp2_with fail
  refine (known_c _ (HG.out.ext (((Ext.refl w).alloc _).alloc _))).mono ?_; rintro e w1 ⟨rfl, e1⟩
  have HX1 : Hid (Ext w w1) := Lib.hid ((((Ext.refl w).alloc _).alloc _).trans e1)
  have HB0_1 : Hid (Blk w1 (w.heap.size) #[.string (qs a.x), .string (qs a.y), .string (qs a.z)] 30) := Lib.hid (Blk.ext ((Blk.new' (w := _) (cs := #[.string (qs a.x), .string (qs a.y), .string (qs a.z)]) (t := 30) (by first | rfl | (simp only [World.size_alloc]; done) | (simp only [World.size_alloc]; omega) | simp)).alloc _) e1)
  have HB1_1 : Hid (Blk w1 (w.heap.size + 1) #[.string (qs b.x), .string (qs b.y), .string (qs b.z)] 30) := Lib.hid (Blk.ext (Blk.new' (w := _) (cs := #[.string (qs b.x), .string (qs b.y), .string (qs b.z)]) (t := 30) (by first | rfl | (simp only [World.size_alloc]; done) | (simp only [World.size_alloc]; omega) | simp)) e1)
  have HGEB0 : Hid (w.heap.size ≤ w.heap.size) := Lib.hid (by first | omega | (simp only []; omega) | (simp; omega))
  have HGEB1 : Hid (w.heap.size ≤ w.heap.size + 1) := Lib.hid (by first | omega | (simp only []; omega) | (simp; omega))
  clear e1
  have c0_0 := HB0_1.out.cell 0 rfl
  have c0_1 := HB0_1.out.cell 1 rfl
  have c0_2 := HB0_1.out.cell 2 rfl
  go_wp2_with fail
  refine (short_3 ⟨qs a.x, qs a.y, qs a.z⟩ _ HAH.out.x HAH.out.y HAH.out.z).mono ?_; rintro e w2 ⟨rfl, e2⟩
  have HX2 : Hid (Ext w w2) := Lib.hid (HX1.out.trans e2)
  have HB0_2 := Lib.hid (Blk.ext HB0_1.out e2)
  have HB1_2 := Lib.hid (Blk.ext HB1_1.out e2)
  clear e2 c0_0 c0_1 c0_2
  have c1_0 := HB1_2.out.cell 0 rfl
  have c1_1 := HB1_2.out.cell 1 rfl
  have c1_2 := HB1_2.out.cell 2 rfl
  go_wp2_with fail
  refine (short_3 ⟨qs b.x, qs b.y, qs b.z⟩ _ HBH.out.x HBH.out.y HBH.out.z).mono ?_; rintro e w3 ⟨rfl, e3⟩
  have HX3 : Hid (Ext w w3) := Lib.hid (HX2.out.trans e3)
  have HB0_3 := Lib.hid (Blk.ext HB0_2.out e3)
  have HB1_3 := Lib.hid (Blk.ext HB1_2.out e3)
  clear e3 c1_0 c1_1 c1_2
  have c0_0 := HB0_3.out.cell 0 rfl
  have c0_1 := HB0_3.out.cell 1 rfl
  have c0_2 := HB0_3.out.cell 2 rfl
  go_upto_region 4 with fail
  refine wp_name (fun W => Ext w W ∧ Blk W (w.heap.size) #[.string (qs a.x), .string (qs a.y), .string (qs a.z)] 30 ∧ Blk W (w.heap.size + 1) #[.string (qs b.x), .string (qs b.y), .string (qs b.z)] 30 ∧ Blk W (w3.heap.size) #[.string (qs a.x), .string (qs a.y), .string (qs a.z), .string (qs q)] 48) ⟨(HX3.out.alloc _), (HB0_3.out.alloc _), (HB1_3.out.alloc _), (Blk.new' (w := _) (cs := #[.string (qs a.x), .string (qs a.y), .string (qs a.z), .string (qs q)]) (t := 48) (by first | rfl | (simp only [World.size_alloc]; done) | (simp only [World.size_alloc]; omega) | simp))⟩ ?_
  rintro w4 ⟨e4, bB0_4, bB1_4, bB2_4⟩
  have HX4 := Lib.hid e4; have HB0_4 := Lib.hid bB0_4; have HB1_4 := Lib.hid bB1_4; have HB2_4 := Lib.hid bB2_4
  have HGEB2 : Hid (w.heap.size ≤ w3.heap.size) := Lib.hid (by have := HX3.out.size; first | omega | (simp only []; omega) | (simp; omega))
  clear e4 bB0_4 bB1_4 bB2_4 c0_0 c0_1 c0_2
  have c0_0 := HB0_4.out.cell 0 rfl
  have c0_1 := HB0_4.out.cell 1 rfl
  go_wp2_with fail
  refine wp_name (fun W => Ext w W ∧ Blk W (w.heap.size) #[.string (qs a.x), .string (qs a.y), .string (qs a.z)] 30 ∧ Blk W (w.heap.size + 1) #[.string (qs b.x), .string (qs b.y), .string (qs b.z)] 30 ∧ Blk W (w3.heap.size) #[.string (qs a.x), .string (qs a.y), .string (qs a.z), .string (qs q)] 48 ∧ Blk W (w4.heap.size) #[.string (qs a.x), .string (qs a.y)] 62) ⟨(HX4.out.alloc _), (HB0_4.out.alloc _), (HB1_4.out.alloc _), (HB2_4.out.alloc _), (Blk.new' (w := _) (cs := #[.string (qs a.x), .string (qs a.y)]) (t := 62) (by first | rfl | (simp only [World.size_alloc]; done) | (simp only [World.size_alloc]; omega) | simp))⟩ ?_
  rintro w5 ⟨e5, bB0_5, bB1_5, bB2_5, bB3_5⟩
  have HX5 := Lib.hid e5; have HB0_5 := Lib.hid bB0_5; have HB1_5 := Lib.hid bB1_5; have HB2_5 := Lib.hid bB2_5; have HB3_5 := Lib.hid bB3_5
  have HGEB3 : Hid (w.heap.size ≤ w4.heap.size) := Lib.hid (by have := HX4.out.size; first | omega | (simp only []; omega) | (simp; omega))
  clear e5 bB0_5 bB1_5 bB2_5 bB3_5 c0_0 c0_1
  refine region_lin [.val (.agg #[.string (qs a.x), .string (qs a.y), .string (qs a.z)]), .val (.int .i64 0), .val (.agg #[.string (qs a.x), .string (qs a.y), .string (qs a.z)]), .val (.int .i64 0), .val (.bool false), .val (.bool false), .val (.agg #[.string (qs a.x), .string (qs a.y)]), .val (.int .i64 (terr (T2.l ⟨qs a.x, qs a.y⟩))), .val (.agg #[.string (qs a.x), .string (qs a.y)]), .val (.int .i64 (terr (T2.l ⟨qs a.x, qs a.y⟩))), .val (.bool false), .val (.bool false), .val (.bool false), .val (.agg #[.string (qs a.x), .string (qs a.y), .string (qs a.z), .string (qs q)]), .val (.int .i64 17), .val (.agg #[.string (qs a.x), .string (qs a.y), .string (qs a.z), .string (qs q)]), .val (.int .i64 17), .val (.bool false), .val (.bool false)] (by kernel_rfl) (by kernel_rfl) (by kernel_rfl) ?_ (fun g5 w6 hx_ hm_ hne_ => ?_)
  · skip
    refine RnL.cons (fun g5 A_ W_ hs_ => ?_) ?_
    · have q3_ := (hs_.old 3 (by kernel_rfl) : A_.tmps[3]?.getD undef = .pointer (some ⟨w.heap.size, 0, none⟩))
      have cB0_0 := (HB0_5.out.drew.ext hs_.1).cell 0 rfl
      have cB0_1 := (HB0_5.out.drew.ext hs_.1).cell 1 rfl
      have cB0_2 := (HB0_5.out.drew.ext hs_.1).cell 2 rfl
      refine Rn.val fun K_ hK_ => ?_
      go_simp
      exact hK_.out _ (Ext.refl _)
    refine RnL.cons (fun g5 A_ W_ hs_ => ?_) ?_
    · have q50_ := hs_.val 0 rfl rfl rfl
      refine Rn.val fun K_ hK_ => ?_
      go_simp
      refine (vCheck_ok a _ (HG.out.ext (HX5.out.drew.trans hs_.1)) HA.out).mono ?_; rintro e W9_ ⟨rfl, e9_⟩; exact hK_.out _ e9_
    refine RnL.cons (fun g5 A_ W_ hs_ => ?_) ?_
    · have q3_ := (hs_.old 3 (by kernel_rfl) : A_.tmps[3]?.getD undef = .pointer (some ⟨w.heap.size, 0, none⟩))
      have cB0_0 := (HB0_5.out.drew.ext hs_.1).cell 0 rfl
      have cB0_1 := (HB0_5.out.drew.ext hs_.1).cell 1 rfl
      have cB0_2 := (HB0_5.out.drew.ext hs_.1).cell 2 rfl
      refine Rn.val fun K_ hK_ => ?_
      go_simp
      exact hK_.out _ (Ext.refl _)
    refine RnL.cons (fun g5 A_ W_ hs_ => ?_) ?_
    · have q52_ := hs_.val 2 rfl rfl rfl
      refine Rn.val fun K_ hK_ => ?_
      go_simp
      refine (of_0 ⟨qs a.x, qs a.y, qs a.z⟩ _ (HG.out.ext (HX5.out.drew.trans hs_.1)) HAH.out.ts HA.out.all).mono ?_; rintro e W9_ ⟨rfl, e9_⟩; exact hK_.out _ e9_
    refine RnL.cons (fun g5 A_ W_ hs_ => ?_) ?_
    · have q51_ := hs_.val 1 rfl rfl rfl
      have q53_ := hs_.val 3 rfl rfl rfl
      refine Rn.val fun K_ hK_ => ?_
      go_simp
      exact hK_.out _ (Ext.refl _)
    refine RnL.cons (fun g5 A_ W_ hs_ => ?_) ?_
    · have q54_ := hs_.val 4 rfl rfl rfl
      refine Rn.val fun K_ hK_ => ?_
      go_simp
      exact hK_.out _ (Ext.refl _)
    refine RnL.cons (fun g5 A_ W_ hs_ => ?_) ?_
    · have q8_ := (hs_.old 8 (by kernel_rfl) : A_.tmps[8]?.getD undef = .pointer (some ⟨w4.heap.size, 0, none⟩))
      have cB3_0 := (HB3_5.out.drew.ext hs_.1).cell 0 rfl
      have cB3_1 := (HB3_5.out.drew.ext hs_.1).cell 1 rfl
      refine Rn.val fun K_ hK_ => ?_
      go_simp
      exact hK_.out _ (Ext.refl _)
    refine RnL.cons (fun g5 A_ W_ hs_ => ?_) ?_
    · have q56_ := hs_.val 6 rfl rfl rfl
      refine Rn.val fun K_ hK_ => ?_
      go_simp
      refine (vcheckp_c ⟨qs a.x, qs a.y⟩ _ (HG.out.ext (HX5.out.drew.trans hs_.1)) HAH.out.p).mono ?_; rintro e W9_ ⟨rfl, e9_⟩; exact hK_.out _ e9_
    refine RnL.cons (fun g5 A_ W_ hs_ => ?_) ?_
    · have q8_ := (hs_.old 8 (by kernel_rfl) : A_.tmps[8]?.getD undef = .pointer (some ⟨w4.heap.size, 0, none⟩))
      have cB3_0 := (HB3_5.out.drew.ext hs_.1).cell 0 rfl
      have cB3_1 := (HB3_5.out.drew.ext hs_.1).cell 1 rfl
      refine Rn.val fun K_ hK_ => ?_
      go_simp
      exact hK_.out _ (Ext.refl _)
    refine RnL.cons (fun g5 A_ W_ hs_ => ?_) ?_
    · have q58_ := hs_.val 8 rfl rfl rfl
      refine Rn.val fun K_ hK_ => ?_
      go_simp
      refine (ofpe_c ⟨qs a.x, qs a.y⟩ _ (HG.out.ext (HX5.out.drew.trans hs_.1)) HAH.out.p).mono ?_; rintro e W9_ ⟨rfl, e9_⟩; exact hK_.out _ e9_
    refine RnL.cons (fun g5 A_ W_ hs_ => ?_) ?_
    · have q57_ := hs_.val 7 rfl rfl rfl
      have q59_ := hs_.val 9 rfl rfl rfl
      refine Rn.val fun K_ hK_ => ?_
      go_simp
      exact hK_.out _ (Ext.refl _)
    refine RnL.cons (fun g5 A_ W_ hs_ => ?_) ?_
    · have q55_ := hs_.val 5 rfl rfl rfl
      have q60_ := hs_.val 10 rfl rfl rfl
      refine Rn.val fun K_ hK_ => ?_
      go_simp
      exact hK_.out _ (Ext.refl _)
    refine RnL.cons (fun g5 A_ W_ hs_ => ?_) ?_
    · have q61_ := hs_.val 11 rfl rfl rfl
      refine Rn.val fun K_ hK_ => ?_
      go_simp
      exact hK_.out _ (Ext.refl _)
    refine RnL.cons (fun g5 A_ W_ hs_ => ?_) ?_
    · have q7_ := (hs_.old 7 (by kernel_rfl) : A_.tmps[7]?.getD undef = .pointer (some ⟨w3.heap.size, 0, none⟩))
      have cB2_0 := (HB2_5.out.drew.ext hs_.1).cell 0 rfl
      have cB2_1 := (HB2_5.out.drew.ext hs_.1).cell 1 rfl
      have cB2_2 := (HB2_5.out.drew.ext hs_.1).cell 2 rfl
      have cB2_3 := (HB2_5.out.drew.ext hs_.1).cell 3 rfl
      refine Rn.val fun K_ hK_ => ?_
      go_simp
      exact hK_.out _ (Ext.refl _)
    refine RnL.cons (fun g5 A_ W_ hs_ => ?_) ?_
    · have q63_ := hs_.val 13 rfl rfl rfl
      refine Rn.val fun K_ hK_ => ?_
      go_simp
      refine (vPlane_zero ⟨a, q⟩ _ (HG.out.ext (HX5.out.drew.trans hs_.1)) HA.out HQ.out HZ.out).mono ?_; rintro e W9_ ⟨rfl, e9_⟩; exact hK_.out _ e9_
    refine RnL.cons (fun g5 A_ W_ hs_ => ?_) ?_
    · have q7_ := (hs_.old 7 (by kernel_rfl) : A_.tmps[7]?.getD undef = .pointer (some ⟨w3.heap.size, 0, none⟩))
      have cB2_0 := (HB2_5.out.drew.ext hs_.1).cell 0 rfl
      have cB2_1 := (HB2_5.out.drew.ext hs_.1).cell 1 rfl
      have cB2_2 := (HB2_5.out.drew.ext hs_.1).cell 2 rfl
      have cB2_3 := (HB2_5.out.drew.ext hs_.1).cell 3 rfl
      refine Rn.val fun K_ hK_ => ?_
      go_simp
      exact hK_.out _ (Ext.refl _)
    refine RnL.cons (fun g5 A_ W_ hs_ => ?_) ?_
    · have q65_ := hs_.val 15 rfl rfl rfl
      refine Rn.val fun K_ hK_ => ?_
      go_simp
      refine (scp_z ⟨a, q⟩ _ (HG.out.ext (HX5.out.drew.trans hs_.1)) HA.out HQ.out HZ.out).mono ?_; rintro e W9_ ⟨rfl, e9_⟩; exact hK_.out _ e9_
    refine RnL.cons (fun g5 A_ W_ hs_ => ?_) ?_
    · have q64_ := hs_.val 14 rfl rfl rfl
      have q66_ := hs_.val 16 rfl rfl rfl
      refine Rn.val fun K_ hK_ => ?_
      go_simp
      exact hK_.out _ (Ext.refl _)
    refine RnL.cons (fun g5 A_ W_ hs_ => ?_) ?_
    · have q62_ := hs_.val 12 rfl rfl rfl
      have q67_ := hs_.val 17 rfl rfl rfl
      refine Rn.val fun K_ hK_ => ?_
      go_simp
      exact hK_.out _ (Ext.refl _)
    exact RnL.nil
  simp only [fs, Kd.value, puts, Act.put, List.setIfInBounds_toArray, List.set_cons_zero, List.set_cons_succ]
  have HX6 : Hid (Ext w w6) := Lib.hid (HX5.out.drew.trans hx_)
  have HB0_6 := Lib.hid (HB0_5.out.drew.ext hx_)
  have HB1_6 := Lib.hid (HB1_5.out.drew.ext hx_)
  have HB2_6 := Lib.hid (HB2_5.out.drew.ext hx_)
  clear hx_ hm_ hne_
  go_wp2_with fail
  refine wp_name (fun W => Ext w W ∧ Blk W (w.heap.size) #[.string (qs a.x), .string (qs a.y), .string (qs a.z)] 30 ∧ Blk W (w.heap.size + 1) #[.string (qs b.x), .string (qs b.y), .string (qs b.z)] 30 ∧ Blk W (w3.heap.size) #[.string (qs a.x), .string (qs a.y), .string (qs a.z), .string (qs q)] 48) ⟨HX6.out, HB0_6.out, HB1_6.out, HB2_6.out⟩ ?_
  rintro w7 ⟨e7, bB0_7, bB1_7, bB2_7⟩
  have HX7 := Lib.hid e7; have HB0_7 := Lib.hid bB0_7; have HB1_7 := Lib.hid bB1_7; have HB2_7 := Lib.hid bB2_7
  clear e7 bB0_7 bB1_7 bB2_7
  refine region_lin [.val (.agg #[.string (qs a.x), .string (qs a.y), .string (qs a.z)]), .val (.int .i64 0), .val (.agg #[.string (qs b.x), .string (qs b.y), .string (qs b.z)]), .val (.int .i64 0), .mem (fun b_ => .slice (some ⟨b_, 0, none⟩) 2 2) #[.int .i64 0, .int .i64 0] 32 Option.none, .val (.int .i64 0), .val (.int .i64 0)] (by kernel_rfl) (by kernel_rfl) (by kernel_rfl) ?_ (fun g7 w8 hx_ hm_ hne_ => ?_)
  · skip
    refine RnL.cons (fun g7 A_ W_ hs_ => ?_) ?_
    · have q3_ := (hs_.old 3 (by kernel_rfl) : A_.tmps[3]?.getD undef = .pointer (some ⟨w.heap.size, 0, none⟩))
      have cB0_0 := (HB0_7.out.drew.ext hs_.1).cell 0 rfl
      have cB0_1 := (HB0_7.out.drew.ext hs_.1).cell 1 rfl
      have cB0_2 := (HB0_7.out.drew.ext hs_.1).cell 2 rfl
      refine Rn.val fun K_ hK_ => ?_
      go_simp
      exact hK_.out _ (Ext.refl _)
    refine RnL.cons (fun g7 A_ W_ hs_ => ?_) ?_
    · have q69_ := hs_.val 0 rfl rfl rfl
      refine Rn.val fun K_ hK_ => ?_
      go_simp
      refine (of_0 ⟨qs a.x, qs a.y, qs a.z⟩ _ (HG.out.ext (HX7.out.drew.trans hs_.1)) HAH.out.ts HA.out.all).mono ?_; rintro e W9_ ⟨rfl, e9_⟩; exact hK_.out _ e9_
    refine RnL.cons (fun g7 A_ W_ hs_ => ?_) ?_
    · have q4_ := (hs_.old 4 (by kernel_rfl) : A_.tmps[4]?.getD undef = .pointer (some ⟨w.heap.size + 1, 0, none⟩))
      have cB1_0 := (HB1_7.out.drew.ext hs_.1).cell 0 rfl
      have cB1_1 := (HB1_7.out.drew.ext hs_.1).cell 1 rfl
      have cB1_2 := (HB1_7.out.drew.ext hs_.1).cell 2 rfl
      refine Rn.val fun K_ hK_ => ?_
      go_simp
      exact hK_.out _ (Ext.refl _)
    refine RnL.cons (fun g7 A_ W_ hs_ => ?_) ?_
    · have q71_ := hs_.val 2 rfl rfl rfl
      refine Rn.val fun K_ hK_ => ?_
      go_simp
      refine (of_0 ⟨qs b.x, qs b.y, qs b.z⟩ _ (HG.out.ext (HX7.out.drew.trans hs_.1)) HBH.out.ts HB.out.all).mono ?_; rintro e W9_ ⟨rfl, e9_⟩; exact hK_.out _ e9_
    refine RnL.cons (fun g7 A_ W_ hs_ => ?_) ?_
    · have q70_ := hs_.val 1 rfl rfl rfl
      have q72_ := hs_.val 3 rfl rfl rfl
      refine Rn.mem fun K_ hK_ => ?_
      go_simp
      exact hK_.out
    refine RnL.cons (fun g7 A_ W_ hs_ => ?_) ?_
    · have q73_ := (hs_.mem 4 rfl rfl rfl).1
      refine Rn.val fun K_ hK_ => ?_
      go_simp
      refine (((by decide : ferr [0, 0] = 0) ▸ first2_c 0 0 (g7 4) _ ((hs_.mem 4 rfl rfl rfl).2.2 rfl))).mono ?_; rintro e _ ⟨rfl, rfl⟩; exact hK_.out _ (Ext.refl _)
    refine RnL.cons (fun g7 A_ W_ hs_ => ?_) ?_
    · have q74_ := hs_.val 5 rfl rfl rfl
      refine Rn.val fun K_ hK_ => ?_
      go_simp
      exact hK_.out _ (Ext.refl _)
    exact RnL.nil
  simp only [fs, Kd.value, puts, Act.put, List.setIfInBounds_toArray, List.set_cons_zero, List.set_cons_succ, Nat.reduceAdd]
  have HX8 : Hid (Ext w w8) := Lib.hid (HX7.out.drew.trans hx_)
  have HB0_8 := Lib.hid (HB0_7.out.drew.ext hx_)
  have HB1_8 := Lib.hid (HB1_7.out.drew.ext hx_)
  have HB2_8 := Lib.hid (HB2_7.out.drew.ext hx_)
  have HB4_8 : Hid (Blk w8 (g7 4) #[.int .i64 0, .int .i64 0] 32) := Lib.hid (hm_ 4 _ _ _ _ rfl).2; have HGEB4 : Hid (w.heap.size ≤ g7 4) := Lib.hid (Nat.le_trans HX7.out.size (hm_ 4 _ _ _ _ rfl).1)
  have HNEB0B4 : Hid (w.heap.size ≠ g7 4) := Lib.hid (Nat.ne_of_lt (Nat.lt_of_lt_of_le HB0_7.out.lt (hm_ 4 _ _ _ _ rfl).1))
  have HNEB1B4 : Hid (w.heap.size + 1 ≠ g7 4) := Lib.hid (Nat.ne_of_lt (Nat.lt_of_lt_of_le HB1_7.out.lt (hm_ 4 _ _ _ _ rfl).1))
  have HNEB2B4 : Hid (w3.heap.size ≠ g7 4) := Lib.hid (Nat.ne_of_lt (Nat.lt_of_lt_of_le HB2_7.out.lt (hm_ 4 _ _ _ _ rfl).1))
  clear hx_ hm_ hne_
  generalize g7 4 = i4 at *
  clear g7
  go_wp2_with fail
  refine wp_name (fun W => Ext w W ∧ Blk W (w.heap.size) #[.string (qs a.x), .string (qs a.y), .string (qs a.z)] 30 ∧ Blk W (w.heap.size + 1) #[.string (qs b.x), .string (qs b.y), .string (qs b.z)] 30 ∧ Blk W (w3.heap.size) #[.string (qs a.x), .string (qs a.y), .string (qs a.z), .string (qs q)] 48) ⟨HX8.out, HB0_8.out, HB1_8.out, HB2_8.out⟩ ?_
  rintro w9 ⟨e9, bB0_9, bB1_9, bB2_9⟩
  have HX9 := Lib.hid e9; have HB0_9 := Lib.hid bB0_9; have HB1_9 := Lib.hid bB1_9; have HB2_9 := Lib.hid bB2_9
  clear e9 bB0_9 bB1_9 bB2_9
  refine region_lin [.val (.agg #[.string (qs a.x), .string (qs a.y), .string (qs a.z), .string (qs q)]), .val (.int .i64 17), .val (.agg #[.string (qs b.x), .string (qs b.y), .string (qs b.z)]), .val (.int .i64 0), .mem (fun b_ => .slice (some ⟨b_, 0, none⟩) 2 2) #[.int .i64 17, .int .i64 0] 32 Option.none, .val (.int .i64 17), .val (.int .i64 17)] (by kernel_rfl) (by kernel_rfl) (by kernel_rfl) ?_ (fun g9 w10 hx_ hm_ hne_ => ?_)
  · skip
    refine RnL.cons (fun g9 A_ W_ hs_ => ?_) ?_
    · have q7_ := (hs_.old 7 (by kernel_rfl) : A_.tmps[7]?.getD undef = .pointer (some ⟨w3.heap.size, 0, none⟩))
      have cB2_0 := (HB2_9.out.drew.ext hs_.1).cell 0 rfl
      have cB2_1 := (HB2_9.out.drew.ext hs_.1).cell 1 rfl
      have cB2_2 := (HB2_9.out.drew.ext hs_.1).cell 2 rfl
      have cB2_3 := (HB2_9.out.drew.ext hs_.1).cell 3 rfl
      refine Rn.val fun K_ hK_ => ?_
      go_simp
      exact hK_.out _ (Ext.refl _)
    refine RnL.cons (fun g9 A_ W_ hs_ => ?_) ?_
    · have q152_ := hs_.val 0 rfl rfl rfl
      refine Rn.val fun K_ hK_ => ?_
      go_simp
      refine (scp_z ⟨a, q⟩ _ (HG.out.ext (HX9.out.drew.trans hs_.1)) HA.out HQ.out HZ.out).mono ?_; rintro e W9_ ⟨rfl, e9_⟩; exact hK_.out _ e9_
    refine RnL.cons (fun g9 A_ W_ hs_ => ?_) ?_
    · have q4_ := (hs_.old 4 (by kernel_rfl) : A_.tmps[4]?.getD undef = .pointer (some ⟨w.heap.size + 1, 0, none⟩))
      have cB1_0 := (HB1_9.out.drew.ext hs_.1).cell 0 rfl
      have cB1_1 := (HB1_9.out.drew.ext hs_.1).cell 1 rfl
      have cB1_2 := (HB1_9.out.drew.ext hs_.1).cell 2 rfl
      refine Rn.val fun K_ hK_ => ?_
      go_simp
      exact hK_.out _ (Ext.refl _)
    refine RnL.cons (fun g9 A_ W_ hs_ => ?_) ?_
    · have q154_ := hs_.val 2 rfl rfl rfl
      refine Rn.val fun K_ hK_ => ?_
      go_simp
      refine (of_0 ⟨qs b.x, qs b.y, qs b.z⟩ _ (HG.out.ext (HX9.out.drew.trans hs_.1)) HBH.out.ts HB.out.all).mono ?_; rintro e W9_ ⟨rfl, e9_⟩; exact hK_.out _ e9_
    refine RnL.cons (fun g9 A_ W_ hs_ => ?_) ?_
    · have q153_ := hs_.val 1 rfl rfl rfl
      have q155_ := hs_.val 3 rfl rfl rfl
      refine Rn.mem fun K_ hK_ => ?_
      go_simp
      exact hK_.out
    refine RnL.cons (fun g9 A_ W_ hs_ => ?_) ?_
    · have q156_ := (hs_.mem 4 rfl rfl rfl).1
      refine Rn.val fun K_ hK_ => ?_
      go_simp
      refine (((by decide : ferr [17, 0] = 17) ▸ first2_c 17 0 (g9 4) _ ((hs_.mem 4 rfl rfl rfl).2.2 rfl))).mono ?_; rintro e _ ⟨rfl, rfl⟩; exact hK_.out _ (Ext.refl _)
    refine RnL.cons (fun g9 A_ W_ hs_ => ?_) ?_
    · have q157_ := hs_.val 5 rfl rfl rfl
      refine Rn.val fun K_ hK_ => ?_
      go_simp
      exact hK_.out _ (Ext.refl _)
    exact RnL.nil
  simp only [fs, Kd.value, puts, Act.put, List.setIfInBounds_toArray, List.set_cons_zero, List.set_cons_succ, Nat.reduceAdd]
  have HX10 : Hid (Ext w w10) := Lib.hid (HX9.out.drew.trans hx_)
  have HB0_10 := Lib.hid (HB0_9.out.drew.ext hx_)
  have HB1_10 := Lib.hid (HB1_9.out.drew.ext hx_)
  have HB2_10 := Lib.hid (HB2_9.out.drew.ext hx_)
  have HB5_10 : Hid (Blk w10 (g9 4) #[.int .i64 17, .int .i64 0] 32) := Lib.hid (hm_ 4 _ _ _ _ rfl).2; have HGEB5 : Hid (w.heap.size ≤ g9 4) := Lib.hid (Nat.le_trans HX9.out.size (hm_ 4 _ _ _ _ rfl).1)
  have HNEB0B5 : Hid (w.heap.size ≠ g9 4) := Lib.hid (Nat.ne_of_lt (Nat.lt_of_lt_of_le HB0_9.out.lt (hm_ 4 _ _ _ _ rfl).1))
  have HNEB1B5 : Hid (w.heap.size + 1 ≠ g9 4) := Lib.hid (Nat.ne_of_lt (Nat.lt_of_lt_of_le HB1_9.out.lt (hm_ 4 _ _ _ _ rfl).1))
  have HNEB2B5 : Hid (w3.heap.size ≠ g9 4) := Lib.hid (Nat.ne_of_lt (Nat.lt_of_lt_of_le HB2_9.out.lt (hm_ 4 _ _ _ _ rfl).1))
  clear hx_ hm_ hne_
  generalize g9 4 = i5 at *
  clear g9
  have c2_0 := HB2_10.out.cell 0 rfl
  have c2_1 := HB2_10.out.cell 1 rfl
  have c2_2 := HB2_10.out.cell 2 rfl
  have c2_3 := HB2_10.out.cell 3 rfl
  have c1_0 := HB1_10.out.cell 0 rfl
  have c1_1 := HB1_10.out.cell 1 rfl
  have c1_2 := HB1_10.out.cell 2 rfl
  go_wp2_with fail
  refine (vSide_zero ⟨a, q⟩ ⟨qs b.x, qs b.y, qs b.z⟩ _ (HG.out.ext HX10.out) HA.out HQ.out HZ.out).mono ?_; rintro e w11 ⟨rfl, e11⟩
  have HX11 : Hid (Ext w w11) := Lib.hid (HX10.out.trans e11)
  have HB0_11 := Lib.hid (Blk.ext HB0_10.out e11)
  clear e11 c2_0 c2_1 c2_2 c2_3 c1_0 c1_1 c1_2
  have c0_0 := HB0_11.out.cell 0 rfl
  have c0_1 := HB0_11.out.cell 1 rfl
  have c0_2 := HB0_11.out.cell 2 rfl
  go_wp2_with fail
  refine (of_0 ⟨qs a.x, qs a.y, qs a.z⟩ _ (HG.out.ext HX11.out) HAH.out.ts HA.out.all).mono ?_; rintro e w12 ⟨rfl, e12⟩
  have HX12 : Hid (Ext w w12) := Lib.hid (HX11.out.trans e12)
  clear e12 c0_0 c0_1 c0_2
  go_wp2_with fail
  refine (fright_yes (qs q) _ (HG.out.ext HX12.out) HKS.out (rq_qs HQ.out)).mono ?_; rintro e w13 ⟨rfl, e13⟩
  have HX13 : Hid (Ext w w13) := Lib.hid (HX12.out.trans e13)
  clear e13
  go_wp2
  go_ret
  exact ⟨rfl, HX13.out⟩

set_option maxRecDepth 100000 in
set_option maxHeartbeats 16000000 in
theorem errors_W7 (a : V3) (b : V3) (q : Rat) (w : World) (g : Gd w) (hah : SH ⟨qs a.x, qs a.y, qs a.z⟩) (hbh : SH ⟨qs b.x, qs b.y, qs b.z⟩) (hk : (qs q).size ≤ 40) (ha : VB 200 a) (hb : VB 200 b) (hq : QB 200 q) (hz : ¬ (a.x = 0 ∧ a.y = 0 ∧ a.z = 0)) : Calls Tryz.prog 10 #[.agg #[.string (qs a.x), .string (qs a.y), .string (qs a.z)], .agg #[.string (qs b.x), .string (qs b.y), .string (qs b.z)], .string (qs q)] w (Ret w (.bool true)) := by
  have HAH := Lib.hid hah
  have HBH := Lib.hid hbh
  have HA := Lib.hid ha
  have HB := Lib.hid hb
  have HQ := Lib.hid hq
  have HZ := Lib.hid hz
  have HG := Lib.hid g
  clear hah hbh ha hb hq hz g
  have HKS : Hid ((qs q).size ≤ 1000000) := Lib.hid (Nat.le_trans hk (by decide))
  have tk : decide ((40 : Int) < ((qs q).size : Int)) = false := decide_eq_false (by omega)
  go_enter Tryz.func10, Tryz.ntmps10
  go_wp2_with fail
  refine (known_c _ (HG.out.ext (((Ext.refl w).alloc _).alloc _))).mono ?_; rintro e w1 ⟨rfl, e1⟩
  have HX1 : Hid (Ext w w1) := Lib.hid ((((Ext.refl w).alloc _).alloc _).trans e1)
  have HB0_1 : Hid (Blk w1 (w.heap.size) #[.string (qs a.x), .string (qs a.y), .string (qs a.z)] 30) := Lib.hid (Blk.ext ((Blk.new' (w := _) (cs := #[.string (qs a.x), .string (qs a.y), .string (qs a.z)]) (t := 30) (by first | rfl | (simp only [World.size_alloc]; done) | (simp only [World.size_alloc]; omega) | simp)).alloc _) e1)
  have HB1_1 : Hid (Blk w1 (w.heap.size + 1) #[.string (qs b.x), .string (qs b.y), .string (qs b.z)] 30) := Lib.hid (Blk.ext (Blk.new' (w := _) (cs := #[.string (qs b.x), .string (qs b.y), .string (qs b.z)]) (t := 30) (by first | rfl | (simp only [World.size_alloc]; done) | (simp only [World.size_alloc]; omega) | simp)) e1)
  have HGEB0 : Hid (w.heap.size ≤ w.heap.size) := Lib.hid (by first | omega | (simp only []; omega) | (simp; omega))
  have HGEB1 : Hid (w.heap.size ≤ w.heap.size + 1) := Lib.hid (by first | omega | (simp only []; omega) | (simp; omega))
  clear e1
  have c0_0 := HB0_1.out.cell 0 rfl
  have c0_1 := HB0_1.out.cell 1 rfl
  have c0_2 := HB0_1.out.cell 2 rfl
  go_wp2_with fail
  refine (short_3 ⟨qs a.x, qs a.y, qs a.z⟩ _ HAH.out.x HAH.out.y HAH.out.z).mono ?_; rintro e w2 ⟨rfl, e2⟩
  have HX2 : Hid (Ext w w2) := Lib.hid (HX1.out.trans e2)
  have HB0_2 := Lib.hid (Blk.ext HB0_1.out e2)
  have HB1_2 := Lib.hid (Blk.ext HB1_1.out e2)
  clear e2 c0_0 c0_1 c0_2
  have c1_0 := HB1_2.out.cell 0 rfl
  have c1_1 := HB1_2.out.cell 1 rfl
  have c1_2 := HB1_2.out.cell 2 rfl
  go_wp2_with fail
  refine (short_3 ⟨qs b.x, qs b.y, qs b.z⟩ _ HBH.out.x HBH.out.y HBH.out.z).mono ?_; rintro e w3 ⟨rfl, e3⟩
  have HX3 : Hid (Ext w w3) := Lib.hid (HX2.out.trans e3)
  have HB0_3 := Lib.hid (Blk.ext HB0_2.out e3)
  have HB1_3 := Lib.hid (Blk.ext HB1_2.out e3)
  clear e3 c1_0 c1_1 c1_2
  have c0_0 := HB0_3.out.cell 0 rfl
  have c0_1 := HB0_3.out.cell 1 rfl
  have c0_2 := HB0_3.out.cell 2 rfl
  go_upto_region 4 with fail
  refine wp_name (fun W => Ext w W ∧ Blk W (w.heap.size) #[.string (qs a.x), .string (qs a.y), .string (qs a.z)] 30 ∧ Blk W (w.heap.size + 1) #[.string (qs b.x), .string (qs b.y), .string (qs b.z)] 30 ∧ Blk W (w3.heap.size) #[.string (qs a.x), .string (qs a.y), .string (qs a.z), .string (qs q)] 48) ⟨(HX3.out.alloc _), (HB0_3.out.alloc _), (HB1_3.out.alloc _), (Blk.new' (w := _) (cs := #[.string (qs a.x), .string (qs a.y), .string (qs a.z), .string (qs q)]) (t := 48) (by first | rfl | (simp only [World.size_alloc]; done) | (simp only [World.size_alloc]; omega) | simp))⟩ ?_
  rintro w4 ⟨e4, bB0_4, bB1_4, bB2_4⟩
  have HX4 := Lib.hid e4; have HB0_4 := Lib.hid bB0_4; have HB1_4 := Lib.hid bB1_4; have HB2_4 := Lib.hid bB2_4
  have HGEB2 : Hid (w.heap.size ≤ w3.heap.size) := Lib.hid (by have := HX3.out.size; first | omega | (simp only []; omega) | (simp; omega))
  clear e4 bB0_4 bB1_4 bB2_4 c0_0 c0_1 c0_2
  have c0_0 := HB0_4.out.cell 0 rfl
  have c0_1 := HB0_4.out.cell 1 rfl
  go_wp2_with fail
  refine wp_name (fun W => Ext w W ∧ Blk W (w.heap.size) #[.string (qs a.x), .string (qs a.y), .string (qs a.z)] 30 ∧ Blk W (w.heap.size + 1) #[.string (qs b.x), .string (qs b.y), .string (qs b.z)] 30 ∧ Blk W (w3.heap.size) #[.string (qs a.x), .string (qs a.y), .string (qs a.z), .string (qs q)] 48 ∧ Blk W (w4.heap.size) #[.string (qs a.x), .string (qs a.y)] 62) ⟨(HX4.out.alloc _), (HB0_4.out.alloc _), (HB1_4.out.alloc _), (HB2_4.out.alloc _), (Blk.new' (w := _) (cs := #[.string (qs a.x), .string (qs a.y)]) (t := 62) (by first | rfl | (simp only [World.size_alloc]; done) | (simp only [World.size_alloc]; omega) | simp))⟩ ?_
  rintro w5 ⟨e5, bB0_5, bB1_5, bB2_5, bB3_5⟩
  have HX5 := Lib.hid e5; have HB0_5 := Lib.hid bB0_5; have HB1_5 := Lib.hid bB1_5; have HB2_5 := Lib.hid bB2_5; have HB3_5 := Lib.hid bB3_5
  have HGEB3 : Hid (w.heap.size ≤ w4.heap.size) := Lib.hid (by have := HX4.out.size; first | omega | (simp only []; omega) | (simp; omega))
  clear e5 bB0_5 bB1_5 bB2_5 bB3_5 c0_0 c0_1
  refine region_lin [.val (.agg #[.string (qs a.x), .string (qs a.y), .string (qs a.z)]), .val (.int .i64 0), .val (.agg #[.string (qs a.x), .string (qs a.y), .string (qs a.z)]), .val (.int .i64 0), .val (.bool false), .val (.bool false), .val (.agg #[.string (qs a.x), .string (qs a.y)]), .val (.int .i64 (terr (T2.l ⟨qs a.x, qs a.y⟩))), .val (.agg #[.string (qs a.x), .string (qs a.y)]), .val (.int .i64 (terr (T2.l ⟨qs a.x, qs a.y⟩))), .val (.bool false), .val (.bool false), .val (.bool false), .val (.agg #[.string (qs a.x), .string (qs a.y), .string (qs a.z), .string (qs q)]), .val (.int .i64 0), .val (.agg #[.string (qs a.x), .string (qs a.y), .string (qs a.z), .string (qs q)]), .val (.int .i64 0), .val (.bool false), .val (.bool false)] (by kernel_rfl) (by kernel_rfl) (by kernel_rfl) ?_ (fun g5 w6 hx_ hm_ hne_ => ?_)
  · skip
    refine RnL.cons (fun g5 A_ W_ hs_ => ?_) ?_
    · have q3_ := (hs_.old 3 (by kernel_rfl) : A_.tmps[3]?.getD undef = .pointer (some ⟨w.heap.size, 0, none⟩))
      have cB0_0 := (HB0_5.out.drew.ext hs_.1).cell 0 rfl
      have cB0_1 := (HB0_5.out.drew.ext hs_.1).cell 1 rfl
      have cB0_2 := (HB0_5.out.drew.ext hs_.1).cell 2 rfl
      refine Rn.val fun K_ hK_ => ?_
      go_simp
      exact hK_.out _ (Ext.refl _)
    refine RnL.cons (fun g5 A_ W_ hs_ => ?_) ?_
    · have q50_ := hs_.val 0 rfl rfl rfl
      refine Rn.val fun K_ hK_ => ?_
      go_simp
      refine (vCheck_ok a _ (HG.out.ext (HX5.out.drew.trans hs_.1)) HA.out).mono ?_; rintro e W9_ ⟨rfl, e9_⟩; exact hK_.out _ e9_
    refine RnL.cons (fun g5 A_ W_ hs_ => ?_) ?_
    · have q3_ := (hs_.old 3 (by kernel_rfl) : A_.tmps[3]?.getD undef = .pointer (some ⟨w.heap.size, 0, none⟩))
      have cB0_0 := (HB0_5.out.drew.ext hs_.1).cell 0 rfl
      have cB0_1 := (HB0_5.out.drew.ext hs_.1).cell 1 rfl
      have cB0_2 := (HB0_5.out.drew.ext hs_.1).cell 2 rfl
      refine Rn.val fun K_ hK_ => ?_
      go_simp
      exact hK_.out _ (Ext.refl _)
    refine RnL.cons (fun g5 A_ W_ hs_ => ?_) ?_
    · have q52_ := hs_.val 2 rfl rfl rfl
      refine Rn.val fun K_ hK_ => ?_
      go_simp
      refine (of_0 ⟨qs a.x, qs a.y, qs a.z⟩ _ (HG.out.ext (HX5.out.drew.trans hs_.1)) HAH.out.ts HA.out.all).mono ?_; rintro e W9_ ⟨rfl, e9_⟩; exact hK_.out _ e9_
    refine RnL.cons (fun g5 A_ W_ hs_ => ?_) ?_
    · have q51_ := hs_.val 1 rfl rfl rfl
      have q53_ := hs_.val 3 rfl rfl rfl
      refine Rn.val fun K_ hK_ => ?_
      go_simp
      exact hK_.out _ (Ext.refl _)
    refine RnL.cons (fun g5 A_ W_ hs_ => ?_) ?_
    · have q54_ := hs_.val 4 rfl rfl rfl
      refine Rn.val fun K_ hK_ => ?_
      go_simp
      exact hK_.out _ (Ext.refl _)
    refine RnL.cons (fun g5 A_ W_ hs_ => ?_) ?_
    · have q8_ := (hs_.old 8 (by kernel_rfl) : A_.tmps[8]?.getD undef = .pointer (some ⟨w4.heap.size, 0, none⟩))
      have cB3_0 := (HB3_5.out.drew.ext hs_.1).cell 0 rfl
      have cB3_1 := (HB3_5.out.drew.ext hs_.1).cell 1 rfl
      refine Rn.val fun K_ hK_ => ?_
      go_simp
      exact hK_.out _ (Ext.refl _)
    refine RnL.cons (fun g5 A_ W_ hs_ => ?_) ?_
    · have q56_ := hs_.val 6 rfl rfl rfl
      refine Rn.val fun K_ hK_ => ?_
      go_simp
      refine (vcheckp_c ⟨qs a.x, qs a.y⟩ _ (HG.out.ext (HX5.out.drew.trans hs_.1)) HAH.out.p).mono ?_; rintro e W9_ ⟨rfl, e9_⟩; exact hK_.out _ e9_
    refine RnL.cons (fun g5 A_ W_ hs_ => ?_) ?_
    · have q8_ := (hs_.old 8 (by kernel_rfl) : A_.tmps[8]?.getD undef = .pointer (some ⟨w4.heap.size, 0, none⟩))
      have cB3_0 := (HB3_5.out.drew.ext hs_.1).cell 0 rfl
      have cB3_1 := (HB3_5.out.drew.ext hs_.1).cell 1 rfl
      refine Rn.val fun K_ hK_ => ?_
      go_simp
      exact hK_.out _ (Ext.refl _)
    refine RnL.cons (fun g5 A_ W_ hs_ => ?_) ?_
    · have q58_ := hs_.val 8 rfl rfl rfl
      refine Rn.val fun K_ hK_ => ?_
      go_simp
      refine (ofpe_c ⟨qs a.x, qs a.y⟩ _ (HG.out.ext (HX5.out.drew.trans hs_.1)) HAH.out.p).mono ?_; rintro e W9_ ⟨rfl, e9_⟩; exact hK_.out _ e9_
    refine RnL.cons (fun g5 A_ W_ hs_ => ?_) ?_
    · have q57_ := hs_.val 7 rfl rfl rfl
      have q59_ := hs_.val 9 rfl rfl rfl
      refine Rn.val fun K_ hK_ => ?_
      go_simp
      exact hK_.out _ (Ext.refl _)
    refine RnL.cons (fun g5 A_ W_ hs_ => ?_) ?_
    · have q55_ := hs_.val 5 rfl rfl rfl
      have q60_ := hs_.val 10 rfl rfl rfl
      refine Rn.val fun K_ hK_ => ?_
      go_simp
      exact hK_.out _ (Ext.refl _)
    refine RnL.cons (fun g5 A_ W_ hs_ => ?_) ?_
    · have q61_ := hs_.val 11 rfl rfl rfl
      refine Rn.val fun K_ hK_ => ?_
      go_simp
      exact hK_.out _ (Ext.refl _)
    refine RnL.cons (fun g5 A_ W_ hs_ => ?_) ?_
    · have q7_ := (hs_.old 7 (by kernel_rfl) : A_.tmps[7]?.getD undef = .pointer (some ⟨w3.heap.size, 0, none⟩))
      have cB2_0 := (HB2_5.out.drew.ext hs_.1).cell 0 rfl
      have cB2_1 := (HB2_5.out.drew.ext hs_.1).cell 1 rfl
      have cB2_2 := (HB2_5.out.drew.ext hs_.1).cell 2 rfl
      have cB2_3 := (HB2_5.out.drew.ext hs_.1).cell 3 rfl
      refine Rn.val fun K_ hK_ => ?_
      go_simp
      exact hK_.out _ (Ext.refl _)
    refine RnL.cons (fun g5 A_ W_ hs_ => ?_) ?_
    · have q63_ := hs_.val 13 rfl rfl rfl
      refine Rn.val fun K_ hK_ => ?_
      go_simp
      refine (vPlane_ok ⟨a, q⟩ _ (HG.out.ext (HX5.out.drew.trans hs_.1)) HA.out HQ.out HZ.out).mono ?_; rintro e W9_ ⟨rfl, e9_⟩; exact hK_.out _ e9_
    refine RnL.cons (fun g5 A_ W_ hs_ => ?_) ?_
    · have q7_ := (hs_.old 7 (by kernel_rfl) : A_.tmps[7]?.getD undef = .pointer (some ⟨w3.heap.size, 0, none⟩))
      have cB2_0 := (HB2_5.out.drew.ext hs_.1).cell 0 rfl
      have cB2_1 := (HB2_5.out.drew.ext hs_.1).cell 1 rfl
      have cB2_2 := (HB2_5.out.drew.ext hs_.1).cell 2 rfl
      have cB2_3 := (HB2_5.out.drew.ext hs_.1).cell 3 rfl
      refine Rn.val fun K_ hK_ => ?_
      go_simp
      exact hK_.out _ (Ext.refl _)
    refine RnL.cons (fun g5 A_ W_ hs_ => ?_) ?_
    · have q65_ := hs_.val 15 rfl rfl rfl
      refine Rn.val fun K_ hK_ => ?_
      go_simp
      refine (scp_n ⟨a, q⟩ _ (HG.out.ext (HX5.out.drew.trans hs_.1)) HA.out HQ.out HZ.out).mono ?_; rintro e W9_ ⟨rfl, e9_⟩; exact hK_.out _ e9_
    refine RnL.cons (fun g5 A_ W_ hs_ => ?_) ?_
    · have q64_ := hs_.val 14 rfl rfl rfl
      have q66_ := hs_.val 16 rfl rfl rfl
      refine Rn.val fun K_ hK_ => ?_
      go_simp
      exact hK_.out _ (Ext.refl _)
    refine RnL.cons (fun g5 A_ W_ hs_ => ?_) ?_
    · have q62_ := hs_.val 12 rfl rfl rfl
      have q67_ := hs_.val 17 rfl rfl rfl
      refine Rn.val fun K_ hK_ => ?_
      go_simp
      exact hK_.out _ (Ext.refl _)
    exact RnL.nil
  simp only [fs, Kd.value, puts, Act.put, List.setIfInBounds_toArray, List.set_cons_zero, List.set_cons_succ]
  have HX6 : Hid (Ext w w6) := Lib.hid (HX5.out.drew.trans hx_)
  have HB0_6 := Lib.hid (HB0_5.out.drew.ext hx_)
  have HB1_6 := Lib.hid (HB1_5.out.drew.ext hx_)
  have HB2_6 := Lib.hid (HB2_5.out.drew.ext hx_)
  clear hx_ hm_ hne_
  go_wp2_with fail
  refine wp_name (fun W => Ext w W ∧ Blk W (w.heap.size) #[.string (qs a.x), .string (qs a.y), .string (qs a.z)] 30 ∧ Blk W (w.heap.size + 1) #[.string (qs b.x), .string (qs b.y), .string (qs b.z)] 30 ∧ Blk W (w3.heap.size) #[.string (qs a.x), .string (qs a.y), .string (qs a.z), .string (qs q)] 48) ⟨HX6.out, HB0_6.out, HB1_6.out, HB2_6.out⟩ ?_
  rintro w7 ⟨e7, bB0_7, bB1_7, bB2_7⟩
  have HX7 := Lib.hid e7; have HB0_7 := Lib.hid bB0_7; have HB1_7 := Lib.hid bB1_7; have HB2_7 := Lib.hid bB2_7
  clear e7 bB0_7 bB1_7 bB2_7
  refine region_lin [.val (.agg #[.string (qs a.x), .string (qs a.y), .string (qs a.z)]), .val (.int .i64 0), .val (.agg #[.string (qs b.x), .string (qs b.y), .string (qs b.z)]), .val (.int .i64 0), .mem (fun b_ => .slice (some ⟨b_, 0, none⟩) 2 2) #[.int .i64 0, .int .i64 0] 32 Option.none, .val (.int .i64 0), .val (.int .i64 0)] (by kernel_rfl) (by kernel_rfl) (by kernel_rfl) ?_ (fun g7 w8 hx_ hm_ hne_ => ?_)
  · skip
    refine RnL.cons (fun g7 A_ W_ hs_ => ?_) ?_
    · have q3_ := (hs_.old 3 (by kernel_rfl) : A_.tmps[3]?.getD undef = .pointer (some ⟨w.heap.size, 0, none⟩))
      have cB0_0 := (HB0_7.out.drew.ext hs_.1).cell 0 rfl
      have cB0_1 := (HB0_7.out.drew.ext hs_.1).cell 1 rfl
      have cB0_2 := (HB0_7.out.drew.ext hs_.1).cell 2 rfl
      refine Rn.val fun K_ hK_ => ?_
      go_simp
      exact hK_.out _ (Ext.refl _)
    refine RnL.cons (fun g7 A_ W_ hs_ => ?_) ?_
    · have q69_ := hs_.val 0 rfl rfl rfl
      refine Rn.val fun K_ hK_ => ?_
      go_simp
      refine (of_0 ⟨qs a.x, qs a.y, qs a.z⟩ _ (HG.out.ext (HX7.out.drew.trans hs_.1)) HAH.out.ts HA.out.all).mono ?_; rintro e W9_ ⟨rfl, e9_⟩; exact hK_.out _ e9_
    refine RnL.cons (fun g7 A_ W_ hs_ => ?_) ?_
    · have q4_ := (hs_.old 4 (by kernel_rfl) : A_.tmps[4]?.getD undef = .pointer (some ⟨w.heap.size + 1, 0, none⟩))
      have cB1_0 := (HB1_7.out.drew.ext hs_.1).cell 0 rfl
      have cB1_1 := (HB1_7.out.drew.ext hs_.1).cell 1 rfl
      have cB1_2 := (HB1_7.out.drew.ext hs_.1).cell 2 rfl
      refine Rn.val fun K_ hK_ => ?_
      go_simp
      exact hK_.out _ (Ext.refl _)
    refine RnL.cons (fun g7 A_ W_ hs_ => ?_) ?_
    · have q71_ := hs_.val 2 rfl rfl rfl
      refine Rn.val fun K_ hK_ => ?_
      go_simp
      refine (of_0 ⟨qs b.x, qs b.y, qs b.z⟩ _ (HG.out.ext (HX7.out.drew.trans hs_.1)) HBH.out.ts HB.out.all).mono ?_; rintro e W9_ ⟨rfl, e9_⟩; exact hK_.out _ e9_
    refine RnL.cons (fun g7 A_ W_ hs_ => ?_) ?_
    · have q70_ := hs_.val 1 rfl rfl rfl
      have q72_ := hs_.val 3 rfl rfl rfl
      refine Rn.mem fun K_ hK_ => ?_
      go_simp
      exact hK_.out
    refine RnL.cons (fun g7 A_ W_ hs_ => ?_) ?_
    · have q73_ := (hs_.mem 4 rfl rfl rfl).1
      refine Rn.val fun K_ hK_ => ?_
      go_simp
      refine (((by decide : ferr [0, 0] = 0) ▸ first2_c 0 0 (g7 4) _ ((hs_.mem 4 rfl rfl rfl).2.2 rfl))).mono ?_; rintro e _ ⟨rfl, rfl⟩; exact hK_.out _ (Ext.refl _)
    refine RnL.cons (fun g7 A_ W_ hs_ => ?_) ?_
    · have q74_ := hs_.val 5 rfl rfl rfl
      refine Rn.val fun K_ hK_ => ?_
      go_simp
      exact hK_.out _ (Ext.refl _)
    exact RnL.nil
  simp only [fs, Kd.value, puts, Act.put, List.setIfInBounds_toArray, List.set_cons_zero, List.set_cons_succ, Nat.reduceAdd]
  have HX8 : Hid (Ext w w8) := Lib.hid (HX7.out.drew.trans hx_)
  have HB0_8 := Lib.hid (HB0_7.out.drew.ext hx_)
  have HB1_8 := Lib.hid (HB1_7.out.drew.ext hx_)
  have HB2_8 := Lib.hid (HB2_7.out.drew.ext hx_)
  have HB4_8 : Hid (Blk w8 (g7 4) #[.int .i64 0, .int .i64 0] 32) := Lib.hid (hm_ 4 _ _ _ _ rfl).2; have HGEB4 : Hid (w.heap.size ≤ g7 4) := Lib.hid (Nat.le_trans HX7.out.size (hm_ 4 _ _ _ _ rfl).1)
  have HNEB0B4 : Hid (w.heap.size ≠ g7 4) := Lib.hid (Nat.ne_of_lt (Nat.lt_of_lt_of_le HB0_7.out.lt (hm_ 4 _ _ _ _ rfl).1))
  have HNEB1B4 : Hid (w.heap.size + 1 ≠ g7 4) := Lib.hid (Nat.ne_of_lt (Nat.lt_of_lt_of_le HB1_7.out.lt (hm_ 4 _ _ _ _ rfl).1))
  have HNEB2B4 : Hid (w3.heap.size ≠ g7 4) := Lib.hid (Nat.ne_of_lt (Nat.lt_of_lt_of_le HB2_7.out.lt (hm_ 4 _ _ _ _ rfl).1))
  clear hx_ hm_ hne_
  generalize g7 4 = i4 at *
  clear g7
  go_wp2_with fail
  refine wp_name (fun W => Ext w W ∧ Blk W (w.heap.size) #[.string (qs a.x), .string (qs a.y), .string (qs a.z)] 30 ∧ Blk W (w.heap.size + 1) #[.string (qs b.x), .string (qs b.y), .string (qs b.z)] 30 ∧ Blk W (w3.heap.size) #[.string (qs a.x), .string (qs a.y), .string (qs a.z), .string (qs q)] 48) ⟨HX8.out, HB0_8.out, HB1_8.out, HB2_8.out⟩ ?_
  rintro w9 ⟨e9, bB0_9, bB1_9, bB2_9⟩
  have HX9 := Lib.hid e9; have HB0_9 := Lib.hid bB0_9; have HB1_9 := Lib.hid bB1_9; have HB2_9 := Lib.hid bB2_9
  clear e9 bB0_9 bB1_9 bB2_9
  refine region_lin [.val (.agg #[.string (qs a.x), .string (qs a.y), .string (qs a.z), .string (qs q)]), .val (.int .i64 0), .val (.agg #[.string (qs b.x), .string (qs b.y), .string (qs b.z)]), .val (.int .i64 0), .mem (fun b_ => .slice (some ⟨b_, 0, none⟩) 2 2) #[.int .i64 0, .int .i64 0] 32 Option.none, .val (.int .i64 0), .val (.int .i64 0)] (by kernel_rfl) (by kernel_rfl) (by kernel_rfl) ?_ (fun g9 w10 hx_ hm_ hne_ => ?_)
  · skip
    refine RnL.cons (fun g9 A_ W_ hs_ => ?_) ?_
    · have q7_ := (hs_.old 7 (by kernel_rfl) : A_.tmps[7]?.getD undef = .pointer (some ⟨w3.heap.size, 0, none⟩))
      have cB2_0 := (HB2_9.out.drew.ext hs_.1).cell 0 rfl
      have cB2_1 := (HB2_9.out.drew.ext hs_.1).cell 1 rfl
      have cB2_2 := (HB2_9.out.drew.ext hs_.1).cell 2 rfl
      have cB2_3 := (HB2_9.out.drew.ext hs_.1).cell 3 rfl
      refine Rn.val fun K_ hK_ => ?_
      go_simp
      exact hK_.out _ (Ext.refl _)
    refine RnL.cons (fun g9 A_ W_ hs_ => ?_) ?_
    · have q152_ := hs_.val 0 rfl rfl rfl
      refine Rn.val fun K_ hK_ => ?_
      go_simp
      refine (scp_n ⟨a, q⟩ _ (HG.out.ext (HX9.out.drew.trans hs_.1)) HA.out HQ.out HZ.out).mono ?_; rintro e W9_ ⟨rfl, e9_⟩; exact hK_.out _ e9_
    refine RnL.cons (fun g9 A_ W_ hs_ => ?_) ?_
    · have q4_ := (hs_.old 4 (by kernel_rfl) : A_.tmps[4]?.getD undef = .pointer (some ⟨w.heap.size + 1, 0, none⟩))
      have cB1_0 := (HB1_9.out.drew.ext hs_.1).cell 0 rfl
      have cB1_1 := (HB1_9.out.drew.ext hs_.1).cell 1 rfl
      have cB1_2 := (HB1_9.out.drew.ext hs_.1).cell 2 rfl
      refine Rn.val fun K_ hK_ => ?_
      go_simp
      exact hK_.out _ (Ext.refl _)
    refine RnL.cons (fun g9 A_ W_ hs_ => ?_) ?_
    · have q154_ := hs_.val 2 rfl rfl rfl
      refine Rn.val fun K_ hK_ => ?_
      go_simp
      refine (of_0 ⟨qs b.x, qs b.y, qs b.z⟩ _ (HG.out.ext (HX9.out.drew.trans hs_.1)) HBH.out.ts HB.out.all).mono ?_; rintro e W9_ ⟨rfl, e9_⟩; exact hK_.out _ e9_
    refine RnL.cons (fun g9 A_ W_ hs_ => ?_) ?_
    · have q153_ := hs_.val 1 rfl rfl rfl
      have q155_ := hs_.val 3 rfl rfl rfl
      refine Rn.mem fun K_ hK_ => ?_
      go_simp
      exact hK_.out
    refine RnL.cons (fun g9 A_ W_ hs_ => ?_) ?_
    · have q156_ := (hs_.mem 4 rfl rfl rfl).1
      refine Rn.val fun K_ hK_ => ?_
      go_simp
      refine (((by decide : ferr [0, 0] = 0) ▸ first2_c 0 0 (g9 4) _ ((hs_.mem 4 rfl rfl rfl).2.2 rfl))).mono ?_; rintro e _ ⟨rfl, rfl⟩; exact hK_.out _ (Ext.refl _)
    refine RnL.cons (fun g9 A_ W_ hs_ => ?_) ?_
    · have q157_ := hs_.val 5 rfl rfl rfl
      refine Rn.val fun K_ hK_ => ?_
      go_simp
      exact hK_.out _ (Ext.refl _)
    exact RnL.nil
  simp only [fs, Kd.value, puts, Act.put, List.setIfInBounds_toArray, List.set_cons_zero, List.set_cons_succ, Nat.reduceAdd]
  have HX10 : Hid (Ext w w10) := Lib.hid (HX9.out.drew.trans hx_)
  have HB0_10 := Lib.hid (HB0_9.out.drew.ext hx_)
  have HB5_10 : Hid (Blk w10 (g9 4) #[.int .i64 0, .int .i64 0] 32) := Lib.hid (hm_ 4 _ _ _ _ rfl).2; have HGEB5 : Hid (w.heap.size ≤ g9 4) := Lib.hid (Nat.le_trans HX9.out.size (hm_ 4 _ _ _ _ rfl).1)
  have HNEB0B5 : Hid (w.heap.size ≠ g9 4) := Lib.hid (Nat.ne_of_lt (Nat.lt_of_lt_of_le HB0_9.out.lt (hm_ 4 _ _ _ _ rfl).1))
  clear hx_ hm_ hne_
  generalize g9 4 = i5 at *
  clear g9
  have c0_0 := HB0_10.out.cell 0 rfl
  have c0_1 := HB0_10.out.cell 1 rfl
  have c0_2 := HB0_10.out.cell 2 rfl
  go_wp2_with fail
  refine (of_0 ⟨qs a.x, qs a.y, qs a.z⟩ _ (HG.out.ext HX10.out) HAH.out.ts HA.out.all).mono ?_; rintro e w11 ⟨rfl, e11⟩
  have HX11 : Hid (Ext w w11) := Lib.hid (HX10.out.trans e11)
  clear e11 c0_0 c0_1 c0_2
  go_wp2_with fail
  refine (fright_yes (qs q) _ (HG.out.ext HX11.out) HKS.out (rq_qs HQ.out)).mono ?_; rintro e w12 ⟨rfl, e12⟩
  have HX12 : Hid (Ext w w12) := Lib.hid (HX11.out.trans e12)
  clear e12
  go_wp2
  go_ret
  exact ⟨rfl, HX12.out⟩

set_option maxRecDepth 100000 in
set_option maxHeartbeats 8000000 in
theorem errors_L0 (a b : T3) (k : ByteArray) (w : World) (g : Gd w) (h0 : ¬ (a.x.size ≤ 40 ∧ a.y.size ≤ 40 ∧ a.z.size ≤ 40)) : Calls Tryz.prog 10 #[.agg #[.string a.x, .string a.y, .string a.z], .agg #[.string b.x, .string b.y, .string b.z], .string k] w (Ret w (.bool true)) := by
  have H0 := Lib.hid h0
  have HG := Lib.hid g
  clear h0 g
  go_enter Tryz.func10, Tryz.ntmps10
  go_wp2_with fail
  refine (known_c _ (HG.out.ext (((Ext.refl w).alloc _).alloc _))).mono ?_; rintro e w1 ⟨rfl, e1⟩
  have HX1 : Hid (Ext w w1) := Lib.hid ((((Ext.refl w).alloc _).alloc _).trans e1)
  have HB0_1 : Hid (Blk w1 (w.heap.size) #[.string a.x, .string a.y, .string a.z] 30) := Lib.hid (Blk.ext ((Blk.new' (w := _) (cs := #[.string a.x, .string a.y, .string a.z]) (t := 30) (by first | rfl | (simp only [World.size_alloc]; done) | (simp only [World.size_alloc]; omega) | simp)).alloc _) e1)
  have HGEB0 : Hid (w.heap.size ≤ w.heap.size) := Lib.hid (by first | omega | (simp only []; omega) | (simp; omega))
  clear e1
  have c0_0 := HB0_1.out.cell 0 rfl
  have c0_1 := HB0_1.out.cell 1 rfl
  have c0_2 := HB0_1.out.cell 2 rfl
  go_wp2_with fail
  refine (short_f a _ H0.out).mono ?_; rintro e w2 ⟨rfl, e2⟩
  have HX2 : Hid (Ext w w2) := Lib.hid (HX1.out.trans e2)
  clear e2 c0_0 c0_1 c0_2
  go_wp2_with fail
  refine (known_c _ (HG.out.ext HX2.out)).mono ?_; rintro e w3 ⟨rfl, e3⟩
  have HX3 : Hid (Ext w w3) := Lib.hid (HX2.out.trans e3)
  clear e3
  go_wp2
  go_ret
  exact ⟨rfl, HX3.out⟩

set_option maxRecDepth 100000 in
set_option maxHeartbeats 8000000 in
theorem errors_L1 (a b : T3) (k : ByteArray) (w : World) (g : Gd w) (h0 : SH a) (h1 : ¬ (b.x.size ≤ 40 ∧ b.y.size ≤ 40 ∧ b.z.size ≤ 40)) : Calls Tryz.prog 10 #[.agg #[.string a.x, .string a.y, .string a.z], .agg #[.string b.x, .string b.y, .string b.z], .string k] w (Ret w (.bool true)) := by
  have H0 := Lib.hid h0
  have H1 := Lib.hid h1
  have HG := Lib.hid g
  clear h0 h1 g
  go_enter Tryz.func10, Tryz.ntmps10
  go_wp2_with fail
  refine (known_c _ (HG.out.ext (((Ext.refl w).alloc _).alloc _))).mono ?_; rintro e w1 ⟨rfl, e1⟩
  have HX1 : Hid (Ext w w1) := Lib.hid ((((Ext.refl w).alloc _).alloc _).trans e1)
  have HB0_1 : Hid (Blk w1 (w.heap.size) #[.string a.x, .string a.y, .string a.z] 30) := Lib.hid (Blk.ext ((Blk.new' (w := _) (cs := #[.string a.x, .string a.y, .string a.z]) (t := 30) (by first | rfl | (simp only [World.size_alloc]; done) | (simp only [World.size_alloc]; omega) | simp)).alloc _) e1)
  have HB1_1 : Hid (Blk w1 (w.heap.size + 1) #[.string b.x, .string b.y, .string b.z] 30) := Lib.hid (Blk.ext (Blk.new' (w := _) (cs := #[.string b.x, .string b.y, .string b.z]) (t := 30) (by first | rfl | (simp only [World.size_alloc]; done) | (simp only [World.size_alloc]; omega) | simp)) e1)
  have HGEB0 : Hid (w.heap.size ≤ w.heap.size) := Lib.hid (by first | omega | (simp only []; omega) | (simp; omega))
  have HGEB1 : Hid (w.heap.size ≤ w.heap.size + 1) := Lib.hid (by first | omega | (simp only []; omega) | (simp; omega))
  clear e1
  have c0_0 := HB0_1.out.cell 0 rfl
  have c0_1 := HB0_1.out.cell 1 rfl
  have c0_2 := HB0_1.out.cell 2 rfl
  go_wp2_with fail
  refine (short_3 a _ H0.out.x H0.out.y H0.out.z).mono ?_; rintro e w2 ⟨rfl, e2⟩
  have HX2 : Hid (Ext w w2) := Lib.hid (HX1.out.trans e2)
  have HB1_2 := Lib.hid (Blk.ext HB1_1.out e2)
  clear e2 c0_0 c0_1 c0_2
  have c1_0 := HB1_2.out.cell 0 rfl
  have c1_1 := HB1_2.out.cell 1 rfl
  have c1_2 := HB1_2.out.cell 2 rfl
  go_wp2_with fail
  refine (short_f b _ H1.out).mono ?_; rintro e w3 ⟨rfl, e3⟩
  have HX3 : Hid (Ext w w3) := Lib.hid (HX2.out.trans e3)
  clear e3 c1_0 c1_1 c1_2
  go_wp2_with fail
  refine (known_c _ (HG.out.ext HX3.out)).mono ?_; rintro e w4 ⟨rfl, e4⟩
  have HX4 : Hid (Ext w w4) := Lib.hid (HX3.out.trans e4)
  clear e4
  go_wp2
  go_ret
  exact ⟨rfl, HX4.out⟩

set_option maxRecDepth 100000 in
set_option maxHeartbeats 8000000 in
theorem errors_L2 (a b : T3) (k : ByteArray) (w : World) (g : Gd w) (h0 : SH a) (h1 : SH b) (h2 : 40 < k.size) : Calls Tryz.prog 10 #[.agg #[.string a.x, .string a.y, .string a.z], .agg #[.string b.x, .string b.y, .string b.z], .string k] w (Ret w (.bool true)) := by
  have H0 := Lib.hid h0
  have H1 := Lib.hid h1
  have HG := Lib.hid g
  clear h0 h1 g
  have tk : decide ((40 : Int) < (k.size : Int)) = true := decide_eq_true (by omega)
  go_enter Tryz.func10, Tryz.ntmps10
  go_wp2_with fail
  refine (known_c _ (HG.out.ext (((Ext.refl w).alloc _).alloc _))).mono ?_; rintro e w1 ⟨rfl, e1⟩
  have HX1 : Hid (Ext w w1) := Lib.hid ((((Ext.refl w).alloc _).alloc _).trans e1)
  have HB0_1 : Hid (Blk w1 (w.heap.size) #[.string a.x, .string a.y, .string a.z] 30) := Lib.hid (Blk.ext ((Blk.new' (w := _) (cs := #[.string a.x, .string a.y, .string a.z]) (t := 30) (by first | rfl | (simp only [World.size_alloc]; done) | (simp only [World.size_alloc]; omega) | simp)).alloc _) e1)
  have HB1_1 : Hid (Blk w1 (w.heap.size + 1) #[.string b.x, .string b.y, .string b.z] 30) := Lib.hid (Blk.ext (Blk.new' (w := _) (cs := #[.string b.x, .string b.y, .string b.z]) (t := 30) (by first | rfl | (simp only [World.size_alloc]; done) | (simp only [World.size_alloc]; omega) | simp)) e1)
  have HGEB0 : Hid (w.heap.size ≤ w.heap.size) := Lib.hid (by first | omega | (simp only []; omega) | (simp; omega))
  have HGEB1 : Hid (w.heap.size ≤ w.heap.size + 1) := Lib.hid (by first | omega | (simp only []; omega) | (simp; omega))
  clear e1
  have c0_0 := HB0_1.out.cell 0 rfl
  have c0_1 := HB0_1.out.cell 1 rfl
  have c0_2 := HB0_1.out.cell 2 rfl
  go_wp2_with fail
  refine (short_3 a _ H0.out.x H0.out.y H0.out.z).mono ?_; rintro e w2 ⟨rfl, e2⟩
  have HX2 : Hid (Ext w w2) := Lib.hid (HX1.out.trans e2)
  have HB1_2 := Lib.hid (Blk.ext HB1_1.out e2)
  clear e2 c0_0 c0_1 c0_2
  have c1_0 := HB1_2.out.cell 0 rfl
  have c1_1 := HB1_2.out.cell 1 rfl
  have c1_2 := HB1_2.out.cell 2 rfl
  go_wp2_with fail
  refine (short_3 b _ H1.out.x H1.out.y H1.out.z).mono ?_; rintro e w3 ⟨rfl, e3⟩
  have HX3 : Hid (Ext w w3) := Lib.hid (HX2.out.trans e3)
  clear e3 c1_0 c1_1 c1_2
  go_wp2_with fail
  refine (known_c _ (HG.out.ext HX3.out)).mono ?_; rintro e w4 ⟨rfl, e4⟩
  have HX4 : Hid (Ext w w4) := Lib.hid (HX3.out.trans e4)
  clear e4
  go_wp2
  go_ret
  exact ⟨rfl, HX4.out⟩

theorem right_q {s : ByteArray} (h : rq s = true) : ∃ q : Rat, s = qs q ∧ QB 200 q := by
  obtain ⟨q, hq, hn, hd⟩ := rq_true.1 h
  refine ⟨q, ?_, lt_of_dec_len hn, lt_of_dec_len hd⟩
  cases s with
  | mk d =>
    have : d.toList = ql q := hq
    unfold qs
    congr 1
    rw [← this]
theorem right_v {t : T3} (h : t.l.all rq = true) : ∃ v : V3, t = ⟨qs v.x, qs v.y, qs v.z⟩ ∧ VB 200 v := by
  simp only [T3.l, List.all_cons, List.all_nil, Bool.and_true, Bool.and_eq_true] at h
  obtain ⟨x, ex, hx⟩ := right_q h.1; obtain ⟨y, ey, hy⟩ := right_q h.2.1; obtain ⟨z, ez, hz⟩ := right_q h.2.2
  refine ⟨⟨x, y, z⟩, ?_, hx, hy, hz⟩
  cases t
  simp only at ex ey ez
  rw [ex, ey, ez]
theorem errors_walk (a b : T3) (k : ByteArray) (w : World) (g : Gd w) : Calls Tryz.prog 10 #[tv a, tv b, .string k] w (Ret w (.bool true)) := by
  by_cases h0 : a.x.size ≤ 40 ∧ a.y.size ≤ 40 ∧ a.z.size ≤ 40
  · have sa : SH a := ⟨h0.1, h0.2.1, h0.2.2⟩
    by_cases h1 : b.x.size ≤ 40 ∧ b.y.size ≤ 40 ∧ b.z.size ≤ 40
    · have sb : SH b := ⟨h1.1, h1.2.1, h1.2.2⟩
      by_cases h2 : k.size ≤ 40
      · cases ra : a.l.all rq with
        | false => exact errors_W1 a b k w g sa sb h2 ra
        | true =>
          obtain ⟨v, rfl, hv⟩ := right_v ra
          cases rb : b.l.all rq with
          | false =>
            cases rk : rq k with
            | false => exact errors_W2 v b k w g sa sb h2 hv rb rk
            | true =>
              obtain ⟨q, rfl, hq⟩ := right_q rk
              by_cases hz : v.x = 0 ∧ v.y = 0 ∧ v.z = 0
              · exact errors_W4 v b q w g sa sb h2 hv rb hq hz
              · exact errors_W3 v b q w g sa sb h2 hv rb hq hz
          | true =>
            obtain ⟨u, rfl, hu⟩ := right_v rb
            cases rk : rq k with
            | false => exact errors_W5 v u k w g sa sb h2 hv hu rk
            | true =>
              obtain ⟨q, rfl, hq⟩ := right_q rk
              by_cases hz : v.x = 0 ∧ v.y = 0 ∧ v.z = 0
              · exact errors_W6 v u q w g sa sb h2 hv hu hq hz
              · exact errors_W7 v u q w g sa sb h2 hv hu hq hz
      · exact errors_L2 a b k w g sa sb (by omega)
    · exact errors_L1 a b k w g sa h1
  · exact errors_L0 a b k w g h0
end Go.Proofs.YtglppcmegocphaaGreatDoor
