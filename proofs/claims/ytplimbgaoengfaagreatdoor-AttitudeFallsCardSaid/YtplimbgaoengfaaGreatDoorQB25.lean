/- Part 25 of the proof: N0, N1. -/
import Derived.Test.YtplimbgaoengfaaGreatDoorQB1
import Derived.Test.YtplimbgaoengfaaGreatDoorQB2
import Derived.Test.YtplimbgaoengfaaGreatDoorQB3
import Derived.Test.YtplimbgaoengfaaGreatDoorQB4
import Derived.Test.YtplimbgaoengfaaGreatDoorQB5
import Derived.Test.YtplimbgaoengfaaGreatDoorQB6
import Derived.Test.YtplimbgaoengfaaGreatDoorQB7
import Derived.Test.YtplimbgaoengfaaGreatDoorQB8
import Derived.Test.YtplimbgaoengfaaGreatDoorQB9
import Derived.Test.YtplimbgaoengfaaGreatDoorQB10
import Derived.Test.YtplimbgaoengfaaGreatDoorQB11
import Derived.Test.YtplimbgaoengfaaGreatDoorQB12
import Derived.Test.YtplimbgaoengfaaGreatDoorQB13
import Derived.Test.YtplimbgaoengfaaGreatDoorQB14
import Derived.Test.YtplimbgaoengfaaGreatDoorQB15
import Derived.Test.YtplimbgaoengfaaGreatDoorQB16
import Derived.Test.YtplimbgaoengfaaGreatDoorQB17
import Derived.Test.YtplimbgaoengfaaGreatDoorQB18
import Derived.Test.YtplimbgaoengfaaGreatDoorQB19
import Derived.Test.YtplimbgaoengfaaGreatDoorQB20
import Derived.Test.YtplimbgaoengfaaGreatDoorQB21
import Derived.Test.YtplimbgaoengfaaGreatDoorQB22
import Derived.Test.YtplimbgaoengfaaGreatDoorQB23
import Derived.Test.YtplimbgaoengfaaGreatDoorQB24
namespace Go.Proofs.YtplimbgaoengfaaGreatDoor
theorem n0 : True := by
  /- vCheck_ok vCheckPoint_ok vcheck_c vcheckp_c vPrim_ok vPrim_zero prim_plain fright_yes fright_no rcheck_yes rcheck_not rcheck_c radd_c rsub_c rmul_c rdiv_c rneg_c rsign_c rcompare_c sum3_c numbers_c fqright_c terr rq_true rq_false T3 T2 TS TS2 tv tp vv pv VB PB rq_qs qs_is0 qs_not0 qs_eqL qs_neL z3 region_lin Rn.mem RnL.cons qs_zero qs_one ql_inj rwhole_c whole_c of_c parts_c new_c wp_name keepsH1 elim0 elim1 elim2 elim3 ext0a ext0b ext1a ext1b ext2a ext2b ext3a ext3b VB.mono PB.mono VB.ts PB.ts VB.all PB.all gall_true gall_false cells2 cells3 cells4 sizes2 sizes3 right_q Blk.new' Blk.other QB.inum QB.iden QD QD.div QD.qb small_c isign_c ineg_c tri num_sign_neg num_sign_pos qcmp_sign qcmp_le -/
  trivial
end Go.Proofs.YtplimbgaoengfaaGreatDoor

namespace Go.Proofs.YtplimbgaoengfaaGreatDoor
open Go Go.RowKit
theorem whole0_c (w : World) (g : Gd w) : Calls Tryz.prog 68 #[.int .i64 0] w (Ret w (.string ⟨#[48]⟩)) := by
  have h := whole_c 0 (by decide) (by decide) w g
  exact Eq.mp (by kernel_rfl) h

set_option maxRecDepth 100000 in
set_option maxHeartbeats 2000000 in
theorem vof0 (w : World) (g : Gd w) : Calls Tryz.prog 41 #[.int .i64 0, .int .i64 0, .int .i64 0] w (Ret w (.agg #[.string ⟨#[48]⟩, .string ⟨#[48]⟩, .string ⟨#[48]⟩])) := by
  have HG := Lib.hid g
  clear g
  go_enter Tryz.func41, Tryz.ntmps41
  go_wp2_with fail
  refine (whole0_c _ (HG.out.ext ((Ext.refl w).alloc _))).mono ?_; rintro e w1 ⟨rfl, e1⟩
  have HX1 : Hid (Ext w w1) := Lib.hid (((Ext.refl w).alloc _).trans e1)
  have HB0_1 : Hid (Blk w1 (w.heap.size) #[.string ⟨#[]⟩, .string ⟨#[]⟩, .string ⟨#[]⟩] 37) := Lib.hid (Blk.ext (Blk.new' (w := _) (cs := #[.string ⟨#[]⟩, .string ⟨#[]⟩, .string ⟨#[]⟩]) (t := 37) (by first | rfl | (simp only [World.size_alloc]; done) | (simp only [World.size_alloc]; omega) | simp)) e1)
  have HGEB0 : Hid (w.heap.size ≤ w.heap.size) := Lib.hid (by first | omega | (simp only []; omega) | (simp; omega))
  clear e1
  go_wp2_with fail
  refine (whole0_c _ (HG.out.ext HX1.out)).mono ?_; rintro e w2 ⟨rfl, e2⟩
  have HX2 : Hid (Ext w w2) := Lib.hid (HX1.out.trans e2)
  have HB0_2 := Lib.hid (Blk.ext HB0_1.out e2)
  clear e2
  go_wp2_with fail
  refine (whole0_c _ (HG.out.ext HX2.out)).mono ?_; rintro e w3 ⟨rfl, e3⟩
  have HX3 : Hid (Ext w w3) := Lib.hid (HX2.out.trans e3)
  have HB0_3 := Lib.hid (Blk.ext HB0_2.out e3)
  clear e3
  have c0_0 := HB0_3.out.cell 0 rfl
  have f0_0 := HB0_3.out.free 0
  have c0_1 := HB0_3.out.cell 1 rfl
  have f0_1 := HB0_3.out.free 1
  have c0_2 := HB0_3.out.cell 2 rfl
  have f0_2 := HB0_3.out.free 2
  go_wp2_with fail
  refine wp_name (fun W => Ext w W ∧ Blk W (w.heap.size) #[.string ⟨#[48]⟩, .string ⟨#[48]⟩, .string ⟨#[48]⟩] 37) ⟨(((HX3.out.setCell (by have := HGEB0.out; first | omega | (simp only []; omega) | (simp; omega)) _).setCell (by have := HGEB0.out; first | omega | (simp only []; omega) | (simp; omega)) _).setCell (by have := HGEB0.out; first | omega | (simp only []; omega) | (simp; omega)) _), (((HB0_3.out.set 0 (.string ⟨#[48]⟩)).set 1 (.string ⟨#[48]⟩)).set 2 (.string ⟨#[48]⟩))⟩ ?_
  rintro w4 ⟨e4, bB0_4⟩
  have HX4 := Lib.hid e4; have HB0_4 := Lib.hid bB0_4
  clear e4 bB0_4 c0_0 f0_0 c0_1 f0_1 c0_2 f0_2
  have gB0_0 := HB0_4.out.cell 0 rfl
  have gB0_1 := HB0_4.out.cell 1 rfl
  have gB0_2 := HB0_4.out.cell 2 rfl
  refine bodyPost_ret (v := .agg #[.string ⟨#[48]⟩, .string ⟨#[48]⟩, .string ⟨#[48]⟩]) (by simp [results, Tryz.results41, go_sem, gB0_0, gB0_1, gB0_2]) rfl ⟨rfl, HX4.out⟩

set_option maxRecDepth 100000 in
set_option maxHeartbeats 2000000 in
theorem vat0 (w : World) (g : Gd w) : Calls Tryz.prog 42 #[.int .i64 0, .int .i64 0] w (Ret w (.agg #[.string ⟨#[48]⟩, .string ⟨#[48]⟩])) := by
  have HG := Lib.hid g
  clear g
  go_enter Tryz.func42, Tryz.ntmps42
  go_wp2_with fail
  refine (whole0_c _ (HG.out.ext ((Ext.refl w).alloc _))).mono ?_; rintro e w1 ⟨rfl, e1⟩
  have HX1 : Hid (Ext w w1) := Lib.hid (((Ext.refl w).alloc _).trans e1)
  have HB0_1 : Hid (Blk w1 (w.heap.size) #[.string ⟨#[]⟩, .string ⟨#[]⟩] 24) := Lib.hid (Blk.ext (Blk.new' (w := _) (cs := #[.string ⟨#[]⟩, .string ⟨#[]⟩]) (t := 24) (by first | rfl | (simp only [World.size_alloc]; done) | (simp only [World.size_alloc]; omega) | simp)) e1)
  have HGEB0 : Hid (w.heap.size ≤ w.heap.size) := Lib.hid (by first | omega | (simp only []; omega) | (simp; omega))
  clear e1
  go_wp2_with fail
  refine (whole0_c _ (HG.out.ext HX1.out)).mono ?_; rintro e w2 ⟨rfl, e2⟩
  have HX2 : Hid (Ext w w2) := Lib.hid (HX1.out.trans e2)
  have HB0_2 := Lib.hid (Blk.ext HB0_1.out e2)
  clear e2
  have c0_0 := HB0_2.out.cell 0 rfl
  have f0_0 := HB0_2.out.free 0
  have c0_1 := HB0_2.out.cell 1 rfl
  have f0_1 := HB0_2.out.free 1
  go_wp2_with fail
  refine wp_name (fun W => Ext w W ∧ Blk W (w.heap.size) #[.string ⟨#[48]⟩, .string ⟨#[48]⟩] 24) ⟨((HX2.out.setCell (by have := HGEB0.out; first | omega | (simp only []; omega) | (simp; omega)) _).setCell (by have := HGEB0.out; first | omega | (simp only []; omega) | (simp; omega)) _), ((HB0_2.out.set 0 (.string ⟨#[48]⟩)).set 1 (.string ⟨#[48]⟩))⟩ ?_
  rintro w3 ⟨e3, bB0_3⟩
  have HX3 := Lib.hid e3; have HB0_3 := Lib.hid bB0_3
  clear e3 bB0_3 c0_0 f0_0 c0_1 f0_1
  have gB0_0 := HB0_3.out.cell 0 rfl
  have gB0_1 := HB0_3.out.cell 1 rfl
  refine bodyPost_ret (v := .agg #[.string ⟨#[48]⟩, .string ⟨#[48]⟩]) (by simp [results, Tryz.results42, go_sem, gB0_0, gB0_1]) rfl ⟨rfl, HX3.out⟩

set_option maxRecDepth 100000 in
set_option maxHeartbeats 2000000 in
theorem acheck_0 (n : V3) (w : World) (g : Gd w) (hn : VB 200 n) (h0 : n.x ≠ 0) : Calls Tryz.prog 52 #[.agg #[.string (qs n.x), .string (qs n.y), .string (qs n.z)]] w (Ret w (.int .i64 0)) := by
  have HN := Lib.hid hn
  have HG := Lib.hid g
  clear hn g
  have h0_t := qs_not0 h0
  clear h0
  go_enter Tryz.func52, Tryz.ntmps52
  go_wp2_with fail
  refine (vCheck_ok n _ (HG.out.ext ((Ext.refl w).alloc _)) HN.out).mono ?_; rintro e w1 ⟨rfl, e1⟩
  have HX1 : Hid (Ext w w1) := Lib.hid (((Ext.refl w).alloc _).trans e1)
  have HB0_1 : Hid (Blk w1 (w.heap.size) #[.string (qs n.x), .string (qs n.y), .string (qs n.z)] 37) := Lib.hid (Blk.ext (Blk.new' (w := _) (cs := #[.string (qs n.x), .string (qs n.y), .string (qs n.z)]) (t := 37) (by first | rfl | (simp only [World.size_alloc]; done) | (simp only [World.size_alloc]; omega) | simp)) e1)
  have HGEB0 : Hid (w.heap.size ≤ w.heap.size) := Lib.hid (by first | omega | (simp only []; omega) | (simp; omega))
  clear e1
  go_wp2_with fail
  refine wp_name (fun W => Ext w W ∧ Blk W (w.heap.size) #[.string (qs n.x), .string (qs n.y), .string (qs n.z)] 37) ⟨HX1.out, HB0_1.out⟩ ?_
  rintro w2 ⟨e2, bB0_2⟩
  have HX2 := Lib.hid e2; have HB0_2 := Lib.hid bB0_2
  clear e2 bB0_2
  refine region_lin [.val (.agg #[.string (qs n.x), .string (qs n.y), .string (qs n.z)]), .val (.agg #[.string ⟨#[48]⟩, .string ⟨#[48]⟩, .string ⟨#[48]⟩]), .val (.bool false), .val (.bool false)] (by kernel_rfl) (by kernel_rfl) (by kernel_rfl) ?_ (fun g2 w3 hx_ hm_ hne_ => ?_)
  · skip
    refine RnL.cons (fun g2 A_ W_ hs_ => ?_) ?_
    · have q1_ := (hs_.old 1 (by kernel_rfl) : A_.tmps[1]?.getD undef = .pointer (some ⟨w.heap.size, 0, none⟩))
      have cB0_0 := ((HB0_2.out.drew.ext hs_.1)).cell 0 rfl
      have cB0_1 := ((HB0_2.out.drew.ext hs_.1)).cell 1 rfl
      have cB0_2 := ((HB0_2.out.drew.ext hs_.1)).cell 2 rfl
      refine Rn.val fun K_ hK_ => ?_
      go_simp
      exact hK_.out _ (Ext.refl _)
    refine RnL.cons (fun g2 A_ W_ hs_ => ?_) ?_
    · refine Rn.val fun K_ hK_ => ?_
      go_simp
      refine (vof0 _ (HG.out.ext (HX2.out.drew.trans hs_.1))).mono ?_; rintro e W9_ ⟨rfl, e9_⟩; exact hK_.out _ e9_
    refine RnL.cons (fun g2 A_ W_ hs_ => ?_) ?_
    · have q8_ := hs_.val 0 rfl rfl rfl
      have q9_ := hs_.val 1 rfl rfl rfl
      refine Rn.val fun K_ hK_ => ?_
      go_simp
      exact hK_.out _ (Ext.refl _)
    refine RnL.cons (fun g2 A_ W_ hs_ => ?_) ?_
    · have q10_ := hs_.val 2 rfl rfl rfl
      refine Rn.val fun K_ hK_ => ?_
      go_simp
      exact hK_.out _ (Ext.refl _)
    exact RnL.nil
  simp only [fs, Kd.value, puts, Act.put, List.setIfInBounds_toArray, List.set_cons_zero, List.set_cons_succ]
  have HX3 : Hid (Ext w w3) := Lib.hid (HX2.out.drew.trans hx_)
  clear hx_ hm_ hne_
  go_wp2
  go_ret
  exact ⟨rfl, HX3.out⟩

set_option maxRecDepth 100000 in
set_option maxHeartbeats 2000000 in
theorem acheck_1 (n : V3) (w : World) (g : Gd w) (hn : VB 200 n) (h0 : n.x = 0) (h1 : n.y ≠ 0) : Calls Tryz.prog 52 #[.agg #[.string (qs n.x), .string (qs n.y), .string (qs n.z)]] w (Ret w (.int .i64 0)) := by
  have HN := Lib.hid hn
  have HG := Lib.hid g
  clear hn g
  have h0_t := qs_is0 h0
  have h1_t := qs_not0 h1
  clear h0 h1
  go_enter Tryz.func52, Tryz.ntmps52
  go_wp2_with fail
  refine (vCheck_ok n _ (HG.out.ext ((Ext.refl w).alloc _)) HN.out).mono ?_; rintro e w1 ⟨rfl, e1⟩
  have HX1 : Hid (Ext w w1) := Lib.hid (((Ext.refl w).alloc _).trans e1)
  have HB0_1 : Hid (Blk w1 (w.heap.size) #[.string (qs n.x), .string (qs n.y), .string (qs n.z)] 37) := Lib.hid (Blk.ext (Blk.new' (w := _) (cs := #[.string (qs n.x), .string (qs n.y), .string (qs n.z)]) (t := 37) (by first | rfl | (simp only [World.size_alloc]; done) | (simp only [World.size_alloc]; omega) | simp)) e1)
  have HGEB0 : Hid (w.heap.size ≤ w.heap.size) := Lib.hid (by first | omega | (simp only []; omega) | (simp; omega))
  clear e1
  go_wp2_with fail
  refine wp_name (fun W => Ext w W ∧ Blk W (w.heap.size) #[.string (qs n.x), .string (qs n.y), .string (qs n.z)] 37) ⟨HX1.out, HB0_1.out⟩ ?_
  rintro w2 ⟨e2, bB0_2⟩
  have HX2 := Lib.hid e2; have HB0_2 := Lib.hid bB0_2
  clear e2 bB0_2
  refine region_lin [.val (.agg #[.string (qs n.x), .string (qs n.y), .string (qs n.z)]), .val (.agg #[.string ⟨#[48]⟩, .string ⟨#[48]⟩, .string ⟨#[48]⟩]), .val (.bool false), .val (.bool false)] (by kernel_rfl) (by kernel_rfl) (by kernel_rfl) ?_ (fun g2 w3 hx_ hm_ hne_ => ?_)
  · skip
    refine RnL.cons (fun g2 A_ W_ hs_ => ?_) ?_
    · have q1_ := (hs_.old 1 (by kernel_rfl) : A_.tmps[1]?.getD undef = .pointer (some ⟨w.heap.size, 0, none⟩))
      have cB0_0 := ((HB0_2.out.drew.ext hs_.1)).cell 0 rfl
      have cB0_1 := ((HB0_2.out.drew.ext hs_.1)).cell 1 rfl
      have cB0_2 := ((HB0_2.out.drew.ext hs_.1)).cell 2 rfl
      refine Rn.val fun K_ hK_ => ?_
      go_simp
      exact hK_.out _ (Ext.refl _)
    refine RnL.cons (fun g2 A_ W_ hs_ => ?_) ?_
    · refine Rn.val fun K_ hK_ => ?_
      go_simp
      refine (vof0 _ (HG.out.ext (HX2.out.drew.trans hs_.1))).mono ?_; rintro e W9_ ⟨rfl, e9_⟩; exact hK_.out _ e9_
    refine RnL.cons (fun g2 A_ W_ hs_ => ?_) ?_
    · have q8_ := hs_.val 0 rfl rfl rfl
      have q9_ := hs_.val 1 rfl rfl rfl
      refine Rn.val fun K_ hK_ => ?_
      go_simp
      exact hK_.out _ (Ext.refl _)
    refine RnL.cons (fun g2 A_ W_ hs_ => ?_) ?_
    · have q10_ := hs_.val 2 rfl rfl rfl
      refine Rn.val fun K_ hK_ => ?_
      go_simp
      exact hK_.out _ (Ext.refl _)
    exact RnL.nil
  simp only [fs, Kd.value, puts, Act.put, List.setIfInBounds_toArray, List.set_cons_zero, List.set_cons_succ]
  have HX3 : Hid (Ext w w3) := Lib.hid (HX2.out.drew.trans hx_)
  clear hx_ hm_ hne_
  go_wp2
  go_ret
  exact ⟨rfl, HX3.out⟩

set_option maxRecDepth 100000 in
set_option maxHeartbeats 2000000 in
theorem acheck_2 (n : V3) (w : World) (g : Gd w) (hn : VB 200 n) (h0 : n.x = 0) (h1 : n.y = 0) (h2 : n.z ≠ 0) : Calls Tryz.prog 52 #[.agg #[.string (qs n.x), .string (qs n.y), .string (qs n.z)]] w (Ret w (.int .i64 0)) := by
  have HN := Lib.hid hn
  have HG := Lib.hid g
  clear hn g
  have h0_t := qs_is0 h0
  have h1_t := qs_is0 h1
  have h2_t := qs_not0 h2
  clear h0 h1 h2
  go_enter Tryz.func52, Tryz.ntmps52
  go_wp2_with fail
  refine (vCheck_ok n _ (HG.out.ext ((Ext.refl w).alloc _)) HN.out).mono ?_; rintro e w1 ⟨rfl, e1⟩
  have HX1 : Hid (Ext w w1) := Lib.hid (((Ext.refl w).alloc _).trans e1)
  have HB0_1 : Hid (Blk w1 (w.heap.size) #[.string (qs n.x), .string (qs n.y), .string (qs n.z)] 37) := Lib.hid (Blk.ext (Blk.new' (w := _) (cs := #[.string (qs n.x), .string (qs n.y), .string (qs n.z)]) (t := 37) (by first | rfl | (simp only [World.size_alloc]; done) | (simp only [World.size_alloc]; omega) | simp)) e1)
  have HGEB0 : Hid (w.heap.size ≤ w.heap.size) := Lib.hid (by first | omega | (simp only []; omega) | (simp; omega))
  clear e1
  go_wp2_with fail
  refine wp_name (fun W => Ext w W ∧ Blk W (w.heap.size) #[.string (qs n.x), .string (qs n.y), .string (qs n.z)] 37) ⟨HX1.out, HB0_1.out⟩ ?_
  rintro w2 ⟨e2, bB0_2⟩
  have HX2 := Lib.hid e2; have HB0_2 := Lib.hid bB0_2
  clear e2 bB0_2
  refine region_lin [.val (.agg #[.string (qs n.x), .string (qs n.y), .string (qs n.z)]), .val (.agg #[.string ⟨#[48]⟩, .string ⟨#[48]⟩, .string ⟨#[48]⟩]), .val (.bool false), .val (.bool false)] (by kernel_rfl) (by kernel_rfl) (by kernel_rfl) ?_ (fun g2 w3 hx_ hm_ hne_ => ?_)
  · skip
    refine RnL.cons (fun g2 A_ W_ hs_ => ?_) ?_
    · have q1_ := (hs_.old 1 (by kernel_rfl) : A_.tmps[1]?.getD undef = .pointer (some ⟨w.heap.size, 0, none⟩))
      have cB0_0 := ((HB0_2.out.drew.ext hs_.1)).cell 0 rfl
      have cB0_1 := ((HB0_2.out.drew.ext hs_.1)).cell 1 rfl
      have cB0_2 := ((HB0_2.out.drew.ext hs_.1)).cell 2 rfl
      refine Rn.val fun K_ hK_ => ?_
      go_simp
      exact hK_.out _ (Ext.refl _)
    refine RnL.cons (fun g2 A_ W_ hs_ => ?_) ?_
    · refine Rn.val fun K_ hK_ => ?_
      go_simp
      refine (vof0 _ (HG.out.ext (HX2.out.drew.trans hs_.1))).mono ?_; rintro e W9_ ⟨rfl, e9_⟩; exact hK_.out _ e9_
    refine RnL.cons (fun g2 A_ W_ hs_ => ?_) ?_
    · have q8_ := hs_.val 0 rfl rfl rfl
      have q9_ := hs_.val 1 rfl rfl rfl
      refine Rn.val fun K_ hK_ => ?_
      go_simp
      exact hK_.out _ (Ext.refl _)
    refine RnL.cons (fun g2 A_ W_ hs_ => ?_) ?_
    · have q10_ := hs_.val 2 rfl rfl rfl
      refine Rn.val fun K_ hK_ => ?_
      go_simp
      exact hK_.out _ (Ext.refl _)
    exact RnL.nil
  simp only [fs, Kd.value, puts, Act.put, List.setIfInBounds_toArray, List.set_cons_zero, List.set_cons_succ]
  have HX3 : Hid (Ext w w3) := Lib.hid (HX2.out.drew.trans hx_)
  clear hx_ hm_ hne_
  go_wp2
  go_ret
  exact ⟨rfl, HX3.out⟩

set_option maxRecDepth 100000 in
set_option maxHeartbeats 2000000 in
theorem ahead_0 (n : P2) (w : World) (g : Gd w) (hn : PB 200 n) (h0 : n.x ≠ 0) : Calls Tryz.prog 44 #[.agg #[.string (qs n.x), .string (qs n.y)]] w (Ret w (.int .i64 0)) := by
  have HN := Lib.hid hn
  have HG := Lib.hid g
  clear hn g
  have h0_t := qs_not0 h0
  clear h0
  go_enter Tryz.func44, Tryz.ntmps44
  go_wp2_with fail
  refine (vCheckPoint_ok n _ (HG.out.ext ((Ext.refl w).alloc _)) HN.out).mono ?_; rintro e w1 ⟨rfl, e1⟩
  have HX1 : Hid (Ext w w1) := Lib.hid (((Ext.refl w).alloc _).trans e1)
  have HB0_1 : Hid (Blk w1 (w.heap.size) #[.string (qs n.x), .string (qs n.y)] 24) := Lib.hid (Blk.ext (Blk.new' (w := _) (cs := #[.string (qs n.x), .string (qs n.y)]) (t := 24) (by first | rfl | (simp only [World.size_alloc]; done) | (simp only [World.size_alloc]; omega) | simp)) e1)
  have HGEB0 : Hid (w.heap.size ≤ w.heap.size) := Lib.hid (by first | omega | (simp only []; omega) | (simp; omega))
  clear e1
  go_wp2_with fail
  refine wp_name (fun W => Ext w W ∧ Blk W (w.heap.size) #[.string (qs n.x), .string (qs n.y)] 24) ⟨HX1.out, HB0_1.out⟩ ?_
  rintro w2 ⟨e2, bB0_2⟩
  have HX2 := Lib.hid e2; have HB0_2 := Lib.hid bB0_2
  clear e2 bB0_2
  refine region_lin [.val (.agg #[.string (qs n.x), .string (qs n.y)]), .val (.agg #[.string ⟨#[48]⟩, .string ⟨#[48]⟩]), .val (.bool false), .val (.bool false)] (by kernel_rfl) (by kernel_rfl) (by kernel_rfl) ?_ (fun g2 w3 hx_ hm_ hne_ => ?_)
  · skip
    refine RnL.cons (fun g2 A_ W_ hs_ => ?_) ?_
    · have q1_ := (hs_.old 1 (by kernel_rfl) : A_.tmps[1]?.getD undef = .pointer (some ⟨w.heap.size, 0, none⟩))
      have cB0_0 := ((HB0_2.out.drew.ext hs_.1)).cell 0 rfl
      have cB0_1 := ((HB0_2.out.drew.ext hs_.1)).cell 1 rfl
      refine Rn.val fun K_ hK_ => ?_
      go_simp
      exact hK_.out _ (Ext.refl _)
    refine RnL.cons (fun g2 A_ W_ hs_ => ?_) ?_
    · refine Rn.val fun K_ hK_ => ?_
      go_simp
      refine (vat0 _ (HG.out.ext (HX2.out.drew.trans hs_.1))).mono ?_; rintro e W9_ ⟨rfl, e9_⟩; exact hK_.out _ e9_
    refine RnL.cons (fun g2 A_ W_ hs_ => ?_) ?_
    · have q8_ := hs_.val 0 rfl rfl rfl
      have q9_ := hs_.val 1 rfl rfl rfl
      refine Rn.val fun K_ hK_ => ?_
      go_simp
      exact hK_.out _ (Ext.refl _)
    refine RnL.cons (fun g2 A_ W_ hs_ => ?_) ?_
    · have q10_ := hs_.val 2 rfl rfl rfl
      refine Rn.val fun K_ hK_ => ?_
      go_simp
      exact hK_.out _ (Ext.refl _)
    exact RnL.nil
  simp only [fs, Kd.value, puts, Act.put, List.setIfInBounds_toArray, List.set_cons_zero, List.set_cons_succ]
  have HX3 : Hid (Ext w w3) := Lib.hid (HX2.out.drew.trans hx_)
  clear hx_ hm_ hne_
  go_wp2
  go_ret
  exact ⟨rfl, HX3.out⟩

set_option maxRecDepth 100000 in
set_option maxHeartbeats 2000000 in
theorem ahead_1 (n : P2) (w : World) (g : Gd w) (hn : PB 200 n) (h0 : n.x = 0) (h1 : n.y ≠ 0) : Calls Tryz.prog 44 #[.agg #[.string (qs n.x), .string (qs n.y)]] w (Ret w (.int .i64 0)) := by
  have HN := Lib.hid hn
  have HG := Lib.hid g
  clear hn g
  have h0_t := qs_is0 h0
  have h1_t := qs_not0 h1
  clear h0 h1
  go_enter Tryz.func44, Tryz.ntmps44
  go_wp2_with fail
  refine (vCheckPoint_ok n _ (HG.out.ext ((Ext.refl w).alloc _)) HN.out).mono ?_; rintro e w1 ⟨rfl, e1⟩
  have HX1 : Hid (Ext w w1) := Lib.hid (((Ext.refl w).alloc _).trans e1)
  have HB0_1 : Hid (Blk w1 (w.heap.size) #[.string (qs n.x), .string (qs n.y)] 24) := Lib.hid (Blk.ext (Blk.new' (w := _) (cs := #[.string (qs n.x), .string (qs n.y)]) (t := 24) (by first | rfl | (simp only [World.size_alloc]; done) | (simp only [World.size_alloc]; omega) | simp)) e1)
  have HGEB0 : Hid (w.heap.size ≤ w.heap.size) := Lib.hid (by first | omega | (simp only []; omega) | (simp; omega))
  clear e1
  go_wp2_with fail
  refine wp_name (fun W => Ext w W ∧ Blk W (w.heap.size) #[.string (qs n.x), .string (qs n.y)] 24) ⟨HX1.out, HB0_1.out⟩ ?_
  rintro w2 ⟨e2, bB0_2⟩
  have HX2 := Lib.hid e2; have HB0_2 := Lib.hid bB0_2
  clear e2 bB0_2
  refine region_lin [.val (.agg #[.string (qs n.x), .string (qs n.y)]), .val (.agg #[.string ⟨#[48]⟩, .string ⟨#[48]⟩]), .val (.bool false), .val (.bool false)] (by kernel_rfl) (by kernel_rfl) (by kernel_rfl) ?_ (fun g2 w3 hx_ hm_ hne_ => ?_)
  · skip
    refine RnL.cons (fun g2 A_ W_ hs_ => ?_) ?_
    · have q1_ := (hs_.old 1 (by kernel_rfl) : A_.tmps[1]?.getD undef = .pointer (some ⟨w.heap.size, 0, none⟩))
      have cB0_0 := ((HB0_2.out.drew.ext hs_.1)).cell 0 rfl
      have cB0_1 := ((HB0_2.out.drew.ext hs_.1)).cell 1 rfl
      refine Rn.val fun K_ hK_ => ?_
      go_simp
      exact hK_.out _ (Ext.refl _)
    refine RnL.cons (fun g2 A_ W_ hs_ => ?_) ?_
    · refine Rn.val fun K_ hK_ => ?_
      go_simp
      refine (vat0 _ (HG.out.ext (HX2.out.drew.trans hs_.1))).mono ?_; rintro e W9_ ⟨rfl, e9_⟩; exact hK_.out _ e9_
    refine RnL.cons (fun g2 A_ W_ hs_ => ?_) ?_
    · have q8_ := hs_.val 0 rfl rfl rfl
      have q9_ := hs_.val 1 rfl rfl rfl
      refine Rn.val fun K_ hK_ => ?_
      go_simp
      exact hK_.out _ (Ext.refl _)
    refine RnL.cons (fun g2 A_ W_ hs_ => ?_) ?_
    · have q10_ := hs_.val 2 rfl rfl rfl
      refine Rn.val fun K_ hK_ => ?_
      go_simp
      exact hK_.out _ (Ext.refl _)
    exact RnL.nil
  simp only [fs, Kd.value, puts, Act.put, List.setIfInBounds_toArray, List.set_cons_zero, List.set_cons_succ]
  have HX3 : Hid (Ext w w3) := Lib.hid (HX2.out.drew.trans hx_)
  clear hx_ hm_ hne_
  go_wp2
  go_ret
  exact ⟨rfl, HX3.out⟩

theorem acheck_ok (n : V3) (w : World) (g : Gd w) (hn : VB 200 n) (h : ¬ (n.x = 0 ∧ n.y = 0 ∧ n.z = 0)) : Calls Tryz.prog 52 #[vv n] w (Ret w (.int .i64 0)) := by
  by_cases h0 : n.x = 0
  · by_cases h1 : n.y = 0
    · exact acheck_2 n w g hn h0 h1 (fun e => h ⟨h0, h1, e⟩)
    · exact acheck_1 n w g hn h0 h1
  · exact acheck_0 n w g hn h0
theorem ahead_ok (n : P2) (w : World) (g : Gd w) (hn : PB 200 n) (h : ¬ (n.x = 0 ∧ n.y = 0)) : Calls Tryz.prog 44 #[pv n] w (Ret w (.int .i64 0)) := by
  by_cases h0 : n.x = 0
  · exact ahead_1 n w g hn h0 (fun e => h ⟨h0, e⟩)
  · exact ahead_0 n w g hn h0

set_option maxRecDepth 100000 in
set_option maxHeartbeats 2000000 in
theorem over_c (a b : Rat) {k m : Nat} (w : World) (g : Gd w) (ha : QB k a) (hb : QB m b) (hk : k ≤ 1400) (hm : m ≤ 1400) (h1 : 1 ≤ m) (h0 : b ≠ 0) : Calls Tryz.prog 46 #[.string (qs a), .string (qs b)] w (Ret w (.string (qs (a / b)))) := by
  have HA := Lib.hid ha
  have HB := Lib.hid hb
  have H0 := Lib.hid h0
  have HG := Lib.hid g
  clear ha hb h0 g
  go_enter Tryz.func46, Tryz.ntmps46
  go_wp2_with fail
  refine (rdiv_c a b _ (HG.out.ext (Ext.refl w)) HA.out HB.out (by omega) (by omega) (by omega) H0.out).mono ?_; rintro e w1 ⟨rfl, e1⟩
  have HX1 : Hid (Ext w w1) := Lib.hid ((Ext.refl w).trans e1)
  clear e1
  go_wp2
  go_ret
  exact ⟨rfl, HX1.out⟩

set_option maxRecDepth 100000 in
set_option maxHeartbeats 2000000 in
theorem anum_ok (x : Rat) (w : World) (g : Gd w) (hx : QB 200 x) : Calls Tryz.prog 45 #[.string (qs x)] w (Ret w (.tuple #[.string (qs x), .int .i64 0])) := by
  have HX0 := Lib.hid hx
  have HG := Lib.hid g
  clear hx g
  go_enter Tryz.func45, Tryz.ntmps45
  go_wp2_with fail
  refine (rcheck_yes (qs x) _ (HG.out.ext (Ext.refl w)) (HX0.out.len (by decide)) (rq_qs HX0.out)).mono ?_; rintro e w1 ⟨rfl, e1⟩
  have HX1 : Hid (Ext w w1) := Lib.hid ((Ext.refl w).trans e1)
  clear e1
  go_wp2
  go_ret2
  exact ⟨rfl, HX1.out⟩

end Go.Proofs.YtplimbgaoengfaaGreatDoor
