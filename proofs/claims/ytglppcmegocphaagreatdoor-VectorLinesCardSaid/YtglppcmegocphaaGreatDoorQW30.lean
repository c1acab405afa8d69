/- Part 30 of the proof: L8k. -/
import Derived.Test.YtglppcmegocphaaGreatDoorQW1
import Derived.Test.YtglppcmegocphaaGreatDoorQW2
import Derived.Test.YtglppcmegocphaaGreatDoorQW3
import Derived.Test.YtglppcmegocphaaGreatDoorQW4
import Derived.Test.YtglppcmegocphaaGreatDoorQW5
import Derived.Test.YtglppcmegocphaaGreatDoorQW6
import Derived.Test.YtglppcmegocphaaGreatDoorQW7
import Derived.Test.YtglppcmegocphaaGreatDoorQW8
import Derived.Test.YtglppcmegocphaaGreatDoorQW9
import Derived.Test.YtglppcmegocphaaGreatDoorQW10
import Derived.Test.YtglppcmegocphaaGreatDoorQW11
import Derived.Test.YtglppcmegocphaaGreatDoorQW12
import Derived.Test.YtglppcmegocphaaGreatDoorQW13
import Derived.Test.YtglppcmegocphaaGreatDoorQW14
import Derived.Test.YtglppcmegocphaaGreatDoorQW15
import Derived.Test.YtglppcmegocphaaGreatDoorQW16
import Derived.Test.YtglppcmegocphaaGreatDoorQW17
import Derived.Test.YtglppcmegocphaaGreatDoorQW18
import Derived.Test.YtglppcmegocphaaGreatDoorQW19
import Derived.Test.YtglppcmegocphaaGreatDoorQW20
import Derived.Test.YtglppcmegocphaaGreatDoorQW21
import Derived.Test.YtglppcmegocphaaGreatDoorQW22
import Derived.Test.YtglppcmegocphaaGreatDoorQW23
import Derived.Test.YtglppcmegocphaaGreatDoorQW24
import Derived.Test.YtglppcmegocphaaGreatDoorQW25
import Derived.Test.YtglppcmegocphaaGreatDoorQW26
import Derived.Test.YtglppcmegocphaaGreatDoorQW27
import Derived.Test.YtglppcmegocphaaGreatDoorQW28
namespace Go.Proofs.YtglppcmegocphaaGreatDoor
open Go Go.RowKit
set_option maxRecDepth 100000 in
set_option maxHeartbeats 16000000 in
theorem lines_walk_N (p q r s : Pla) (w : World) (g : Gd w) (hp : PlaOk p) (hq : PlaOk q) (hr : PlaOk r) (hs : PlaOk s) (hab : ppt p ≠ ppt q) (hcd : ppt r ≠ ppt s) (hct : lex (lthru (ppt p) (ppt q)) (ppt r) ≠ lex (lthru (ppt p) (ppt q)) (ppt s) ∧ 0 < (lex (lthru (ppt p) (ppt q)) (ppt r)).num.sign * (lex (lthru (ppt p) (ppt q)) (ppt s)).num.sign) : Calls Tryz.prog 7 #[.agg #[.int .i16 p.n0, .int .u8 (p.d0 : Int), .int .i16 p.n1, .int .u8 (p.d1 : Int), .int .i16 p.n2, .int .u8 (p.d2 : Int), .int .i16 q.n0, .int .u8 (q.d0 : Int), .int .i16 q.n1, .int .u8 (q.d1 : Int), .int .i16 q.n2, .int .u8 (q.d2 : Int)], .agg #[.int .i16 r.n0, .int .u8 (r.d0 : Int), .int .i16 r.n1, .int .u8 (r.d1 : Int), .int .i16 r.n2, .int .u8 (r.d2 : Int), .int .i16 s.n0, .int .u8 (s.d0 : Int), .int .i16 s.n1, .int .u8 (s.d1 : Int), .int .i16 s.n2, .int .u8 (s.d2 : Int)]] w (Ret w (.bool true)) := by
  have Hp := Lib.hid hp
  have Hq := Lib.hid hq
  have Hr := Lib.hid hr
  have Hs := Lib.hid hs
  have HG := Lib.hid g
  clear hp hq hr hs g
  have HCT0 := Lib.hid hct; clear hct
  have HAB0 := Lib.hid hab; have HCD0 := Lib.hid hcd; clear hab hcd
  obtain ⟨a, ea⟩ : ∃ a, ppt p = a := ⟨_, rfl⟩
  have HaE := Lib.hid ea; have Ha : Hid (PB 5 a) := Lib.hid (ea ▸ Hp.out.p); have HaD : Hid (PD 5 3 a) := Lib.hid (ea ▸ Hp.out.pd); clear ea
  obtain ⟨b, eb⟩ : ∃ b, ppt q = b := ⟨_, rfl⟩
  have HbE := Lib.hid eb; have Hb : Hid (PB 5 b) := Lib.hid (eb ▸ Hq.out.p); have HbD : Hid (PD 5 3 b) := Lib.hid (eb ▸ Hq.out.pd); clear eb
  obtain ⟨c, ec⟩ : ∃ c, ppt r = c := ⟨_, rfl⟩
  have HcE := Lib.hid ec; have Hc : Hid (PB 5 c) := Lib.hid (ec ▸ Hr.out.p); have HcD : Hid (PD 5 3 c) := Lib.hid (ec ▸ Hr.out.pd); clear ec
  obtain ⟨d, ed⟩ : ∃ d, ppt s = d := ⟨_, rfl⟩
  have HdE := Lib.hid ed; have Hd : Hid (PB 5 d) := Lib.hid (ed ▸ Hs.out.p); have HdD : Hid (PD 5 3 d) := Lib.hid (ed ▸ Hs.out.pd); clear ed
  have HAB : Hid (a ≠ b) := Lib.hid (by have h := HAB0.out; rw [HaE.out, HbE.out] at h; exact h)
  have HCD : Hid (c ≠ d) := Lib.hid (by have h := HCD0.out; rw [HcE.out, HdE.out] at h; exact h)
  obtain ⟨L, eL⟩ : ∃ L, lthru a b = L := ⟨_, rfl⟩
  have HLE := Lib.hid eL; have HLD : Hid (LDd L) := Lib.hid (eL ▸ lthru_d HaD.out HbD.out); have HL : Hid (VB 24 L) := Lib.hid HLD.out.vb; have HLZ : Hid (¬ (L.x = 0 ∧ L.y = 0)) := Lib.hid (eL ▸ lthru_ne HAB.out); clear eL
  obtain ⟨M, eM⟩ : ∃ M, lthru c d = M := ⟨_, rfl⟩
  have HME := Lib.hid eM; have HMD : Hid (LDd M) := Lib.hid (eM ▸ lthru_d HcD.out HdD.out); have HM : Hid (VB 24 M) := Lib.hid HMD.out.vb; have HMZ : Hid (¬ (M.x = 0 ∧ M.y = 0)) := Lib.hid (eM ▸ lthru_ne HCD.out); clear eM
  obtain ⟨F, px, py, hF, hpq, hM⟩ := meet_ex L M HLD.out HMD.out HLZ.out HMZ.out
  have HF := Lib.hid hF; have HMT := Lib.hid hM; clear hF hM
  obtain ⟨m1, e1⟩ : ∃ m, qs (L.x * M.y) = m := ⟨_, rfl⟩
  obtain ⟨m2, e2⟩ : ∃ m, qs (L.y * M.x) = m := ⟨_, rfl⟩
  have hm_t : (m1.toList == m2.toList) = !F := by rw [← e1, ← e2]; exact hpq
  have HM1 := Lib.hid e1; have HM2 := Lib.hid e2; clear e1 e2 hpq
  obtain ⟨U, eU⟩ : ∃ U, lex L c = U := ⟨_, rfl⟩
  have HUE := Lib.hid eU; have HUD : Hid (QD 43 36 U) := Lib.hid (eU ▸ lex_d HLD.out HcD.out); have HU : Hid (QB 43 U) := Lib.hid (HUD.out.qb (by decide) (by decide)); clear eU
  obtain ⟨V, eV⟩ : ∃ V, lex L d = V := ⟨_, rfl⟩
  have HVE := Lib.hid eV; have HVD : Hid (QD 43 36 V) := Lib.hid (eV ▸ lex_d HLD.out HdD.out); have HV : Hid (QB 43 V) := Lib.hid (HVD.out.qb (by decide) (by decide)); clear eV
  have HCT : Hid (U ≠ V ∧ 0 < U.num.sign * V.num.sign) := Lib.hid (by have h := HCT0.out; rw [HaE.out, HbE.out, HcE.out, HdE.out, HLE.out] at h; rw [HUE.out, HVE.out] at h; exact h)
  have hpb := sgn_bd U V
  have hp1 := hpb.1; have hp2 := hpb.2; clear hpb
  have hpp : 0 < U.num.sign * V.num.sign := HCT.out.2
  go_enter Tryz.func7, Tryz.ntmps7
  go_wp2_with fail
  refine (known_c _ (HG.out.ext (((Ext.refl w).alloc _).alloc _))).mono ?_; rintro e w1 ⟨rfl, e1⟩
  have HX1 : Hid (Ext w w1) := Lib.hid ((((Ext.refl w).alloc _).alloc _).trans e1)
  have HB0_1 : Hid (Blk w1 (w.heap.size) #[.int .i16 p.n0, .int .u8 (p.d0 : Int), .int .i16 p.n1, .int .u8 (p.d1 : Int), .int .i16 p.n2, .int .u8 (p.d2 : Int), .int .i16 q.n0, .int .u8 (q.d0 : Int), .int .i16 q.n1, .int .u8 (q.d1 : Int), .int .i16 q.n2, .int .u8 (q.d2 : Int)] 44) := Lib.hid (Blk.ext ((Blk.new' (w := _) (cs := #[.int .i16 p.n0, .int .u8 (p.d0 : Int), .int .i16 p.n1, .int .u8 (p.d1 : Int), .int .i16 p.n2, .int .u8 (p.d2 : Int), .int .i16 q.n0, .int .u8 (q.d0 : Int), .int .i16 q.n1, .int .u8 (q.d1 : Int), .int .i16 q.n2, .int .u8 (q.d2 : Int)]) (t := 44) (by first | rfl | (simp only [World.size_alloc]; done) | (simp only [World.size_alloc]; omega) | simp)).alloc _) e1)
  have HB1_1 : Hid (Blk w1 (w.heap.size + 1) #[.int .i16 r.n0, .int .u8 (r.d0 : Int), .int .i16 r.n1, .int .u8 (r.d1 : Int), .int .i16 r.n2, .int .u8 (r.d2 : Int), .int .i16 s.n0, .int .u8 (s.d0 : Int), .int .i16 s.n1, .int .u8 (s.d1 : Int), .int .i16 s.n2, .int .u8 (s.d2 : Int)] 44) := Lib.hid (Blk.ext (Blk.new' (w := _) (cs := #[.int .i16 r.n0, .int .u8 (r.d0 : Int), .int .i16 r.n1, .int .u8 (r.d1 : Int), .int .i16 r.n2, .int .u8 (r.d2 : Int), .int .i16 s.n0, .int .u8 (s.d0 : Int), .int .i16 s.n1, .int .u8 (s.d1 : Int), .int .i16 s.n2, .int .u8 (s.d2 : Int)]) (t := 44) (by first | rfl | (simp only [World.size_alloc]; done) | (simp only [World.size_alloc]; omega) | simp)) e1)
  have HGEB0 : Hid (w.heap.size ≤ w.heap.size) := Lib.hid (by first | omega | (simp only []; omega) | (simp; omega))
  have HGEB1 : Hid (w.heap.size ≤ w.heap.size + 1) := Lib.hid (by first | omega | (simp only []; omega) | (simp; omega))
  clear e1
  go_wp2_with fail
  refine wp_name (fun W => Ext w W ∧ Blk W (w.heap.size) #[.int .i16 p.n0, .int .u8 (p.d0 : Int), .int .i16 p.n1, .int .u8 (p.d1 : Int), .int .i16 p.n2, .int .u8 (p.d2 : Int), .int .i16 q.n0, .int .u8 (q.d0 : Int), .int .i16 q.n1, .int .u8 (q.d1 : Int), .int .i16 q.n2, .int .u8 (q.d2 : Int)] 44 ∧ Blk W (w.heap.size + 1) #[.int .i16 r.n0, .int .u8 (r.d0 : Int), .int .i16 r.n1, .int .u8 (r.d1 : Int), .int .i16 r.n2, .int .u8 (r.d2 : Int), .int .i16 s.n0, .int .u8 (s.d0 : Int), .int .i16 s.n1, .int .u8 (s.d1 : Int), .int .i16 s.n2, .int .u8 (s.d2 : Int)] 44) ⟨HX1.out, HB0_1.out, HB1_1.out⟩ ?_
  rintro w2 ⟨e2, bB0_2, bB1_2⟩
  have HX2 := Lib.hid e2; have HB0_2 := Lib.hid bB0_2; have HB1_2 := Lib.hid bB1_2
  clear e2 bB0_2 bB1_2
  refine region_lin [.val (.pointer (some ⟨w.heap.size, 0, none⟩)), .val (.agg #[.int .i16 p.n0, .int .u8 (p.d0 : Int), .int .i16 p.n1, .int .u8 (p.d1 : Int), .int .i16 p.n2, .int .u8 (p.d2 : Int)]), .val (.agg #[.string (qs a.x), .string (qs a.y)]), .val (.pointer (some ⟨w.heap.size, 6, none⟩)), .val (.agg #[.int .i16 q.n0, .int .u8 (q.d0 : Int), .int .i16 q.n1, .int .u8 (q.d1 : Int), .int .i16 q.n2, .int .u8 (q.d2 : Int)]), .val (.agg #[.string (qs b.x), .string (qs b.y)]), .val (.pointer (some ⟨w.heap.size + 1, 0, none⟩)), .val (.agg #[.int .i16 r.n0, .int .u8 (r.d0 : Int), .int .i16 r.n1, .int .u8 (r.d1 : Int), .int .i16 r.n2, .int .u8 (r.d2 : Int)]), .val (.agg #[.string (qs c.x), .string (qs c.y)]), .val (.pointer (some ⟨w.heap.size + 1, 6, none⟩)), .val (.agg #[.int .i16 s.n0, .int .u8 (s.d0 : Int), .int .i16 s.n1, .int .u8 (s.d1 : Int), .int .i16 s.n2, .int .u8 (s.d2 : Int)]), .val (.agg #[.string (qs d.x), .string (qs d.y)]), .mem (fun b_ => .pointer (some ⟨b_, 0, none⟩)) #[.string ⟨#[]⟩, .string ⟨#[]⟩] 62 (Option.some 16), .mem (fun b_ => .pointer (some ⟨b_, 0, none⟩)) #[.string ⟨#[]⟩, .string ⟨#[]⟩] 62 (Option.some 17), .mem (fun b_ => .pointer (some ⟨b_, 0, none⟩)) #[.string ⟨#[]⟩, .string ⟨#[]⟩] 62 (Option.some 18), .mem (fun b_ => .pointer (some ⟨b_, 0, none⟩)) #[.string ⟨#[]⟩, .string ⟨#[]⟩] 62 (Option.some 19), .put 12 #[.string (qs a.x), .string (qs a.y)], .put 13 #[.string (qs b.x), .string (qs b.y)], .put 14 #[.string (qs c.x), .string (qs c.y)], .put 15 #[.string (qs d.x), .string (qs d.y)]] (by kernel_rfl) (by kernel_rfl) (by kernel_rfl) ?_ (fun g2 w3 hx_ hm_ hne_ => ?_)
  · skip
    refine RnL.cons (fun g2 A_ W_ hs_ => ?_) ?_
    · have q2_ := (hs_.old 2 (by kernel_rfl) : A_.tmps[2]?.getD undef = .pointer (some ⟨w.heap.size, 0, none⟩))
      refine Rn.val fun K_ hK_ => ?_
      go_simp
      exact hK_.out _ (Ext.refl _)
    refine RnL.cons (fun g2 A_ W_ hs_ => ?_) ?_
    · have q25_ := hs_.val 0 rfl rfl rfl
      have cB0_0 := (HB0_2.out.drew.ext hs_.1).cell 0 rfl
      have cB0_1 := (HB0_2.out.drew.ext hs_.1).cell 1 rfl
      have cB0_2 := (HB0_2.out.drew.ext hs_.1).cell 2 rfl
      have cB0_3 := (HB0_2.out.drew.ext hs_.1).cell 3 rfl
      have cB0_4 := (HB0_2.out.drew.ext hs_.1).cell 4 rfl
      have cB0_5 := (HB0_2.out.drew.ext hs_.1).cell 5 rfl
      refine Rn.val fun K_ hK_ => ?_
      go_simp
      exact hK_.out _ (Ext.refl _)
    refine RnL.cons (fun g2 A_ W_ hs_ => ?_) ?_
    · have q26_ := hs_.val 1 rfl rfl rfl
      refine Rn.val fun K_ hK_ => ?_
      go_simp
      refine ((HaE.out ▸ point_c p _ (HG.out.ext (HX2.out.drew.trans hs_.1)) Hp.out)).mono ?_; rintro e W9_ ⟨rfl, e9_⟩; exact hK_.out _ e9_
    refine RnL.cons (fun g2 A_ W_ hs_ => ?_) ?_
    · have q2_ := (hs_.old 2 (by kernel_rfl) : A_.tmps[2]?.getD undef = .pointer (some ⟨w.heap.size, 0, none⟩))
      refine Rn.val fun K_ hK_ => ?_
      go_simp
      exact hK_.out _ (Ext.refl _)
    refine RnL.cons (fun g2 A_ W_ hs_ => ?_) ?_
    · have q28_ := hs_.val 3 rfl rfl rfl
      have cB0_6 := (HB0_2.out.drew.ext hs_.1).cell 6 rfl
      have cB0_7 := (HB0_2.out.drew.ext hs_.1).cell 7 rfl
      have cB0_8 := (HB0_2.out.drew.ext hs_.1).cell 8 rfl
      have cB0_9 := (HB0_2.out.drew.ext hs_.1).cell 9 rfl
      have cB0_10 := (HB0_2.out.drew.ext hs_.1).cell 10 rfl
      have cB0_11 := (HB0_2.out.drew.ext hs_.1).cell 11 rfl
      refine Rn.val fun K_ hK_ => ?_
      go_simp
      exact hK_.out _ (Ext.refl _)
    refine RnL.cons (fun g2 A_ W_ hs_ => ?_) ?_
    · have q29_ := hs_.val 4 rfl rfl rfl
      refine Rn.val fun K_ hK_ => ?_
      go_simp
      refine ((HbE.out ▸ point_c q _ (HG.out.ext (HX2.out.drew.trans hs_.1)) Hq.out)).mono ?_; rintro e W9_ ⟨rfl, e9_⟩; exact hK_.out _ e9_
    refine RnL.cons (fun g2 A_ W_ hs_ => ?_) ?_
    · have q3_ := (hs_.old 3 (by kernel_rfl) : A_.tmps[3]?.getD undef = .pointer (some ⟨w.heap.size + 1, 0, none⟩))
      refine Rn.val fun K_ hK_ => ?_
      go_simp
      exact hK_.out _ (Ext.refl _)
    refine RnL.cons (fun g2 A_ W_ hs_ => ?_) ?_
    · have q31_ := hs_.val 6 rfl rfl rfl
      have cB1_0 := (HB1_2.out.drew.ext hs_.1).cell 0 rfl
      have cB1_1 := (HB1_2.out.drew.ext hs_.1).cell 1 rfl
      have cB1_2 := (HB1_2.out.drew.ext hs_.1).cell 2 rfl
      have cB1_3 := (HB1_2.out.drew.ext hs_.1).cell 3 rfl
      have cB1_4 := (HB1_2.out.drew.ext hs_.1).cell 4 rfl
      have cB1_5 := (HB1_2.out.drew.ext hs_.1).cell 5 rfl
      refine Rn.val fun K_ hK_ => ?_
      go_simp
      exact hK_.out _ (Ext.refl _)
    refine RnL.cons (fun g2 A_ W_ hs_ => ?_) ?_
    · have q32_ := hs_.val 7 rfl rfl rfl
      refine Rn.val fun K_ hK_ => ?_
      go_simp
      refine ((HcE.out ▸ point_c r _ (HG.out.ext (HX2.out.drew.trans hs_.1)) Hr.out)).mono ?_; rintro e W9_ ⟨rfl, e9_⟩; exact hK_.out _ e9_
    refine RnL.cons (fun g2 A_ W_ hs_ => ?_) ?_
    · have q3_ := (hs_.old 3 (by kernel_rfl) : A_.tmps[3]?.getD undef = .pointer (some ⟨w.heap.size + 1, 0, none⟩))
      refine Rn.val fun K_ hK_ => ?_
      go_simp
      exact hK_.out _ (Ext.refl _)
    refine RnL.cons (fun g2 A_ W_ hs_ => ?_) ?_
    · have q34_ := hs_.val 9 rfl rfl rfl
      have cB1_6 := (HB1_2.out.drew.ext hs_.1).cell 6 rfl
      have cB1_7 := (HB1_2.out.drew.ext hs_.1).cell 7 rfl
      have cB1_8 := (HB1_2.out.drew.ext hs_.1).cell 8 rfl
      have cB1_9 := (HB1_2.out.drew.ext hs_.1).cell 9 rfl
      have cB1_10 := (HB1_2.out.drew.ext hs_.1).cell 10 rfl
      have cB1_11 := (HB1_2.out.drew.ext hs_.1).cell 11 rfl
      refine Rn.val fun K_ hK_ => ?_
      go_simp
      exact hK_.out _ (Ext.refl _)
    refine RnL.cons (fun g2 A_ W_ hs_ => ?_) ?_
    · have q35_ := hs_.val 10 rfl rfl rfl
      refine Rn.val fun K_ hK_ => ?_
      go_simp
      refine ((HdE.out ▸ point_c s _ (HG.out.ext (HX2.out.drew.trans hs_.1)) Hs.out)).mono ?_; rintro e W9_ ⟨rfl, e9_⟩; exact hK_.out _ e9_
    refine RnL.cons (fun g2 A_ W_ hs_ => ?_) ?_
    · refine Rn.mem fun K_ hK_ => ?_
      go_simp
      exact hK_.out
    refine RnL.cons (fun g2 A_ W_ hs_ => ?_) ?_
    · refine Rn.mem fun K_ hK_ => ?_
      go_simp
      exact hK_.out
    refine RnL.cons (fun g2 A_ W_ hs_ => ?_) ?_
    · refine Rn.mem fun K_ hK_ => ?_
      go_simp
      exact hK_.out
    refine RnL.cons (fun g2 A_ W_ hs_ => ?_) ?_
    · refine Rn.mem fun K_ hK_ => ?_
      go_simp
      exact hK_.out
    refine RnL.cons (fun g2 A_ W_ hs_ => ?_) ?_
    · have q5_ := (hs_.mem 12 rfl rfl rfl).1
      have q27_ := hs_.val 2 rfl rfl rfl
      refine Rn.put (z := #[.string ⟨#[]⟩, .string ⟨#[]⟩]) (t := 62) rfl fun hB K_ hK_ => ?_
      have c_0 := hB.cell 0 rfl; have f_0 := hB.free 0
      have c_1 := hB.cell 1 rfl; have f_1 := hB.free 1
      have HB := Lib.hid hB; clear hB
      go_simp
      exact hK_.out _ (((Only.refl _ _).set 0 _).set 1 _) ((HB.out.set 0 _).set 1 _)
    refine RnL.cons (fun g2 A_ W_ hs_ => ?_) ?_
    · have q6_ := (hs_.mem 13 rfl rfl rfl).1
      have q30_ := hs_.val 5 rfl rfl rfl
      refine Rn.put (z := #[.string ⟨#[]⟩, .string ⟨#[]⟩]) (t := 62) rfl fun hB K_ hK_ => ?_
      have c_0 := hB.cell 0 rfl; have f_0 := hB.free 0
      have c_1 := hB.cell 1 rfl; have f_1 := hB.free 1
      have HB := Lib.hid hB; clear hB
      go_simp
      exact hK_.out _ (((Only.refl _ _).set 0 _).set 1 _) ((HB.out.set 0 _).set 1 _)
    refine RnL.cons (fun g2 A_ W_ hs_ => ?_) ?_
    · have q7_ := (hs_.mem 14 rfl rfl rfl).1
      have q33_ := hs_.val 8 rfl rfl rfl
      refine Rn.put (z := #[.string ⟨#[]⟩, .string ⟨#[]⟩]) (t := 62) rfl fun hB K_ hK_ => ?_
      have c_0 := hB.cell 0 rfl; have f_0 := hB.free 0
      have c_1 := hB.cell 1 rfl; have f_1 := hB.free 1
      have HB := Lib.hid hB; clear hB
      go_simp
      exact hK_.out _ (((Only.refl _ _).set 0 _).set 1 _) ((HB.out.set 0 _).set 1 _)
    refine RnL.cons (fun g2 A_ W_ hs_ => ?_) ?_
    · have q8_ := (hs_.mem 15 rfl rfl rfl).1
      have q36_ := hs_.val 11 rfl rfl rfl
      refine Rn.put (z := #[.string ⟨#[]⟩, .string ⟨#[]⟩]) (t := 62) rfl fun hB K_ hK_ => ?_
      have c_0 := hB.cell 0 rfl; have f_0 := hB.free 0
      have c_1 := hB.cell 1 rfl; have f_1 := hB.free 1
      have HB := Lib.hid hB; clear hB
      go_simp
      exact hK_.out _ (((Only.refl _ _).set 0 _).set 1 _) ((HB.out.set 0 _).set 1 _)
    exact RnL.nil
  simp only [fs, Kd.value, puts, Act.put, List.setIfInBounds_toArray, List.set_cons_zero, List.set_cons_succ, Nat.reduceAdd]
  have HX3 : Hid (Ext w w3) := Lib.hid (HX2.out.drew.trans hx_)
  have HB2_3 : Hid (Blk w3 (g2 12) #[.string (qs a.x), .string (qs a.y)] 62) := Lib.hid (hm_ 12 _ _ _ _ rfl).2; have HGEB2 : Hid (w.heap.size ≤ g2 12) := Lib.hid (Nat.le_trans HX2.out.size (hm_ 12 _ _ _ _ rfl).1)
  have HB3_3 : Hid (Blk w3 (g2 13) #[.string (qs b.x), .string (qs b.y)] 62) := Lib.hid (hm_ 13 _ _ _ _ rfl).2; have HGEB3 : Hid (w.heap.size ≤ g2 13) := Lib.hid (Nat.le_trans HX2.out.size (hm_ 13 _ _ _ _ rfl).1)
  have HB4_3 : Hid (Blk w3 (g2 14) #[.string (qs c.x), .string (qs c.y)] 62) := Lib.hid (hm_ 14 _ _ _ _ rfl).2; have HGEB4 : Hid (w.heap.size ≤ g2 14) := Lib.hid (Nat.le_trans HX2.out.size (hm_ 14 _ _ _ _ rfl).1)
  have HB5_3 : Hid (Blk w3 (g2 15) #[.string (qs d.x), .string (qs d.y)] 62) := Lib.hid (hm_ 15 _ _ _ _ rfl).2; have HGEB5 : Hid (w.heap.size ≤ g2 15) := Lib.hid (Nat.le_trans HX2.out.size (hm_ 15 _ _ _ _ rfl).1)
  have HNEB2B3 : Hid (g2 12 ≠ g2 13) := Lib.hid (hne_ 12 13 (by decide) ⟨_, _, _, _, rfl⟩ ⟨_, _, _, _, rfl⟩)
  have HNEB2B4 : Hid (g2 12 ≠ g2 14) := Lib.hid (hne_ 12 14 (by decide) ⟨_, _, _, _, rfl⟩ ⟨_, _, _, _, rfl⟩)
  have HNEB3B4 : Hid (g2 13 ≠ g2 14) := Lib.hid (hne_ 13 14 (by decide) ⟨_, _, _, _, rfl⟩ ⟨_, _, _, _, rfl⟩)
  have HNEB2B5 : Hid (g2 12 ≠ g2 15) := Lib.hid (hne_ 12 15 (by decide) ⟨_, _, _, _, rfl⟩ ⟨_, _, _, _, rfl⟩)
  have HNEB3B5 : Hid (g2 13 ≠ g2 15) := Lib.hid (hne_ 13 15 (by decide) ⟨_, _, _, _, rfl⟩ ⟨_, _, _, _, rfl⟩)
  have HNEB4B5 : Hid (g2 14 ≠ g2 15) := Lib.hid (hne_ 14 15 (by decide) ⟨_, _, _, _, rfl⟩ ⟨_, _, _, _, rfl⟩)
  clear hx_ hm_ hne_
  generalize g2 12 = i2 at *
  generalize g2 13 = i3 at *
  generalize g2 14 = i4 at *
  generalize g2 15 = i5 at *
  clear g2
  have c2_0 := HB2_3.out.cell 0 rfl
  have c2_1 := HB2_3.out.cell 1 rfl
  have c3_0 := HB3_3.out.cell 0 rfl
  have c3_1 := HB3_3.out.cell 1 rfl
  go_wp2_with fail
  refine (thr_n a b L _ (HG.out.ext HX3.out) HLE.out HAB.out Ha.out Hb.out HL.out).mono ?_; rintro e w4 ⟨rfl, e4⟩
  have HX4 : Hid (Ext w w4) := Lib.hid (HX3.out.trans e4)
  have HB2_4 := Lib.hid (Blk.ext HB2_3.out e4)
  have HB3_4 := Lib.hid (Blk.ext HB3_3.out e4)
  have HB4_4 := Lib.hid (Blk.ext HB4_3.out e4)
  have HB5_4 := Lib.hid (Blk.ext HB5_3.out e4)
  clear e4 c2_0 c2_1 c3_0 c3_1
  go_upto_region 5 with fail
  refine wp_name (fun W => Ext w W ∧ Blk W (i2) #[.string (qs a.x), .string (qs a.y)] 62 ∧ Blk W (i3) #[.string (qs b.x), .string (qs b.y)] 62 ∧ Blk W (i4) #[.string (qs c.x), .string (qs c.y)] 62 ∧ Blk W (i5) #[.string (qs d.x), .string (qs d.y)] 62 ∧ Blk W (w4.heap.size) #[.string (qs L.x), .string (qs L.y), .string (qs L.z)] 73) ⟨(HX4.out.alloc _), (HB2_4.out.alloc _), (HB3_4.out.alloc _), (HB4_4.out.alloc _), (HB5_4.out.alloc _), (Blk.new' (w := _) (cs := #[.string (qs L.x), .string (qs L.y), .string (qs L.z)]) (t := 73) (by first | rfl | (simp only [World.size_alloc]; done) | (simp only [World.size_alloc]; omega) | simp))⟩ ?_
  rintro w5 ⟨e5, bB2_5, bB3_5, bB4_5, bB5_5, bB6_5⟩
  have HX5 := Lib.hid e5; have HB2_5 := Lib.hid bB2_5; have HB3_5 := Lib.hid bB3_5; have HB4_5 := Lib.hid bB4_5; have HB5_5 := Lib.hid bB5_5; have HB6_5 := Lib.hid bB6_5
  have HGEB6 : Hid (w.heap.size ≤ w4.heap.size) := Lib.hid (by have := HX4.out.size; first | omega | (simp only []; omega) | (simp; omega))
  clear e5 bB2_5 bB3_5 bB4_5 bB5_5 bB6_5
  have c4_0 := HB4_5.out.cell 0 rfl
  have c4_1 := HB4_5.out.cell 1 rfl
  have c5_0 := HB5_5.out.cell 0 rfl
  have c5_1 := HB5_5.out.cell 1 rfl
  go_wp2_with fail
  refine (thr_n c d M _ (HG.out.ext HX5.out) HME.out HCD.out Hc.out Hd.out HM.out).mono ?_; rintro e w6 ⟨rfl, e6⟩
  have HX6 : Hid (Ext w w6) := Lib.hid (HX5.out.trans e6)
  have HB2_6 := Lib.hid (Blk.ext HB2_5.out e6)
  have HB3_6 := Lib.hid (Blk.ext HB3_5.out e6)
  have HB4_6 := Lib.hid (Blk.ext HB4_5.out e6)
  have HB5_6 := Lib.hid (Blk.ext HB5_5.out e6)
  have HB6_6 := Lib.hid (Blk.ext HB6_5.out e6)
  clear e6 c4_0 c4_1 c5_0 c5_1
  go_upto_region 6 with fail
  refine wp_name (fun W => Ext w W ∧ Blk W (i2) #[.string (qs a.x), .string (qs a.y)] 62 ∧ Blk W (i3) #[.string (qs b.x), .string (qs b.y)] 62 ∧ Blk W (i4) #[.string (qs c.x), .string (qs c.y)] 62 ∧ Blk W (i5) #[.string (qs d.x), .string (qs d.y)] 62 ∧ Blk W (w4.heap.size) #[.string (qs L.x), .string (qs L.y), .string (qs L.z)] 73 ∧ Blk W (w6.heap.size) #[.string (qs M.x), .string (qs M.y), .string (qs M.z)] 73) ⟨(HX6.out.alloc _), (HB2_6.out.alloc _), (HB3_6.out.alloc _), (HB4_6.out.alloc _), (HB5_6.out.alloc _), (HB6_6.out.alloc _), (Blk.new' (w := _) (cs := #[.string (qs M.x), .string (qs M.y), .string (qs M.z)]) (t := 73) (by first | rfl | (simp only [World.size_alloc]; done) | (simp only [World.size_alloc]; omega) | simp))⟩ ?_
  rintro w7 ⟨e7, bB2_7, bB3_7, bB4_7, bB5_7, bB6_7, bB7_7⟩
  have HX7 := Lib.hid e7; have HB2_7 := Lib.hid bB2_7; have HB3_7 := Lib.hid bB3_7; have HB4_7 := Lib.hid bB4_7; have HB5_7 := Lib.hid bB5_7; have HB6_7 := Lib.hid bB6_7; have HB7_7 := Lib.hid bB7_7
  have HGEB7 : Hid (w.heap.size ≤ w6.heap.size) := Lib.hid (by have := HX6.out.size; first | omega | (simp only []; omega) | (simp; omega))
  clear e7 bB2_7 bB3_7 bB4_7 bB5_7 bB6_7 bB7_7
  go_cut [56] from 49 to 56 (fun s_ wx => s_ = .bool false ∧ w7 = wx)
  case first =>
    have cB2_0 := HB2_7.out.cell 0 rfl
    have cB2_1 := HB2_7.out.cell 1 rfl
    have cB3_0 := HB3_7.out.cell 0 rfl
    have cB3_1 := HB3_7.out.cell 1 rfl
    have cB4_0 := HB4_7.out.cell 0 rfl
    have cB4_1 := HB4_7.out.cell 1 rfl
    have cB5_0 := HB5_7.out.cell 0 rfl
    have cB5_1 := HB5_7.out.cell 1 rfl
    go_wp2_with fail
    all_goals first | (go_meet; exact ⟨rfl, rfl⟩) | (first | exact absurd (p2_ext (by assumption) (by assumption)) HAB.out | exact absurd (p2_ext (by assumption) (by assumption)) HCD.out)
  obtain ⟨rfl, rfl⟩ := hcut
  go_wp2_with fail
  refine wp_name (fun W => Ext w W ∧ Blk W (i2) #[.string (qs a.x), .string (qs a.y)] 62 ∧ Blk W (i3) #[.string (qs b.x), .string (qs b.y)] 62 ∧ Blk W (i4) #[.string (qs c.x), .string (qs c.y)] 62 ∧ Blk W (i5) #[.string (qs d.x), .string (qs d.y)] 62 ∧ Blk W (w4.heap.size) #[.string (qs L.x), .string (qs L.y), .string (qs L.z)] 73 ∧ Blk W (w6.heap.size) #[.string (qs M.x), .string (qs M.y), .string (qs M.z)] 73) ⟨HX7.out, HB2_7.out, HB3_7.out, HB4_7.out, HB5_7.out, HB6_7.out, HB7_7.out⟩ ?_
  rintro w8 ⟨e8, bB2_8, bB3_8, bB4_8, bB5_8, bB6_8, bB7_8⟩
  have HX8 := Lib.hid e8; have HB2_8 := Lib.hid bB2_8; have HB3_8 := Lib.hid bB3_8; have HB4_8 := Lib.hid bB4_8; have HB5_8 := Lib.hid bB5_8; have HB6_8 := Lib.hid bB6_8; have HB7_8 := Lib.hid bB7_8
  clear e8 bB2_8 bB3_8 bB4_8 bB5_8 bB6_8 bB7_8
  refine region_lin [.val (.int .i64 0), .val (.bool false), .val (.bool false), .val (.int .i64 0), .val (.bool false), .val (.bool false), .val (.bool false), .val (.agg #[.string (qs L.x), .string (qs L.y), .string (qs L.z)]), .val (.pointer (some ⟨i2, 1, none⟩)), .val (.string (qs a.y)), .val (.pointer (some ⟨i3, 1, none⟩)), .val (.string (qs b.y)), .val (.string (qs L.x)), .val (.pointer (some ⟨i3, 0, none⟩)), .val (.string (qs b.x)), .val (.pointer (some ⟨i2, 0, none⟩)), .val (.string (qs a.x)), .val (.string (qs L.y)), .val (.pointer (some ⟨i2, 1, none⟩)), .val (.string (qs a.y)), .val (.pointer (some ⟨i3, 1, none⟩)), .val (.string (qs b.y)), .val (.string (qs L.x)), .val (.pointer (some ⟨i3, 0, none⟩)), .val (.string (qs b.x)), .val (.pointer (some ⟨i2, 0, none⟩)), .val (.string (qs a.x)), .val (.string (qs L.y)), .val (.agg #[.string (qs a.x), .string (qs a.y)]), .val (.string (qs L.z)), .val (.agg #[.string (qs L.x), .string (qs L.y), .string (qs L.z)]), .val (.bool false), .val (.bool false)] (by kernel_rfl) (by kernel_rfl) (by kernel_rfl) ?_ (fun g8 w9 hx_ hm_ hne_ => ?_)
  · skip
    refine RnL.cons (fun g8 A_ W_ hs_ => ?_) ?_
    · have q10_ := (hs_.old 10 (by kernel_rfl) : A_.tmps[10]?.getD undef = .int .i64 0)
      refine Rn.val fun K_ hK_ => ?_
      go_simp
      exact hK_.out _ (Ext.refl _)
    refine RnL.cons (fun g8 A_ W_ hs_ => ?_) ?_
    · have q73_ := hs_.val 0 rfl rfl rfl
      refine Rn.val fun K_ hK_ => ?_
      go_simp
      exact hK_.out _ (Ext.refl _)
    refine RnL.cons (fun g8 A_ W_ hs_ => ?_) ?_
    · have q74_ := hs_.val 1 rfl rfl rfl
      refine Rn.val fun K_ hK_ => ?_
      go_simp
      exact hK_.out _ (Ext.refl _)
    refine RnL.cons (fun g8 A_ W_ hs_ => ?_) ?_
    · have q12_ := (hs_.old 12 (by kernel_rfl) : A_.tmps[12]?.getD undef = .int .i64 0)
      refine Rn.val fun K_ hK_ => ?_
      go_simp
      exact hK_.out _ (Ext.refl _)
    refine RnL.cons (fun g8 A_ W_ hs_ => ?_) ?_
    · have q76_ := hs_.val 3 rfl rfl rfl
      refine Rn.val fun K_ hK_ => ?_
      go_simp
      exact hK_.out _ (Ext.refl _)
    refine RnL.cons (fun g8 A_ W_ hs_ => ?_) ?_
    · have q75_ := hs_.val 2 rfl rfl rfl
      have q77_ := hs_.val 4 rfl rfl rfl
      refine Rn.val fun K_ hK_ => ?_
      go_simp
      exact hK_.out _ (Ext.refl _)
    refine RnL.cons (fun g8 A_ W_ hs_ => ?_) ?_
    · have q78_ := hs_.val 5 rfl rfl rfl
      refine Rn.val fun K_ hK_ => ?_
      go_simp
      exact hK_.out _ (Ext.refl _)
    refine RnL.cons (fun g8 A_ W_ hs_ => ?_) ?_
    · have q9_ := (hs_.old 9 (by kernel_rfl) : A_.tmps[9]?.getD undef = .pointer (some ⟨w4.heap.size, 0, none⟩))
      have cB6_0 := (HB6_8.out.drew.ext hs_.1).cell 0 rfl
      have cB6_1 := (HB6_8.out.drew.ext hs_.1).cell 1 rfl
      have cB6_2 := (HB6_8.out.drew.ext hs_.1).cell 2 rfl
      refine Rn.val fun K_ hK_ => ?_
      go_simp
      exact hK_.out _ (Ext.refl _)
    refine RnL.cons (fun g8 A_ W_ hs_ => ?_) ?_
    · have q5_ := (hs_.old 5 (by kernel_rfl) : A_.tmps[5]?.getD undef = .pointer (some ⟨i2, 0, none⟩))
      refine Rn.val fun K_ hK_ => ?_
      go_simp
      exact hK_.out _ (Ext.refl _)
    refine RnL.cons (fun g8 A_ W_ hs_ => ?_) ?_
    · have q81_ := hs_.val 8 rfl rfl rfl
      have cB2_1 := (HB2_8.out.drew.ext hs_.1).cell 1 rfl
      refine Rn.val fun K_ hK_ => ?_
      go_simp
      exact hK_.out _ (Ext.refl _)
    refine RnL.cons (fun g8 A_ W_ hs_ => ?_) ?_
    · have q6_ := (hs_.old 6 (by kernel_rfl) : A_.tmps[6]?.getD undef = .pointer (some ⟨i3, 0, none⟩))
      refine Rn.val fun K_ hK_ => ?_
      go_simp
      exact hK_.out _ (Ext.refl _)
    refine RnL.cons (fun g8 A_ W_ hs_ => ?_) ?_
    · have q83_ := hs_.val 10 rfl rfl rfl
      have cB3_1 := (HB3_8.out.drew.ext hs_.1).cell 1 rfl
      refine Rn.val fun K_ hK_ => ?_
      go_simp
      exact hK_.out _ (Ext.refl _)
    refine RnL.cons (fun g8 A_ W_ hs_ => ?_) ?_
    · have q82_ := hs_.val 9 rfl rfl rfl
      have q84_ := hs_.val 11 rfl rfl rfl
      refine Rn.val fun K_ hK_ => ?_
      go_simp
      refine (rsub_x a b L _ (HG.out.ext (HX8.out.drew.trans hs_.1)) HLE.out Ha.out Hb.out).mono ?_; rintro e W9_ ⟨rfl, e9_⟩; exact hK_.out _ e9_
    refine RnL.cons (fun g8 A_ W_ hs_ => ?_) ?_
    · have q6_ := (hs_.old 6 (by kernel_rfl) : A_.tmps[6]?.getD undef = .pointer (some ⟨i3, 0, none⟩))
      refine Rn.val fun K_ hK_ => ?_
      go_simp
      exact hK_.out _ (Ext.refl _)
    refine RnL.cons (fun g8 A_ W_ hs_ => ?_) ?_
    · have q86_ := hs_.val 13 rfl rfl rfl
      have cB3_0 := (HB3_8.out.drew.ext hs_.1).cell 0 rfl
      refine Rn.val fun K_ hK_ => ?_
      go_simp
      exact hK_.out _ (Ext.refl _)
    refine RnL.cons (fun g8 A_ W_ hs_ => ?_) ?_
    · have q5_ := (hs_.old 5 (by kernel_rfl) : A_.tmps[5]?.getD undef = .pointer (some ⟨i2, 0, none⟩))
      refine Rn.val fun K_ hK_ => ?_
      go_simp
      exact hK_.out _ (Ext.refl _)
    refine RnL.cons (fun g8 A_ W_ hs_ => ?_) ?_
    · have q88_ := hs_.val 15 rfl rfl rfl
      have cB2_0 := (HB2_8.out.drew.ext hs_.1).cell 0 rfl
      refine Rn.val fun K_ hK_ => ?_
      go_simp
      exact hK_.out _ (Ext.refl _)
    refine RnL.cons (fun g8 A_ W_ hs_ => ?_) ?_
    · have q87_ := hs_.val 14 rfl rfl rfl
      have q89_ := hs_.val 16 rfl rfl rfl
      refine Rn.val fun K_ hK_ => ?_
      go_simp
      refine (rsub_y a b L _ (HG.out.ext (HX8.out.drew.trans hs_.1)) HLE.out Ha.out Hb.out).mono ?_; rintro e W9_ ⟨rfl, e9_⟩; exact hK_.out _ e9_
    refine RnL.cons (fun g8 A_ W_ hs_ => ?_) ?_
    · have q5_ := (hs_.old 5 (by kernel_rfl) : A_.tmps[5]?.getD undef = .pointer (some ⟨i2, 0, none⟩))
      refine Rn.val fun K_ hK_ => ?_
      go_simp
      exact hK_.out _ (Ext.refl _)
    refine RnL.cons (fun g8 A_ W_ hs_ => ?_) ?_
    · have q91_ := hs_.val 18 rfl rfl rfl
      have cB2_1 := (HB2_8.out.drew.ext hs_.1).cell 1 rfl
      refine Rn.val fun K_ hK_ => ?_
      go_simp
      exact hK_.out _ (Ext.refl _)
    refine RnL.cons (fun g8 A_ W_ hs_ => ?_) ?_
    · have q6_ := (hs_.old 6 (by kernel_rfl) : A_.tmps[6]?.getD undef = .pointer (some ⟨i3, 0, none⟩))
      refine Rn.val fun K_ hK_ => ?_
      go_simp
      exact hK_.out _ (Ext.refl _)
    refine RnL.cons (fun g8 A_ W_ hs_ => ?_) ?_
    · have q93_ := hs_.val 20 rfl rfl rfl
      have cB3_1 := (HB3_8.out.drew.ext hs_.1).cell 1 rfl
      refine Rn.val fun K_ hK_ => ?_
      go_simp
      exact hK_.out _ (Ext.refl _)
    refine RnL.cons (fun g8 A_ W_ hs_ => ?_) ?_
    · have q92_ := hs_.val 19 rfl rfl rfl
      have q94_ := hs_.val 21 rfl rfl rfl
      refine Rn.val fun K_ hK_ => ?_
      go_simp
      refine (rsub_x a b L _ (HG.out.ext (HX8.out.drew.trans hs_.1)) HLE.out Ha.out Hb.out).mono ?_; rintro e W9_ ⟨rfl, e9_⟩; exact hK_.out _ e9_
    refine RnL.cons (fun g8 A_ W_ hs_ => ?_) ?_
    · have q6_ := (hs_.old 6 (by kernel_rfl) : A_.tmps[6]?.getD undef = .pointer (some ⟨i3, 0, none⟩))
      refine Rn.val fun K_ hK_ => ?_
      go_simp
      exact hK_.out _ (Ext.refl _)
    refine RnL.cons (fun g8 A_ W_ hs_ => ?_) ?_
    · have q96_ := hs_.val 23 rfl rfl rfl
      have cB3_0 := (HB3_8.out.drew.ext hs_.1).cell 0 rfl
      refine Rn.val fun K_ hK_ => ?_
      go_simp
      exact hK_.out _ (Ext.refl _)
    refine RnL.cons (fun g8 A_ W_ hs_ => ?_) ?_
    · have q5_ := (hs_.old 5 (by kernel_rfl) : A_.tmps[5]?.getD undef = .pointer (some ⟨i2, 0, none⟩))
      refine Rn.val fun K_ hK_ => ?_
      go_simp
      exact hK_.out _ (Ext.refl _)
    refine RnL.cons (fun g8 A_ W_ hs_ => ?_) ?_
    · have q98_ := hs_.val 25 rfl rfl rfl
      have cB2_0 := (HB2_8.out.drew.ext hs_.1).cell 0 rfl
      refine Rn.val fun K_ hK_ => ?_
      go_simp
      exact hK_.out _ (Ext.refl _)
    refine RnL.cons (fun g8 A_ W_ hs_ => ?_) ?_
    · have q97_ := hs_.val 24 rfl rfl rfl
      have q99_ := hs_.val 26 rfl rfl rfl
      refine Rn.val fun K_ hK_ => ?_
      go_simp
      refine (rsub_y a b L _ (HG.out.ext (HX8.out.drew.trans hs_.1)) HLE.out Ha.out Hb.out).mono ?_; rintro e W9_ ⟨rfl, e9_⟩; exact hK_.out _ e9_
    refine RnL.cons (fun g8 A_ W_ hs_ => ?_) ?_
    · have q5_ := (hs_.old 5 (by kernel_rfl) : A_.tmps[5]?.getD undef = .pointer (some ⟨i2, 0, none⟩))
      have cB2_0 := (HB2_8.out.drew.ext hs_.1).cell 0 rfl
      have cB2_1 := (HB2_8.out.drew.ext hs_.1).cell 1 rfl
      refine Rn.val fun K_ hK_ => ?_
      go_simp
      exact hK_.out _ (Ext.refl _)
    refine RnL.cons (fun g8 A_ W_ hs_ => ?_) ?_
    · have q95_ := hs_.val 22 rfl rfl rfl
      have q100_ := hs_.val 27 rfl rfl rfl
      have q101_ := hs_.val 28 rfl rfl rfl
      refine Rn.val fun K_ hK_ => ?_
      go_simp
      refine (val_z a b L _ (HG.out.ext (HX8.out.drew.trans hs_.1)) HLE.out Ha.out HL.out).mono ?_; rintro e W9_ ⟨rfl, e9_⟩; exact hK_.out _ e9_
    refine RnL.cons (fun g8 A_ W_ hs_ => ?_) ?_
    · have q85_ := hs_.val 12 rfl rfl rfl
      have q90_ := hs_.val 17 rfl rfl rfl
      have q102_ := hs_.val 29 rfl rfl rfl
      refine Rn.val fun K_ hK_ => ?_
      go_simp
      exact hK_.out _ (Ext.refl _)
    refine RnL.cons (fun g8 A_ W_ hs_ => ?_) ?_
    · have q80_ := hs_.val 7 rfl rfl rfl
      have q103_ := hs_.val 30 rfl rfl rfl
      refine Rn.val fun K_ hK_ => ?_
      go_simp
      exact hK_.out _ (Ext.refl _)
    refine RnL.cons (fun g8 A_ W_ hs_ => ?_) ?_
    · have q79_ := hs_.val 6 rfl rfl rfl
      have q104_ := hs_.val 31 rfl rfl rfl
      refine Rn.val fun K_ hK_ => ?_
      go_simp
      exact hK_.out _ (Ext.refl _)
    exact RnL.nil
  simp only [fs, Kd.value, puts, Act.put, List.setIfInBounds_toArray, List.set_cons_zero, List.set_cons_succ]
  have HX9 : Hid (Ext w w9) := Lib.hid (HX8.out.drew.trans hx_)
  have HB4_9 := Lib.hid (HB4_8.out.drew.ext hx_)
  have HB5_9 := Lib.hid (HB5_8.out.drew.ext hx_)
  have HB6_9 := Lib.hid (HB6_8.out.drew.ext hx_)
  have HB7_9 := Lib.hid (HB7_8.out.drew.ext hx_)
  clear hx_ hm_ hne_
  have c6_0 := HB6_9.out.cell 0 rfl
  have c6_1 := HB6_9.out.cell 1 rfl
  have c6_2 := HB6_9.out.cell 2 rfl
  have c7_0 := HB7_9.out.cell 0 rfl
  have c7_1 := HB7_9.out.cell 1 rfl
  have c7_2 := HB7_9.out.cell 2 rfl
  go_wp2_with fail
  refine (HMT.out _ (HG.out.ext HX9.out)).mono ?_; rintro e w10 ⟨rfl, e10⟩
  have HX10 : Hid (Ext w w10) := Lib.hid (HX9.out.trans e10)
  have HB4_10 := Lib.hid (Blk.ext HB4_9.out e10)
  have HB5_10 := Lib.hid (Blk.ext HB5_9.out e10)
  have HB6_10 := Lib.hid (Blk.ext HB6_9.out e10)
  have HB7_10 := Lib.hid (Blk.ext HB7_9.out e10)
  clear e10 c6_0 c6_1 c6_2 c7_0 c7_1 c7_2
  go_wp2_with fail
  refine wp_name (fun W => Ext w W ∧ Blk W (i4) #[.string (qs c.x), .string (qs c.y)] 62 ∧ Blk W (i5) #[.string (qs d.x), .string (qs d.y)] 62 ∧ Blk W (w4.heap.size) #[.string (qs L.x), .string (qs L.y), .string (qs L.z)] 73 ∧ Blk W (w6.heap.size) #[.string (qs M.x), .string (qs M.y), .string (qs M.z)] 73 ∧ Blk W (w10.heap.size) #[.string px, .string py] 62) ⟨(HX10.out.alloc _), (HB4_10.out.alloc _), (HB5_10.out.alloc _), (HB6_10.out.alloc _), (HB7_10.out.alloc _), (Blk.new' (w := _) (cs := #[.string px, .string py]) (t := 62) (by first | rfl | (simp only [World.size_alloc]; done) | (simp only [World.size_alloc]; omega) | simp))⟩ ?_
  rintro w11 ⟨e11, bB4_11, bB5_11, bB6_11, bB7_11, bB8_11⟩
  have HX11 := Lib.hid e11; have HB4_11 := Lib.hid bB4_11; have HB5_11 := Lib.hid bB5_11; have HB6_11 := Lib.hid bB6_11; have HB7_11 := Lib.hid bB7_11; have HB8_11 := Lib.hid bB8_11
  have HGEB8 : Hid (w.heap.size ≤ w10.heap.size) := Lib.hid (by have := HX10.out.size; first | omega | (simp only []; omega) | (simp; omega))
  clear e11 bB4_11 bB5_11 bB6_11 bB7_11 bB8_11
  refine region_lin [.val (.pointer (some ⟨w4.heap.size, 0, none⟩)), .val (.string (qs L.x)), .val (.pointer (some ⟨w6.heap.size, 1, none⟩)), .val (.string (qs M.y)), .val (.string m1), .val (.pointer (some ⟨w4.heap.size, 1, none⟩)), .val (.string (qs L.y)), .val (.pointer (some ⟨w6.heap.size, 0, none⟩)), .val (.string (qs M.x)), .val (.string m2), .val (.bool (!F)), .val (.bool (!F))] (by kernel_rfl) (by kernel_rfl) (by kernel_rfl) ?_ (fun g11 w12 hx_ hm_ hne_ => ?_)
  · skip
    refine RnL.cons (fun g11 A_ W_ hs_ => ?_) ?_
    · have q9_ := (hs_.old 9 (by kernel_rfl) : A_.tmps[9]?.getD undef = .pointer (some ⟨w4.heap.size, 0, none⟩))
      refine Rn.val fun K_ hK_ => ?_
      go_simp
      exact hK_.out _ (Ext.refl _)
    refine RnL.cons (fun g11 A_ W_ hs_ => ?_) ?_
    · have q113_ := hs_.val 0 rfl rfl rfl
      have cB6_0 := (HB6_11.out.drew.ext hs_.1).cell 0 rfl
      refine Rn.val fun K_ hK_ => ?_
      go_simp
      exact hK_.out _ (Ext.refl _)
    refine RnL.cons (fun g11 A_ W_ hs_ => ?_) ?_
    · have q11_ := (hs_.old 11 (by kernel_rfl) : A_.tmps[11]?.getD undef = .pointer (some ⟨w6.heap.size, 0, none⟩))
      refine Rn.val fun K_ hK_ => ?_
      go_simp
      exact hK_.out _ (Ext.refl _)
    refine RnL.cons (fun g11 A_ W_ hs_ => ?_) ?_
    · have q115_ := hs_.val 2 rfl rfl rfl
      have cB7_1 := (HB7_11.out.drew.ext hs_.1).cell 1 rfl
      refine Rn.val fun K_ hK_ => ?_
      go_simp
      exact hK_.out _ (Ext.refl _)
    refine RnL.cons (fun g11 A_ W_ hs_ => ?_) ?_
    · have q114_ := hs_.val 1 rfl rfl rfl
      have q116_ := hs_.val 3 rfl rfl rfl
      refine Rn.val fun K_ hK_ => ?_
      go_simp
      refine (mul_m L.x M.y m1 _ (HG.out.ext (HX11.out.drew.trans hs_.1)) HM1.out HL.out.x HM.out.y).mono ?_; rintro e W9_ ⟨rfl, e9_⟩; exact hK_.out _ e9_
    refine RnL.cons (fun g11 A_ W_ hs_ => ?_) ?_
    · have q9_ := (hs_.old 9 (by kernel_rfl) : A_.tmps[9]?.getD undef = .pointer (some ⟨w4.heap.size, 0, none⟩))
      refine Rn.val fun K_ hK_ => ?_
      go_simp
      exact hK_.out _ (Ext.refl _)
    refine RnL.cons (fun g11 A_ W_ hs_ => ?_) ?_
    · have q118_ := hs_.val 5 rfl rfl rfl
      have cB6_1 := (HB6_11.out.drew.ext hs_.1).cell 1 rfl
      refine Rn.val fun K_ hK_ => ?_
      go_simp
      exact hK_.out _ (Ext.refl _)
    refine RnL.cons (fun g11 A_ W_ hs_ => ?_) ?_
    · have q11_ := (hs_.old 11 (by kernel_rfl) : A_.tmps[11]?.getD undef = .pointer (some ⟨w6.heap.size, 0, none⟩))
      refine Rn.val fun K_ hK_ => ?_
      go_simp
      exact hK_.out _ (Ext.refl _)
    refine RnL.cons (fun g11 A_ W_ hs_ => ?_) ?_
    · have q120_ := hs_.val 7 rfl rfl rfl
      have cB7_0 := (HB7_11.out.drew.ext hs_.1).cell 0 rfl
      refine Rn.val fun K_ hK_ => ?_
      go_simp
      exact hK_.out _ (Ext.refl _)
    refine RnL.cons (fun g11 A_ W_ hs_ => ?_) ?_
    · have q119_ := hs_.val 6 rfl rfl rfl
      have q121_ := hs_.val 8 rfl rfl rfl
      refine Rn.val fun K_ hK_ => ?_
      go_simp
      refine (mul_m L.y M.x m2 _ (HG.out.ext (HX11.out.drew.trans hs_.1)) HM2.out HL.out.y HM.out.x).mono ?_; rintro e W9_ ⟨rfl, e9_⟩; exact hK_.out _ e9_
    refine RnL.cons (fun g11 A_ W_ hs_ => ?_) ?_
    · have q117_ := hs_.val 4 rfl rfl rfl
      have q122_ := hs_.val 9 rfl rfl rfl
      refine Rn.val fun K_ hK_ => ?_
      go_simp
      exact hK_.out _ (Ext.refl _)
    refine RnL.cons (fun g11 A_ W_ hs_ => ?_) ?_
    · have q123_ := hs_.val 10 rfl rfl rfl
      refine Rn.val fun K_ hK_ => ?_
      go_simp
      exact hK_.out _ (Ext.refl _)
    exact RnL.nil
  simp only [fs, Kd.value, puts, Act.put, List.setIfInBounds_toArray, List.set_cons_zero, List.set_cons_succ]
  have HX12 : Hid (Ext w w12) := Lib.hid (HX11.out.drew.trans hx_)
  have HB4_12 := Lib.hid (HB4_11.out.drew.ext hx_)
  have HB5_12 := Lib.hid (HB5_11.out.drew.ext hx_)
  have HB6_12 := Lib.hid (HB6_11.out.drew.ext hx_)
  have HB7_12 := Lib.hid (HB7_11.out.drew.ext hx_)
  have HB8_12 := Lib.hid (HB8_11.out.drew.ext hx_)
  clear hx_ hm_ hne_
  go_upto_region 12 with fail
  go_cut [155] from 124 to 155 (fun s_ wx => s_ = .bool false ∧ Ext w wx ∧ Blk wx (i4) #[.string (qs c.x), .string (qs c.y)] 62 ∧ Blk wx (i5) #[.string (qs d.x), .string (qs d.y)] 62 ∧ Blk wx (w4.heap.size) #[.string (qs L.x), .string (qs L.y), .string (qs L.z)] 73 ∧ Blk wx (w10.heap.size) #[.string px, .string py] 62)
  case first =>
    rcases HF.out with ⟨rfl, P, rfl, rfl, hP, hPO⟩ | ⟨rfl, rfl, rfl⟩
    · have HP := Lib.hid hP; have HPO := Lib.hid hPO; clear hP hPO
      have c6_0 := HB6_12.out.cell 0 rfl
      have c6_1 := HB6_12.out.cell 1 rfl
      have c6_2 := HB6_12.out.cell 2 rfl
      have c8_0 := HB8_12.out.cell 0 rfl
      have c8_1 := HB8_12.out.cell 1 rfl
      go_wp2_with fail
      refine (val_0 L P _ (HG.out.ext HX12.out) HPO.out.1 HL.out HP.out (by decide) (by decide)).mono ?_; rintro e w13 ⟨rfl, e13⟩
      have HX13 : Hid (Ext w w13) := Lib.hid (HX12.out.trans e13)
      have HB4_13 := Lib.hid (Blk.ext HB4_12.out e13)
      have HB5_13 := Lib.hid (Blk.ext HB5_12.out e13)
      have HB6_13 := Lib.hid (Blk.ext HB6_12.out e13)
      have HB7_13 := Lib.hid (Blk.ext HB7_12.out e13)
      have HB8_13 := Lib.hid (Blk.ext HB8_12.out e13)
      clear e13 c6_0 c6_1 c6_2 c8_0 c8_1
      have c7_0 := HB7_13.out.cell 0 rfl
      have c7_1 := HB7_13.out.cell 1 rfl
      have c7_2 := HB7_13.out.cell 2 rfl
      have c8_0 := HB8_13.out.cell 0 rfl
      have c8_1 := HB8_13.out.cell 1 rfl
      go_wp2_with fail
      refine (val_0 M P _ (HG.out.ext HX13.out) HPO.out.2 HM.out HP.out (by decide) (by decide)).mono ?_; rintro e w14 ⟨rfl, e14⟩
      have HX14 : Hid (Ext w w14) := Lib.hid (HX13.out.trans e14)
      have HB4_14 := Lib.hid (Blk.ext HB4_13.out e14)
      have HB5_14 := Lib.hid (Blk.ext HB5_13.out e14)
      have HB6_14 := Lib.hid (Blk.ext HB6_13.out e14)
      have HB8_14 := Lib.hid (Blk.ext HB8_13.out e14)
      clear e14 c7_0 c7_1 c7_2 c8_0 c8_1
      go_wp2_with fail
      go_meet
      exact ⟨rfl, HX14.out, HB4_14.out, HB5_14.out, HB6_14.out, HB8_14.out⟩
    · skip
      go_wp2_with fail
      go_meet
      exact ⟨rfl, HX12.out, HB4_12.out, HB5_12.out, HB6_12.out, HB8_12.out⟩
  obtain ⟨rfl, e13, bB4_13, bB5_13, bB6_13, bB8_13⟩ := hcut
  rename World => w13
  have HX13 := Lib.hid e13; have HB4_13 := Lib.hid bB4_13; have HB5_13 := Lib.hid bB5_13; have HB6_13 := Lib.hid bB6_13; have HB8_13 := Lib.hid bB8_13
  clear e13 bB4_13 bB5_13 bB6_13 bB8_13
  have c6_0 := HB6_13.out.cell 0 rfl
  have c6_1 := HB6_13.out.cell 1 rfl
  have c6_2 := HB6_13.out.cell 2 rfl
  have c4_0 := HB4_13.out.cell 0 rfl
  have c4_1 := HB4_13.out.cell 1 rfl
  have c5_0 := HB5_13.out.cell 0 rfl
  have c5_1 := HB5_13.out.cell 1 rfl
  go_wp2_with fail
  refine (lcut_n L c d _ (HG.out.ext HX13.out) HL.out Hc.out Hd.out HLZ.out (by rw [HUE.out, HVE.out]; exact HCT.out.1) (by rw [HUE.out, HVE.out]; exact HCT.out.2)).mono ?_; rintro e w14 ⟨rfl, e14⟩
  have HX14 : Hid (Ext w w14) := Lib.hid (HX13.out.trans e14)
  have HB4_14 := Lib.hid (Blk.ext HB4_13.out e14)
  have HB5_14 := Lib.hid (Blk.ext HB5_13.out e14)
  have HB6_14 := Lib.hid (Blk.ext HB6_13.out e14)
  have HB8_14 := Lib.hid (Blk.ext HB8_13.out e14)
  clear e14 c6_0 c6_1 c6_2 c4_0 c4_1 c5_0 c5_1
  go_wp2_with fail
  refine wp_name (fun W => Ext w W ∧ Blk W (i4) #[.string (qs c.x), .string (qs c.y)] 62 ∧ Blk W (i5) #[.string (qs d.x), .string (qs d.y)] 62 ∧ Blk W (w4.heap.size) #[.string (qs L.x), .string (qs L.y), .string (qs L.z)] 73 ∧ Blk W (w10.heap.size) #[.string px, .string py] 62) ⟨HX14.out, HB4_14.out, HB5_14.out, HB6_14.out, HB8_14.out⟩ ?_
  rintro w15 ⟨e15, bB4_15, bB5_15, bB6_15, bB8_15⟩
  have HX15 := Lib.hid e15; have HB4_15 := Lib.hid bB4_15; have HB5_15 := Lib.hid bB5_15; have HB6_15 := Lib.hid bB6_15; have HB8_15 := Lib.hid bB8_15
  clear e15 bB4_15 bB5_15 bB6_15 bB8_15
  refine region_lin [.val (.pointer (some ⟨w4.heap.size, 0, none⟩)), .val (.string (qs L.x)), .val (.pointer (some ⟨w4.heap.size, 1, none⟩)), .val (.string (qs L.y)), .val (.pointer (some ⟨w4.heap.size, 2, none⟩)), .val (.string (qs L.z)), .val (.agg #[.string (qs c.x), .string (qs c.y)]), .val (.string (qs U)), .val (.pointer (some ⟨w4.heap.size, 0, none⟩)), .val (.string (qs L.x)), .val (.pointer (some ⟨w4.heap.size, 1, none⟩)), .val (.string (qs L.y)), .val (.pointer (some ⟨w4.heap.size, 2, none⟩)), .val (.string (qs L.z)), .val (.agg #[.string (qs d.x), .string (qs d.y)]), .val (.string (qs V)), .val (.string (qs U)), .val (.string (qs V))] (by kernel_rfl) (by kernel_rfl) (by kernel_rfl) ?_ (fun g15 w16 hx_ hm_ hne_ => ?_)
  · skip
    refine RnL.cons (fun g15 A_ W_ hs_ => ?_) ?_
    · have q9_ := (hs_.old 9 (by kernel_rfl) : A_.tmps[9]?.getD undef = .pointer (some ⟨w4.heap.size, 0, none⟩))
      refine Rn.val fun K_ hK_ => ?_
      go_simp
      exact hK_.out _ (Ext.refl _)
    refine RnL.cons (fun g15 A_ W_ hs_ => ?_) ?_
    · have q164_ := hs_.val 0 rfl rfl rfl
      have cB6_0 := (HB6_15.out.drew.ext hs_.1).cell 0 rfl
      refine Rn.val fun K_ hK_ => ?_
      go_simp
      exact hK_.out _ (Ext.refl _)
    refine RnL.cons (fun g15 A_ W_ hs_ => ?_) ?_
    · have q9_ := (hs_.old 9 (by kernel_rfl) : A_.tmps[9]?.getD undef = .pointer (some ⟨w4.heap.size, 0, none⟩))
      refine Rn.val fun K_ hK_ => ?_
      go_simp
      exact hK_.out _ (Ext.refl _)
    refine RnL.cons (fun g15 A_ W_ hs_ => ?_) ?_
    · have q166_ := hs_.val 2 rfl rfl rfl
      have cB6_1 := (HB6_15.out.drew.ext hs_.1).cell 1 rfl
      refine Rn.val fun K_ hK_ => ?_
      go_simp
      exact hK_.out _ (Ext.refl _)
    refine RnL.cons (fun g15 A_ W_ hs_ => ?_) ?_
    · have q9_ := (hs_.old 9 (by kernel_rfl) : A_.tmps[9]?.getD undef = .pointer (some ⟨w4.heap.size, 0, none⟩))
      refine Rn.val fun K_ hK_ => ?_
      go_simp
      exact hK_.out _ (Ext.refl _)
    refine RnL.cons (fun g15 A_ W_ hs_ => ?_) ?_
    · have q168_ := hs_.val 4 rfl rfl rfl
      have cB6_2 := (HB6_15.out.drew.ext hs_.1).cell 2 rfl
      refine Rn.val fun K_ hK_ => ?_
      go_simp
      exact hK_.out _ (Ext.refl _)
    refine RnL.cons (fun g15 A_ W_ hs_ => ?_) ?_
    · have q7_ := (hs_.old 7 (by kernel_rfl) : A_.tmps[7]?.getD undef = .pointer (some ⟨i4, 0, none⟩))
      have cB4_0 := (HB4_15.out.drew.ext hs_.1).cell 0 rfl
      have cB4_1 := (HB4_15.out.drew.ext hs_.1).cell 1 rfl
      refine Rn.val fun K_ hK_ => ?_
      go_simp
      exact hK_.out _ (Ext.refl _)
    refine RnL.cons (fun g15 A_ W_ hs_ => ?_) ?_
    · have q165_ := hs_.val 1 rfl rfl rfl
      have q167_ := hs_.val 3 rfl rfl rfl
      have q169_ := hs_.val 5 rfl rfl rfl
      have q170_ := hs_.val 6 rfl rfl rfl
      refine Rn.val fun K_ hK_ => ?_
      go_simp
      refine (val_u L c U _ (HG.out.ext (HX15.out.drew.trans hs_.1)) HUE.out HL.out Hc.out (by decide) (by decide)).mono ?_; rintro e W9_ ⟨rfl, e9_⟩; exact hK_.out _ e9_
    refine RnL.cons (fun g15 A_ W_ hs_ => ?_) ?_
    · have q9_ := (hs_.old 9 (by kernel_rfl) : A_.tmps[9]?.getD undef = .pointer (some ⟨w4.heap.size, 0, none⟩))
      refine Rn.val fun K_ hK_ => ?_
      go_simp
      exact hK_.out _ (Ext.refl _)
    refine RnL.cons (fun g15 A_ W_ hs_ => ?_) ?_
    · have q172_ := hs_.val 8 rfl rfl rfl
      have cB6_0 := (HB6_15.out.drew.ext hs_.1).cell 0 rfl
      refine Rn.val fun K_ hK_ => ?_
      go_simp
      exact hK_.out _ (Ext.refl _)
    refine RnL.cons (fun g15 A_ W_ hs_ => ?_) ?_
    · have q9_ := (hs_.old 9 (by kernel_rfl) : A_.tmps[9]?.getD undef = .pointer (some ⟨w4.heap.size, 0, none⟩))
      refine Rn.val fun K_ hK_ => ?_
      go_simp
      exact hK_.out _ (Ext.refl _)
    refine RnL.cons (fun g15 A_ W_ hs_ => ?_) ?_
    · have q174_ := hs_.val 10 rfl rfl rfl
      have cB6_1 := (HB6_15.out.drew.ext hs_.1).cell 1 rfl
      refine Rn.val fun K_ hK_ => ?_
      go_simp
      exact hK_.out _ (Ext.refl _)
    refine RnL.cons (fun g15 A_ W_ hs_ => ?_) ?_
    · have q9_ := (hs_.old 9 (by kernel_rfl) : A_.tmps[9]?.getD undef = .pointer (some ⟨w4.heap.size, 0, none⟩))
      refine Rn.val fun K_ hK_ => ?_
      go_simp
      exact hK_.out _ (Ext.refl _)
    refine RnL.cons (fun g15 A_ W_ hs_ => ?_) ?_
    · have q176_ := hs_.val 12 rfl rfl rfl
      have cB6_2 := (HB6_15.out.drew.ext hs_.1).cell 2 rfl
      refine Rn.val fun K_ hK_ => ?_
      go_simp
      exact hK_.out _ (Ext.refl _)
    refine RnL.cons (fun g15 A_ W_ hs_ => ?_) ?_
    · have q8_ := (hs_.old 8 (by kernel_rfl) : A_.tmps[8]?.getD undef = .pointer (some ⟨i5, 0, none⟩))
      have cB5_0 := (HB5_15.out.drew.ext hs_.1).cell 0 rfl
      have cB5_1 := (HB5_15.out.drew.ext hs_.1).cell 1 rfl
      refine Rn.val fun K_ hK_ => ?_
      go_simp
      exact hK_.out _ (Ext.refl _)
    refine RnL.cons (fun g15 A_ W_ hs_ => ?_) ?_
    · have q173_ := hs_.val 9 rfl rfl rfl
      have q175_ := hs_.val 11 rfl rfl rfl
      have q177_ := hs_.val 13 rfl rfl rfl
      have q178_ := hs_.val 14 rfl rfl rfl
      refine Rn.val fun K_ hK_ => ?_
      go_simp
      refine (val_u L d V _ (HG.out.ext (HX15.out.drew.trans hs_.1)) HVE.out HL.out Hd.out (by decide) (by decide)).mono ?_; rintro e W9_ ⟨rfl, e9_⟩; exact hK_.out _ e9_
    refine RnL.cons (fun g15 A_ W_ hs_ => ?_) ?_
    · have q171_ := hs_.val 7 rfl rfl rfl
      refine Rn.val fun K_ hK_ => ?_
      go_simp
      exact hK_.out _ (Ext.refl _)
    refine RnL.cons (fun g15 A_ W_ hs_ => ?_) ?_
    · have q179_ := hs_.val 15 rfl rfl rfl
      refine Rn.val fun K_ hK_ => ?_
      go_simp
      exact hK_.out _ (Ext.refl _)
    exact RnL.nil
  simp only [fs, Kd.value, puts, Act.put, List.setIfInBounds_toArray, List.set_cons_zero, List.set_cons_succ]
  have HX16 : Hid (Ext w w16) := Lib.hid (HX15.out.drew.trans hx_)
  have HB8_16 := Lib.hid (HB8_15.out.drew.ext hx_)
  clear hx_ hm_ hne_
  go_wp2_with fail
  refine (fqsign_c U _).mono ?_; rintro e _ ⟨rfl, rfl⟩
  go_wp2_with fail
  refine (fqsign_c V _).mono ?_; rintro e _ ⟨rfl, rfl⟩
  rcases HF.out with ⟨rfl, P, rfl, rfl, hP, hPO⟩ | ⟨rfl, rfl, rfl⟩
  · have HP := Lib.hid hP; have HPO := Lib.hid hPO; clear hP hPO
    go_wp2_with fail
    refine wp_name (fun W => Ext w W ∧ Blk W (w10.heap.size) #[.string (qs P.x), .string (qs P.y)] 62) ⟨HX16.out, HB8_16.out⟩ ?_
    rintro w17 ⟨e17, bB8_17⟩
    have HX17 := Lib.hid e17; have HB8_17 := Lib.hid bB8_17
    clear e17 bB8_17
    refine region_lin [.val (.bool false), .val (.bool true), .val (.bool true), .val (.string ⟨#[]⟩), .val (.bool true), .val (.bool true), .val (.bool true), .val (.bool true), .val (.bool true), .off, .off, .off, .val (.bool true), .val (.bool true), .val (.bool true), .off, .off, .off, .off, .off, .off, .off, .off, .off, .off, .off, .off, .off, .off, .off, .off, .off, .off, .off, .val (.bool true), .val (.bool true)] (by kernel_rfl) (by kernel_rfl) (by kernel_rfl) ?_ (fun g17 w18 hx_ hm_ hne_ => ?_)
    · skip
      refine RnL.cons (fun g17 A_ W_ hs_ => ?_) ?_
      · have q18_ := (hs_.old 18 (by kernel_rfl) : A_.tmps[18]?.getD undef = .bool false)
        refine Rn.val fun K_ hK_ => ?_
        go_simp
        exact hK_.out _ (Ext.refl _)
      refine RnL.cons (fun g17 A_ W_ hs_ => ?_) ?_
      · have q202_ := hs_.val 0 rfl rfl rfl
        refine Rn.val fun K_ hK_ => ?_
        go_simp
        exact hK_.out _ (Ext.refl _)
      refine RnL.cons (fun g17 A_ W_ hs_ => ?_) ?_
      · have q203_ := hs_.val 1 rfl rfl rfl
        refine Rn.val fun K_ hK_ => ?_
        go_simp
        exact hK_.out _ (Ext.refl _)
      refine RnL.cons (fun g17 A_ W_ hs_ => ?_) ?_
      · have q17_ := (hs_.old 17 (by kernel_rfl) : A_.tmps[17]?.getD undef = .string ⟨#[]⟩)
        refine Rn.val fun K_ hK_ => ?_
        go_simp
        exact hK_.out _ (Ext.refl _)
      refine RnL.cons (fun g17 A_ W_ hs_ => ?_) ?_
      · have q205_ := hs_.val 3 rfl rfl rfl
        refine Rn.val fun K_ hK_ => ?_
        go_simp
        exact hK_.out _ (Ext.refl _)
      refine RnL.cons (fun g17 A_ W_ hs_ => ?_) ?_
      · have q204_ := hs_.val 2 rfl rfl rfl
        have q206_ := hs_.val 4 rfl rfl rfl
        refine Rn.val fun K_ hK_ => ?_
        go_simp
        exact hK_.out _ (Ext.refl _)
      refine RnL.cons (fun g17 A_ W_ hs_ => ?_) ?_
      · have q207_ := hs_.val 5 rfl rfl rfl
        refine Rn.val fun K_ hK_ => ?_
        go_simp
        exact hK_.out _ (Ext.refl _)
      refine RnL.cons (fun g17 A_ W_ hs_ => ?_) ?_
      · have q14_ := (hs_.old 14 (by kernel_rfl) : A_.tmps[14]?.getD undef = .bool true)
        refine Rn.val fun K_ hK_ => ?_
        go_simp
        exact hK_.out _ (Ext.refl _)
      refine RnL.cons (fun g17 A_ W_ hs_ => ?_) ?_
      · have q209_ := hs_.val 7 rfl rfl rfl
        refine Rn.val fun K_ hK_ => ?_
        go_simp
        exact hK_.out _ (Ext.refl _)
      refine RnL.cons (fun g17 A_ W_ hs_ => ?_) ?_
      · exact Rn.off
      refine RnL.cons (fun g17 A_ W_ hs_ => ?_) ?_
      · exact Rn.off
      refine RnL.cons (fun g17 A_ W_ hs_ => ?_) ?_
      · exact Rn.off
      refine RnL.cons (fun g17 A_ W_ hs_ => ?_) ?_
      · have q210_ := hs_.val 8 rfl rfl rfl
        have q213_ := hs_.un 11 rfl rfl rfl
        refine Rn.val fun K_ hK_ => ?_
        go_simp
        exact hK_.out _ (Ext.refl _)
      refine RnL.cons (fun g17 A_ W_ hs_ => ?_) ?_
      · have q208_ := hs_.val 6 rfl rfl rfl
        have q214_ := hs_.val 12 rfl rfl rfl
        refine Rn.val fun K_ hK_ => ?_
        go_simp
        exact hK_.out _ (Ext.refl _)
      refine RnL.cons (fun g17 A_ W_ hs_ => ?_) ?_
      · have q215_ := hs_.val 13 rfl rfl rfl
        refine Rn.val fun K_ hK_ => ?_
        go_simp
        exact hK_.out _ (Ext.refl _)
      refine RnL.cons (fun g17 A_ W_ hs_ => ?_) ?_
      · exact Rn.off
      refine RnL.cons (fun g17 A_ W_ hs_ => ?_) ?_
      · exact Rn.off
      refine RnL.cons (fun g17 A_ W_ hs_ => ?_) ?_
      · exact Rn.off
      refine RnL.cons (fun g17 A_ W_ hs_ => ?_) ?_
      · exact Rn.off
      refine RnL.cons (fun g17 A_ W_ hs_ => ?_) ?_
      · exact Rn.off
      refine RnL.cons (fun g17 A_ W_ hs_ => ?_) ?_
      · exact Rn.off
      refine RnL.cons (fun g17 A_ W_ hs_ => ?_) ?_
      · exact Rn.off
      refine RnL.cons (fun g17 A_ W_ hs_ => ?_) ?_
      · exact Rn.off
      refine RnL.cons (fun g17 A_ W_ hs_ => ?_) ?_
      · exact Rn.off
      refine RnL.cons (fun g17 A_ W_ hs_ => ?_) ?_
      · exact Rn.off
      refine RnL.cons (fun g17 A_ W_ hs_ => ?_) ?_
      · exact Rn.off
      refine RnL.cons (fun g17 A_ W_ hs_ => ?_) ?_
      · exact Rn.off
      refine RnL.cons (fun g17 A_ W_ hs_ => ?_) ?_
      · exact Rn.off
      refine RnL.cons (fun g17 A_ W_ hs_ => ?_) ?_
      · exact Rn.off
      refine RnL.cons (fun g17 A_ W_ hs_ => ?_) ?_
      · exact Rn.off
      refine RnL.cons (fun g17 A_ W_ hs_ => ?_) ?_
      · exact Rn.off
      refine RnL.cons (fun g17 A_ W_ hs_ => ?_) ?_
      · exact Rn.off
      refine RnL.cons (fun g17 A_ W_ hs_ => ?_) ?_
      · exact Rn.off
      refine RnL.cons (fun g17 A_ W_ hs_ => ?_) ?_
      · exact Rn.off
      refine RnL.cons (fun g17 A_ W_ hs_ => ?_) ?_
      · have q216_ := hs_.val 14 rfl rfl rfl
        have q235_ := hs_.un 33 rfl rfl rfl
        refine Rn.val fun K_ hK_ => ?_
        go_simp
        exact hK_.out _ (Ext.refl _)
      refine RnL.cons (fun g17 A_ W_ hs_ => ?_) ?_
      · have q236_ := hs_.val 34 rfl rfl rfl
        refine Rn.val fun K_ hK_ => ?_
        go_simp
        exact hK_.out _ (Ext.refl _)
      exact RnL.nil
    simp only [fs, Kd.value, puts, Act.put, List.setIfInBounds_toArray, List.set_cons_zero, List.set_cons_succ]
    have HX18 : Hid (Ext w w18) := Lib.hid (HX17.out.drew.trans hx_)
    clear hx_ hm_ hne_
    go_wp2
    go_ret
    exact ⟨rfl, HX18.out⟩
  · skip
    go_wp2_with fail
    refine wp_name (fun W => Ext w W ∧ Blk W (w10.heap.size) #[.string ⟨#[]⟩, .string ⟨#[]⟩] 62) ⟨HX16.out, HB8_16.out⟩ ?_
    rintro w17 ⟨e17, bB8_17⟩
    have HX17 := Lib.hid e17; have HB8_17 := Lib.hid bB8_17
    clear e17 bB8_17
    refine region_lin [.val (.bool false), .val (.bool true), .val (.bool true), .val (.string ⟨#[]⟩), .val (.bool true), .val (.bool true), .val (.bool true), .val (.bool false), .val (.bool false), .val (.agg #[.string ⟨#[]⟩, .string ⟨#[]⟩]), .val (.agg #[.string ⟨#[]⟩, .string ⟨#[]⟩]), .val (.bool true), .val (.bool true), .val (.bool true), .val (.bool true), .off, .off, .off, .off, .off, .off, .off, .off, .off, .off, .off, .off, .off, .off, .off, .off, .off, .off, .off, .val (.bool true), .val (.bool true)] (by kernel_rfl) (by kernel_rfl) (by kernel_rfl) ?_ (fun g17 w18 hx_ hm_ hne_ => ?_)
    · skip
      refine RnL.cons (fun g17 A_ W_ hs_ => ?_) ?_
      · have q18_ := (hs_.old 18 (by kernel_rfl) : A_.tmps[18]?.getD undef = .bool false)
        refine Rn.val fun K_ hK_ => ?_
        go_simp
        exact hK_.out _ (Ext.refl _)
      refine RnL.cons (fun g17 A_ W_ hs_ => ?_) ?_
      · have q202_ := hs_.val 0 rfl rfl rfl
        refine Rn.val fun K_ hK_ => ?_
        go_simp
        exact hK_.out _ (Ext.refl _)
      refine RnL.cons (fun g17 A_ W_ hs_ => ?_) ?_
      · have q203_ := hs_.val 1 rfl rfl rfl
        refine Rn.val fun K_ hK_ => ?_
        go_simp
        exact hK_.out _ (Ext.refl _)
      refine RnL.cons (fun g17 A_ W_ hs_ => ?_) ?_
      · have q17_ := (hs_.old 17 (by kernel_rfl) : A_.tmps[17]?.getD undef = .string ⟨#[]⟩)
        refine Rn.val fun K_ hK_ => ?_
        go_simp
        exact hK_.out _ (Ext.refl _)
      refine RnL.cons (fun g17 A_ W_ hs_ => ?_) ?_
      · have q205_ := hs_.val 3 rfl rfl rfl
        refine Rn.val fun K_ hK_ => ?_
        go_simp
        exact hK_.out _ (Ext.refl _)
      refine RnL.cons (fun g17 A_ W_ hs_ => ?_) ?_
      · have q204_ := hs_.val 2 rfl rfl rfl
        have q206_ := hs_.val 4 rfl rfl rfl
        refine Rn.val fun K_ hK_ => ?_
        go_simp
        exact hK_.out _ (Ext.refl _)
      refine RnL.cons (fun g17 A_ W_ hs_ => ?_) ?_
      · have q207_ := hs_.val 5 rfl rfl rfl
        refine Rn.val fun K_ hK_ => ?_
        go_simp
        exact hK_.out _ (Ext.refl _)
      refine RnL.cons (fun g17 A_ W_ hs_ => ?_) ?_
      · have q14_ := (hs_.old 14 (by kernel_rfl) : A_.tmps[14]?.getD undef = .bool false)
        refine Rn.val fun K_ hK_ => ?_
        go_simp
        exact hK_.out _ (Ext.refl _)
      refine RnL.cons (fun g17 A_ W_ hs_ => ?_) ?_
      · have q209_ := hs_.val 7 rfl rfl rfl
        refine Rn.val fun K_ hK_ => ?_
        go_simp
        exact hK_.out _ (Ext.refl _)
      refine RnL.cons (fun g17 A_ W_ hs_ => ?_) ?_
      · have q13_ := (hs_.old 13 (by kernel_rfl) : A_.tmps[13]?.getD undef = .pointer (some ⟨w10.heap.size, 0, none⟩))
        have cB8_0 := (HB8_17.out.drew.ext hs_.1).cell 0 rfl
        have cB8_1 := (HB8_17.out.drew.ext hs_.1).cell 1 rfl
        refine Rn.val fun K_ hK_ => ?_
        go_simp
        exact hK_.out _ (Ext.refl _)
      refine RnL.cons (fun g17 A_ W_ hs_ => ?_) ?_
      · refine Rn.val fun K_ hK_ => ?_
        go_simp
        exact hK_.out _ (Ext.refl _)
      refine RnL.cons (fun g17 A_ W_ hs_ => ?_) ?_
      · have q211_ := hs_.val 9 rfl rfl rfl
        have q212_ := hs_.val 10 rfl rfl rfl
        refine Rn.val fun K_ hK_ => ?_
        go_simp
        exact hK_.out _ (Ext.refl _)
      refine RnL.cons (fun g17 A_ W_ hs_ => ?_) ?_
      · have q210_ := hs_.val 8 rfl rfl rfl
        have q213_ := hs_.val 11 rfl rfl rfl
        refine Rn.val fun K_ hK_ => ?_
        go_simp
        exact hK_.out _ (Ext.refl _)
      refine RnL.cons (fun g17 A_ W_ hs_ => ?_) ?_
      · have q208_ := hs_.val 6 rfl rfl rfl
        have q214_ := hs_.val 12 rfl rfl rfl
        refine Rn.val fun K_ hK_ => ?_
        go_simp
        exact hK_.out _ (Ext.refl _)
      refine RnL.cons (fun g17 A_ W_ hs_ => ?_) ?_
      · have q215_ := hs_.val 13 rfl rfl rfl
        refine Rn.val fun K_ hK_ => ?_
        go_simp
        exact hK_.out _ (Ext.refl _)
      refine RnL.cons (fun g17 A_ W_ hs_ => ?_) ?_
      · exact Rn.off
      refine RnL.cons (fun g17 A_ W_ hs_ => ?_) ?_
      · exact Rn.off
      refine RnL.cons (fun g17 A_ W_ hs_ => ?_) ?_
      · exact Rn.off
      refine RnL.cons (fun g17 A_ W_ hs_ => ?_) ?_
      · exact Rn.off
      refine RnL.cons (fun g17 A_ W_ hs_ => ?_) ?_
      · exact Rn.off
      refine RnL.cons (fun g17 A_ W_ hs_ => ?_) ?_
      · exact Rn.off
      refine RnL.cons (fun g17 A_ W_ hs_ => ?_) ?_
      · exact Rn.off
      refine RnL.cons (fun g17 A_ W_ hs_ => ?_) ?_
      · exact Rn.off
      refine RnL.cons (fun g17 A_ W_ hs_ => ?_) ?_
      · exact Rn.off
      refine RnL.cons (fun g17 A_ W_ hs_ => ?_) ?_
      · exact Rn.off
      refine RnL.cons (fun g17 A_ W_ hs_ => ?_) ?_
      · exact Rn.off
      refine RnL.cons (fun g17 A_ W_ hs_ => ?_) ?_
      · exact Rn.off
      refine RnL.cons (fun g17 A_ W_ hs_ => ?_) ?_
      · exact Rn.off
      refine RnL.cons (fun g17 A_ W_ hs_ => ?_) ?_
      · exact Rn.off
      refine RnL.cons (fun g17 A_ W_ hs_ => ?_) ?_
      · exact Rn.off
      refine RnL.cons (fun g17 A_ W_ hs_ => ?_) ?_
      · exact Rn.off
      refine RnL.cons (fun g17 A_ W_ hs_ => ?_) ?_
      · exact Rn.off
      refine RnL.cons (fun g17 A_ W_ hs_ => ?_) ?_
      · exact Rn.off
      refine RnL.cons (fun g17 A_ W_ hs_ => ?_) ?_
      · exact Rn.off
      refine RnL.cons (fun g17 A_ W_ hs_ => ?_) ?_
      · have q216_ := hs_.val 14 rfl rfl rfl
        have q235_ := hs_.un 33 rfl rfl rfl
        refine Rn.val fun K_ hK_ => ?_
        go_simp
        exact hK_.out _ (Ext.refl _)
      refine RnL.cons (fun g17 A_ W_ hs_ => ?_) ?_
      · have q236_ := hs_.val 34 rfl rfl rfl
        refine Rn.val fun K_ hK_ => ?_
        go_simp
        exact hK_.out _ (Ext.refl _)
      exact RnL.nil
    simp only [fs, Kd.value, puts, Act.put, List.setIfInBounds_toArray, List.set_cons_zero, List.set_cons_succ]
    have HX18 : Hid (Ext w w18) := Lib.hid (HX17.out.drew.trans hx_)
    clear hx_ hm_ hne_
    go_wp2
    go_ret
    exact ⟨rfl, HX18.out⟩

set_option maxRecDepth 100000 in
set_option maxHeartbeats 16000000 in
theorem lines_walk_K0 (p q r s : Pla) (w : World) (g : Gd w) (hp : PlaOk p) (hq : PlaOk q) (hr : PlaOk r) (hs : PlaOk s) (hab : ppt p ≠ ppt q) (hcd : ppt r ≠ ppt s) (hct : lex (lthru (ppt p) (ppt q)) (ppt r) = 0 ∧ lex (lthru (ppt p) (ppt q)) (ppt s) ≠ 0) : Calls Tryz.prog 7 #[.agg #[.int .i16 p.n0, .int .u8 (p.d0 : Int), .int .i16 p.n1, .int .u8 (p.d1 : Int), .int .i16 p.n2, .int .u8 (p.d2 : Int), .int .i16 q.n0, .int .u8 (q.d0 : Int), .int .i16 q.n1, .int .u8 (q.d1 : Int), .int .i16 q.n2, .int .u8 (q.d2 : Int)], .agg #[.int .i16 r.n0, .int .u8 (r.d0 : Int), .int .i16 r.n1, .int .u8 (r.d1 : Int), .int .i16 r.n2, .int .u8 (r.d2 : Int), .int .i16 s.n0, .int .u8 (s.d0 : Int), .int .i16 s.n1, .int .u8 (s.d1 : Int), .int .i16 s.n2, .int .u8 (s.d2 : Int)]] w (Ret w (.bool true)) := by
  have Hp := Lib.hid hp
  have Hq := Lib.hid hq
  have Hr := Lib.hid hr
  have Hs := Lib.hid hs
  have HG := Lib.hid g
  clear hp hq hr hs g
  have HCT0 := Lib.hid hct; clear hct
  have HAB0 := Lib.hid hab; have HCD0 := Lib.hid hcd; clear hab hcd
  obtain ⟨a, ea⟩ : ∃ a, ppt p = a := ⟨_, rfl⟩
  have HaE := Lib.hid ea; have Ha : Hid (PB 5 a) := Lib.hid (ea ▸ Hp.out.p); have HaD : Hid (PD 5 3 a) := Lib.hid (ea ▸ Hp.out.pd); clear ea
  obtain ⟨b, eb⟩ : ∃ b, ppt q = b := ⟨_, rfl⟩
  have HbE := Lib.hid eb; have Hb : Hid (PB 5 b) := Lib.hid (eb ▸ Hq.out.p); have HbD : Hid (PD 5 3 b) := Lib.hid (eb ▸ Hq.out.pd); clear eb
  obtain ⟨c, ec⟩ : ∃ c, ppt r = c := ⟨_, rfl⟩
  have HcE := Lib.hid ec; have Hc : Hid (PB 5 c) := Lib.hid (ec ▸ Hr.out.p); have HcD : Hid (PD 5 3 c) := Lib.hid (ec ▸ Hr.out.pd); clear ec
  obtain ⟨d, ed⟩ : ∃ d, ppt s = d := ⟨_, rfl⟩
  have HdE := Lib.hid ed; have Hd : Hid (PB 5 d) := Lib.hid (ed ▸ Hs.out.p); have HdD : Hid (PD 5 3 d) := Lib.hid (ed ▸ Hs.out.pd); clear ed
  have HAB : Hid (a ≠ b) := Lib.hid (by have h := HAB0.out; rw [HaE.out, HbE.out] at h; exact h)
  have HCD : Hid (c ≠ d) := Lib.hid (by have h := HCD0.out; rw [HcE.out, HdE.out] at h; exact h)
  obtain ⟨L, eL⟩ : ∃ L, lthru a b = L := ⟨_, rfl⟩
  have HLE := Lib.hid eL; have HLD : Hid (LDd L) := Lib.hid (eL ▸ lthru_d HaD.out HbD.out); have HL : Hid (VB 24 L) := Lib.hid HLD.out.vb; have HLZ : Hid (¬ (L.x = 0 ∧ L.y = 0)) := Lib.hid (eL ▸ lthru_ne HAB.out); clear eL
  obtain ⟨M, eM⟩ : ∃ M, lthru c d = M := ⟨_, rfl⟩
  have HME := Lib.hid eM; have HMD : Hid (LDd M) := Lib.hid (eM ▸ lthru_d HcD.out HdD.out); have HM : Hid (VB 24 M) := Lib.hid HMD.out.vb; have HMZ : Hid (¬ (M.x = 0 ∧ M.y = 0)) := Lib.hid (eM ▸ lthru_ne HCD.out); clear eM
  obtain ⟨F, px, py, hF, hpq, hM⟩ := meet_ex L M HLD.out HMD.out HLZ.out HMZ.out
  have HF := Lib.hid hF; have HMT := Lib.hid hM; clear hF hM
  obtain ⟨m1, e1⟩ : ∃ m, qs (L.x * M.y) = m := ⟨_, rfl⟩
  obtain ⟨m2, e2⟩ : ∃ m, qs (L.y * M.x) = m := ⟨_, rfl⟩
  have hm_t : (m1.toList == m2.toList) = !F := by rw [← e1, ← e2]; exact hpq
  have HM1 := Lib.hid e1; have HM2 := Lib.hid e2; clear e1 e2 hpq
  obtain ⟨U, eU⟩ : ∃ U, lex L c = U := ⟨_, rfl⟩
  have HUE := Lib.hid eU; have HUD : Hid (QD 43 36 U) := Lib.hid (eU ▸ lex_d HLD.out HcD.out); have HU : Hid (QB 43 U) := Lib.hid (HUD.out.qb (by decide) (by decide)); clear eU
  obtain ⟨V, eV⟩ : ∃ V, lex L d = V := ⟨_, rfl⟩
  have HVE := Lib.hid eV; have HVD : Hid (QD 43 36 V) := Lib.hid (eV ▸ lex_d HLD.out HdD.out); have HV : Hid (QB 43 V) := Lib.hid (HVD.out.qb (by decide) (by decide)); clear eV
  have HCT : Hid (U = 0 ∧ V ≠ 0) := Lib.hid (by have h := HCT0.out; rw [HaE.out, HbE.out, HcE.out, HdE.out, HLE.out] at h; rw [HUE.out, HVE.out] at h; exact h)
  have HNE : Hid (U ≠ V) := Lib.hid (fun e => HCT.out.2 (e ▸ HCT.out.1))
  have HPL : Hid (U.num.sign * V.num.sign ≤ 0) := Lib.hid (by rw [HCT.out.1]; exact Int.le_of_eq (Int.zero_mul _))
  obtain ⟨K, eK⟩ : ∃ K, U / (U - V) = K := ⟨_, rfl⟩
  have HKE := Lib.hid eK; have HK : Hid (QB 120 K) := Lib.hid (eK ▸ cutk_b HUD.out HVD.out); clear eK
  have HKI := Lib.hid (lcut_in HKE.out HNE.out HPL.out); have HKA := Lib.hid (lcut_at HUE.out HVE.out HKE.out HNE.out)
  have hv := HCT.out.2
  have hv_t := qs_not0 hv
  clear hv
  go_enter Tryz.func7, Tryz.ntmps7
  go_wp2_with fail
  refine (known_c _ (HG.out.ext (((Ext.refl w).alloc _).alloc _))).mono ?_; rintro e w1 ⟨rfl, e1⟩
  have HX1 : Hid (Ext w w1) := Lib.hid ((((Ext.refl w).alloc _).alloc _).trans e1)
  have HB0_1 : Hid (Blk w1 (w.heap.size) #[.int .i16 p.n0, .int .u8 (p.d0 : Int), .int .i16 p.n1, .int .u8 (p.d1 : Int), .int .i16 p.n2, .int .u8 (p.d2 : Int), .int .i16 q.n0, .int .u8 (q.d0 : Int), .int .i16 q.n1, .int .u8 (q.d1 : Int), .int .i16 q.n2, .int .u8 (q.d2 : Int)] 44) := Lib.hid (Blk.ext ((Blk.new' (w := _) (cs := #[.int .i16 p.n0, .int .u8 (p.d0 : Int), .int .i16 p.n1, .int .u8 (p.d1 : Int), .int .i16 p.n2, .int .u8 (p.d2 : Int), .int .i16 q.n0, .int .u8 (q.d0 : Int), .int .i16 q.n1, .int .u8 (q.d1 : Int), .int .i16 q.n2, .int .u8 (q.d2 : Int)]) (t := 44) (by first | rfl | (simp only [World.size_alloc]; done) | (simp only [World.size_alloc]; omega) | simp)).alloc _) e1)
  have HB1_1 : Hid (Blk w1 (w.heap.size + 1) #[.int .i16 r.n0, .int .u8 (r.d0 : Int), .int .i16 r.n1, .int .u8 (r.d1 : Int), .int .i16 r.n2, .int .u8 (r.d2 : Int), .int .i16 s.n0, .int .u8 (s.d0 : Int), .int .i16 s.n1, .int .u8 (s.d1 : Int), .int .i16 s.n2, .int .u8 (s.d2 : Int)] 44) := Lib.hid (Blk.ext (Blk.new' (w := _) (cs := #[.int .i16 r.n0, .int .u8 (r.d0 : Int), .int .i16 r.n1, .int .u8 (r.d1 : Int), .int .i16 r.n2, .int .u8 (r.d2 : Int), .int .i16 s.n0, .int .u8 (s.d0 : Int), .int .i16 s.n1, .int .u8 (s.d1 : Int), .int .i16 s.n2, .int .u8 (s.d2 : Int)]) (t := 44) (by first | rfl | (simp only [World.size_alloc]; done) | (simp only [World.size_alloc]; omega) | simp)) e1)
  have HGEB0 : Hid (w.heap.size ≤ w.heap.size) := Lib.hid (by first | omega | (simp only []; omega) | (simp; omega))
  have HGEB1 : Hid (w.heap.size ≤ w.heap.size + 1) := Lib.hid (by first | omega | (simp only []; omega) | (simp; omega))
  clear e1
  go_wp2_with fail
  refine wp_name (fun W => Ext w W ∧ Blk W (w.heap.size) #[.int .i16 p.n0, .int .u8 (p.d0 : Int), .int .i16 p.n1, .int .u8 (p.d1 : Int), .int .i16 p.n2, .int .u8 (p.d2 : Int), .int .i16 q.n0, .int .u8 (q.d0 : Int), .int .i16 q.n1, .int .u8 (q.d1 : Int), .int .i16 q.n2, .int .u8 (q.d2 : Int)] 44 ∧ Blk W (w.heap.size + 1) #[.int .i16 r.n0, .int .u8 (r.d0 : Int), .int .i16 r.n1, .int .u8 (r.d1 : Int), .int .i16 r.n2, .int .u8 (r.d2 : Int), .int .i16 s.n0, .int .u8 (s.d0 : Int), .int .i16 s.n1, .int .u8 (s.d1 : Int), .int .i16 s.n2, .int .u8 (s.d2 : Int)] 44) ⟨HX1.out, HB0_1.out, HB1_1.out⟩ ?_
  rintro w2 ⟨e2, bB0_2, bB1_2⟩
  have HX2 := Lib.hid e2; have HB0_2 := Lib.hid bB0_2; have HB1_2 := Lib.hid bB1_2
  clear e2 bB0_2 bB1_2
  refine region_lin [.val (.pointer (some ⟨w.heap.size, 0, none⟩)), .val (.agg #[.int .i16 p.n0, .int .u8 (p.d0 : Int), .int .i16 p.n1, .int .u8 (p.d1 : Int), .int .i16 p.n2, .int .u8 (p.d2 : Int)]), .val (.agg #[.string (qs a.x), .string (qs a.y)]), .val (.pointer (some ⟨w.heap.size, 6, none⟩)), .val (.agg #[.int .i16 q.n0, .int .u8 (q.d0 : Int), .int .i16 q.n1, .int .u8 (q.d1 : Int), .int .i16 q.n2, .int .u8 (q.d2 : Int)]), .val (.agg #[.string (qs b.x), .string (qs b.y)]), .val (.pointer (some ⟨w.heap.size + 1, 0, none⟩)), .val (.agg #[.int .i16 r.n0, .int .u8 (r.d0 : Int), .int .i16 r.n1, .int .u8 (r.d1 : Int), .int .i16 r.n2, .int .u8 (r.d2 : Int)]), .val (.agg #[.string (qs c.x), .string (qs c.y)]), .val (.pointer (some ⟨w.heap.size + 1, 6, none⟩)), .val (.agg #[.int .i16 s.n0, .int .u8 (s.d0 : Int), .int .i16 s.n1, .int .u8 (s.d1 : Int), .int .i16 s.n2, .int .u8 (s.d2 : Int)]), .val (.agg #[.string (qs d.x), .string (qs d.y)]), .mem (fun b_ => .pointer (some ⟨b_, 0, none⟩)) #[.string ⟨#[]⟩, .string ⟨#[]⟩] 62 (Option.some 16), .mem (fun b_ => .pointer (some ⟨b_, 0, none⟩)) #[.string ⟨#[]⟩, .string ⟨#[]⟩] 62 (Option.some 17), .mem (fun b_ => .pointer (some ⟨b_, 0, none⟩)) #[.string ⟨#[]⟩, .string ⟨#[]⟩] 62 (Option.some 18), .mem (fun b_ => .pointer (some ⟨b_, 0, none⟩)) #[.string ⟨#[]⟩, .string ⟨#[]⟩] 62 (Option.some 19), .put 12 #[.string (qs a.x), .string (qs a.y)], .put 13 #[.string (qs b.x), .string (qs b.y)], .put 14 #[.string (qs c.x), .string (qs c.y)], .put 15 #[.string (qs d.x), .string (qs d.y)]] (by kernel_rfl) (by kernel_rfl) (by kernel_rfl) ?_ (fun g2 w3 hx_ hm_ hne_ => ?_)
  · skip
    refine RnL.cons (fun g2 A_ W_ hs_ => ?_) ?_
    · have q2_ := (hs_.old 2 (by kernel_rfl) : A_.tmps[2]?.getD undef = .pointer (some ⟨w.heap.size, 0, none⟩))
      refine Rn.val fun K_ hK_ => ?_
      go_simp
      exact hK_.out _ (Ext.refl _)
    refine RnL.cons (fun g2 A_ W_ hs_ => ?_) ?_
    · have q25_ := hs_.val 0 rfl rfl rfl
      have cB0_0 := (HB0_2.out.drew.ext hs_.1).cell 0 rfl
      have cB0_1 := (HB0_2.out.drew.ext hs_.1).cell 1 rfl
      have cB0_2 := (HB0_2.out.drew.ext hs_.1).cell 2 rfl
      have cB0_3 := (HB0_2.out.drew.ext hs_.1).cell 3 rfl
      have cB0_4 := (HB0_2.out.drew.ext hs_.1).cell 4 rfl
      have cB0_5 := (HB0_2.out.drew.ext hs_.1).cell 5 rfl
      refine Rn.val fun K_ hK_ => ?_
      go_simp
      exact hK_.out _ (Ext.refl _)
    refine RnL.cons (fun g2 A_ W_ hs_ => ?_) ?_
    · have q26_ := hs_.val 1 rfl rfl rfl
      refine Rn.val fun K_ hK_ => ?_
      go_simp
      refine ((HaE.out ▸ point_c p _ (HG.out.ext (HX2.out.drew.trans hs_.1)) Hp.out)).mono ?_; rintro e W9_ ⟨rfl, e9_⟩; exact hK_.out _ e9_
    refine RnL.cons (fun g2 A_ W_ hs_ => ?_) ?_
    · have q2_ := (hs_.old 2 (by kernel_rfl) : A_.tmps[2]?.getD undef = .pointer (some ⟨w.heap.size, 0, none⟩))
      refine Rn.val fun K_ hK_ => ?_
      go_simp
      exact hK_.out _ (Ext.refl _)
    refine RnL.cons (fun g2 A_ W_ hs_ => ?_) ?_
    · have q28_ := hs_.val 3 rfl rfl rfl
      have cB0_6 := (HB0_2.out.drew.ext hs_.1).cell 6 rfl
      have cB0_7 := (HB0_2.out.drew.ext hs_.1).cell 7 rfl
      have cB0_8 := (HB0_2.out.drew.ext hs_.1).cell 8 rfl
      have cB0_9 := (HB0_2.out.drew.ext hs_.1).cell 9 rfl
      have cB0_10 := (HB0_2.out.drew.ext hs_.1).cell 10 rfl
      have cB0_11 := (HB0_2.out.drew.ext hs_.1).cell 11 rfl
      refine Rn.val fun K_ hK_ => ?_
      go_simp
      exact hK_.out _ (Ext.refl _)
    refine RnL.cons (fun g2 A_ W_ hs_ => ?_) ?_
    · have q29_ := hs_.val 4 rfl rfl rfl
      refine Rn.val fun K_ hK_ => ?_
      go_simp
      refine ((HbE.out ▸ point_c q _ (HG.out.ext (HX2.out.drew.trans hs_.1)) Hq.out)).mono ?_; rintro e W9_ ⟨rfl, e9_⟩; exact hK_.out _ e9_
    refine RnL.cons (fun g2 A_ W_ hs_ => ?_) ?_
    · have q3_ := (hs_.old 3 (by kernel_rfl) : A_.tmps[3]?.getD undef = .pointer (some ⟨w.heap.size + 1, 0, none⟩))
      refine Rn.val fun K_ hK_ => ?_
      go_simp
      exact hK_.out _ (Ext.refl _)
    refine RnL.cons (fun g2 A_ W_ hs_ => ?_) ?_
    · have q31_ := hs_.val 6 rfl rfl rfl
      have cB1_0 := (HB1_2.out.drew.ext hs_.1).cell 0 rfl
      have cB1_1 := (HB1_2.out.drew.ext hs_.1).cell 1 rfl
      have cB1_2 := (HB1_2.out.drew.ext hs_.1).cell 2 rfl
      have cB1_3 := (HB1_2.out.drew.ext hs_.1).cell 3 rfl
      have cB1_4 := (HB1_2.out.drew.ext hs_.1).cell 4 rfl
      have cB1_5 := (HB1_2.out.drew.ext hs_.1).cell 5 rfl
      refine Rn.val fun K_ hK_ => ?_
      go_simp
      exact hK_.out _ (Ext.refl _)
    refine RnL.cons (fun g2 A_ W_ hs_ => ?_) ?_
    · have q32_ := hs_.val 7 rfl rfl rfl
      refine Rn.val fun K_ hK_ => ?_
      go_simp
      refine ((HcE.out ▸ point_c r _ (HG.out.ext (HX2.out.drew.trans hs_.1)) Hr.out)).mono ?_; rintro e W9_ ⟨rfl, e9_⟩; exact hK_.out _ e9_
    refine RnL.cons (fun g2 A_ W_ hs_ => ?_) ?_
    · have q3_ := (hs_.old 3 (by kernel_rfl) : A_.tmps[3]?.getD undef = .pointer (some ⟨w.heap.size + 1, 0, none⟩))
      refine Rn.val fun K_ hK_ => ?_
      go_simp
      exact hK_.out _ (Ext.refl _)
    refine RnL.cons (fun g2 A_ W_ hs_ => ?_) ?_
    · have q34_ := hs_.val 9 rfl rfl rfl
      have cB1_6 := (HB1_2.out.drew.ext hs_.1).cell 6 rfl
      have cB1_7 := (HB1_2.out.drew.ext hs_.1).cell 7 rfl
      have cB1_8 := (HB1_2.out.drew.ext hs_.1).cell 8 rfl
      have cB1_9 := (HB1_2.out.drew.ext hs_.1).cell 9 rfl
      have cB1_10 := (HB1_2.out.drew.ext hs_.1).cell 10 rfl
      have cB1_11 := (HB1_2.out.drew.ext hs_.1).cell 11 rfl
      refine Rn.val fun K_ hK_ => ?_
      go_simp
      exact hK_.out _ (Ext.refl _)
    refine RnL.cons (fun g2 A_ W_ hs_ => ?_) ?_
    · have q35_ := hs_.val 10 rfl rfl rfl
      refine Rn.val fun K_ hK_ => ?_
      go_simp
      refine ((HdE.out ▸ point_c s _ (HG.out.ext (HX2.out.drew.trans hs_.1)) Hs.out)).mono ?_; rintro e W9_ ⟨rfl, e9_⟩; exact hK_.out _ e9_
    refine RnL.cons (fun g2 A_ W_ hs_ => ?_) ?_
    · refine Rn.mem fun K_ hK_ => ?_
      go_simp
      exact hK_.out
    refine RnL.cons (fun g2 A_ W_ hs_ => ?_) ?_
    · refine Rn.mem fun K_ hK_ => ?_
      go_simp
      exact hK_.out
    refine RnL.cons (fun g2 A_ W_ hs_ => ?_) ?_
    · refine Rn.mem fun K_ hK_ => ?_
      go_simp
      exact hK_.out
    refine RnL.cons (fun g2 A_ W_ hs_ => ?_) ?_
    · refine Rn.mem fun K_ hK_ => ?_
      go_simp
      exact hK_.out
    refine RnL.cons (fun g2 A_ W_ hs_ => ?_) ?_
    · have q5_ := (hs_.mem 12 rfl rfl rfl).1
      have q27_ := hs_.val 2 rfl rfl rfl
      refine Rn.put (z := #[.string ⟨#[]⟩, .string ⟨#[]⟩]) (t := 62) rfl fun hB K_ hK_ => ?_
      have c_0 := hB.cell 0 rfl; have f_0 := hB.free 0
      have c_1 := hB.cell 1 rfl; have f_1 := hB.free 1
      have HB := Lib.hid hB; clear hB
      go_simp
      exact hK_.out _ (((Only.refl _ _).set 0 _).set 1 _) ((HB.out.set 0 _).set 1 _)
    refine RnL.cons (fun g2 A_ W_ hs_ => ?_) ?_
    · have q6_ := (hs_.mem 13 rfl rfl rfl).1
      have q30_ := hs_.val 5 rfl rfl rfl
      refine Rn.put (z := #[.string ⟨#[]⟩, .string ⟨#[]⟩]) (t := 62) rfl fun hB K_ hK_ => ?_
      have c_0 := hB.cell 0 rfl; have f_0 := hB.free 0
      have c_1 := hB.cell 1 rfl; have f_1 := hB.free 1
      have HB := Lib.hid hB; clear hB
      go_simp
      exact hK_.out _ (((Only.refl _ _).set 0 _).set 1 _) ((HB.out.set 0 _).set 1 _)
    refine RnL.cons (fun g2 A_ W_ hs_ => ?_) ?_
    · have q7_ := (hs_.mem 14 rfl rfl rfl).1
      have q33_ := hs_.val 8 rfl rfl rfl
      refine Rn.put (z := #[.string ⟨#[]⟩, .string ⟨#[]⟩]) (t := 62) rfl fun hB K_ hK_ => ?_
      have c_0 := hB.cell 0 rfl; have f_0 := hB.free 0
      have c_1 := hB.cell 1 rfl; have f_1 := hB.free 1
      have HB := Lib.hid hB; clear hB
      go_simp
      exact hK_.out _ (((Only.refl _ _).set 0 _).set 1 _) ((HB.out.set 0 _).set 1 _)
    refine RnL.cons (fun g2 A_ W_ hs_ => ?_) ?_
    · have q8_ := (hs_.mem 15 rfl rfl rfl).1
      have q36_ := hs_.val 11 rfl rfl rfl
      refine Rn.put (z := #[.string ⟨#[]⟩, .string ⟨#[]⟩]) (t := 62) rfl fun hB K_ hK_ => ?_
      have c_0 := hB.cell 0 rfl; have f_0 := hB.free 0
      have c_1 := hB.cell 1 rfl; have f_1 := hB.free 1
      have HB := Lib.hid hB; clear hB
      go_simp
      exact hK_.out _ (((Only.refl _ _).set 0 _).set 1 _) ((HB.out.set 0 _).set 1 _)
    exact RnL.nil
  simp only [fs, Kd.value, puts, Act.put, List.setIfInBounds_toArray, List.set_cons_zero, List.set_cons_succ, Nat.reduceAdd]
  have HX3 : Hid (Ext w w3) := Lib.hid (HX2.out.drew.trans hx_)
  have HB2_3 : Hid (Blk w3 (g2 12) #[.string (qs a.x), .string (qs a.y)] 62) := Lib.hid (hm_ 12 _ _ _ _ rfl).2; have HGEB2 : Hid (w.heap.size ≤ g2 12) := Lib.hid (Nat.le_trans HX2.out.size (hm_ 12 _ _ _ _ rfl).1)
  have HB3_3 : Hid (Blk w3 (g2 13) #[.string (qs b.x), .string (qs b.y)] 62) := Lib.hid (hm_ 13 _ _ _ _ rfl).2; have HGEB3 : Hid (w.heap.size ≤ g2 13) := Lib.hid (Nat.le_trans HX2.out.size (hm_ 13 _ _ _ _ rfl).1)
  have HB4_3 : Hid (Blk w3 (g2 14) #[.string (qs c.x), .string (qs c.y)] 62) := Lib.hid (hm_ 14 _ _ _ _ rfl).2; have HGEB4 : Hid (w.heap.size ≤ g2 14) := Lib.hid (Nat.le_trans HX2.out.size (hm_ 14 _ _ _ _ rfl).1)
  have HB5_3 : Hid (Blk w3 (g2 15) #[.string (qs d.x), .string (qs d.y)] 62) := Lib.hid (hm_ 15 _ _ _ _ rfl).2; have HGEB5 : Hid (w.heap.size ≤ g2 15) := Lib.hid (Nat.le_trans HX2.out.size (hm_ 15 _ _ _ _ rfl).1)
  have HNEB2B3 : Hid (g2 12 ≠ g2 13) := Lib.hid (hne_ 12 13 (by decide) ⟨_, _, _, _, rfl⟩ ⟨_, _, _, _, rfl⟩)
  have HNEB2B4 : Hid (g2 12 ≠ g2 14) := Lib.hid (hne_ 12 14 (by decide) ⟨_, _, _, _, rfl⟩ ⟨_, _, _, _, rfl⟩)
  have HNEB3B4 : Hid (g2 13 ≠ g2 14) := Lib.hid (hne_ 13 14 (by decide) ⟨_, _, _, _, rfl⟩ ⟨_, _, _, _, rfl⟩)
  have HNEB2B5 : Hid (g2 12 ≠ g2 15) := Lib.hid (hne_ 12 15 (by decide) ⟨_, _, _, _, rfl⟩ ⟨_, _, _, _, rfl⟩)
  have HNEB3B5 : Hid (g2 13 ≠ g2 15) := Lib.hid (hne_ 13 15 (by decide) ⟨_, _, _, _, rfl⟩ ⟨_, _, _, _, rfl⟩)
  have HNEB4B5 : Hid (g2 14 ≠ g2 15) := Lib.hid (hne_ 14 15 (by decide) ⟨_, _, _, _, rfl⟩ ⟨_, _, _, _, rfl⟩)
  clear hx_ hm_ hne_
  generalize g2 12 = i2 at *
  generalize g2 13 = i3 at *
  generalize g2 14 = i4 at *
  generalize g2 15 = i5 at *
  clear g2
  have c2_0 := HB2_3.out.cell 0 rfl
  have c2_1 := HB2_3.out.cell 1 rfl
  have c3_0 := HB3_3.out.cell 0 rfl
  have c3_1 := HB3_3.out.cell 1 rfl
  go_wp2_with fail
  refine (thr_n a b L _ (HG.out.ext HX3.out) HLE.out HAB.out Ha.out Hb.out HL.out).mono ?_; rintro e w4 ⟨rfl, e4⟩
  have HX4 : Hid (Ext w w4) := Lib.hid (HX3.out.trans e4)
  have HB2_4 := Lib.hid (Blk.ext HB2_3.out e4)
  have HB3_4 := Lib.hid (Blk.ext HB3_3.out e4)
  have HB4_4 := Lib.hid (Blk.ext HB4_3.out e4)
  have HB5_4 := Lib.hid (Blk.ext HB5_3.out e4)
  clear e4 c2_0 c2_1 c3_0 c3_1
  go_upto_region 5 with fail
  refine wp_name (fun W => Ext w W ∧ Blk W (i2) #[.string (qs a.x), .string (qs a.y)] 62 ∧ Blk W (i3) #[.string (qs b.x), .string (qs b.y)] 62 ∧ Blk W (i4) #[.string (qs c.x), .string (qs c.y)] 62 ∧ Blk W (i5) #[.string (qs d.x), .string (qs d.y)] 62 ∧ Blk W (w4.heap.size) #[.string (qs L.x), .string (qs L.y), .string (qs L.z)] 73) ⟨(HX4.out.alloc _), (HB2_4.out.alloc _), (HB3_4.out.alloc _), (HB4_4.out.alloc _), (HB5_4.out.alloc _), (Blk.new' (w := _) (cs := #[.string (qs L.x), .string (qs L.y), .string (qs L.z)]) (t := 73) (by first | rfl | (simp only [World.size_alloc]; done) | (simp only [World.size_alloc]; omega) | simp))⟩ ?_
  rintro w5 ⟨e5, bB2_5, bB3_5, bB4_5, bB5_5, bB6_5⟩
  have HX5 := Lib.hid e5; have HB2_5 := Lib.hid bB2_5; have HB3_5 := Lib.hid bB3_5; have HB4_5 := Lib.hid bB4_5; have HB5_5 := Lib.hid bB5_5; have HB6_5 := Lib.hid bB6_5
  have HGEB6 : Hid (w.heap.size ≤ w4.heap.size) := Lib.hid (by have := HX4.out.size; first | omega | (simp only []; omega) | (simp; omega))
  clear e5 bB2_5 bB3_5 bB4_5 bB5_5 bB6_5
  have c4_0 := HB4_5.out.cell 0 rfl
  have c4_1 := HB4_5.out.cell 1 rfl
  have c5_0 := HB5_5.out.cell 0 rfl
  have c5_1 := HB5_5.out.cell 1 rfl
  go_wp2_with fail
  refine (thr_n c d M _ (HG.out.ext HX5.out) HME.out HCD.out Hc.out Hd.out HM.out).mono ?_; rintro e w6 ⟨rfl, e6⟩
  have HX6 : Hid (Ext w w6) := Lib.hid (HX5.out.trans e6)
  have HB2_6 := Lib.hid (Blk.ext HB2_5.out e6)
  have HB3_6 := Lib.hid (Blk.ext HB3_5.out e6)
  have HB4_6 := Lib.hid (Blk.ext HB4_5.out e6)
  have HB5_6 := Lib.hid (Blk.ext HB5_5.out e6)
  have HB6_6 := Lib.hid (Blk.ext HB6_5.out e6)
  clear e6 c4_0 c4_1 c5_0 c5_1
  go_upto_region 6 with fail
  refine wp_name (fun W => Ext w W ∧ Blk W (i2) #[.string (qs a.x), .string (qs a.y)] 62 ∧ Blk W (i3) #[.string (qs b.x), .string (qs b.y)] 62 ∧ Blk W (i4) #[.string (qs c.x), .string (qs c.y)] 62 ∧ Blk W (i5) #[.string (qs d.x), .string (qs d.y)] 62 ∧ Blk W (w4.heap.size) #[.string (qs L.x), .string (qs L.y), .string (qs L.z)] 73 ∧ Blk W (w6.heap.size) #[.string (qs M.x), .string (qs M.y), .string (qs M.z)] 73) ⟨(HX6.out.alloc _), (HB2_6.out.alloc _), (HB3_6.out.alloc _), (HB4_6.out.alloc _), (HB5_6.out.alloc _), (HB6_6.out.alloc _), (Blk.new' (w := _) (cs := #[.string (qs M.x), .string (qs M.y), .string (qs M.z)]) (t := 73) (by first | rfl | (simp only [World.size_alloc]; done) | (simp only [World.size_alloc]; omega) | simp))⟩ ?_
  rintro w7 ⟨e7, bB2_7, bB3_7, bB4_7, bB5_7, bB6_7, bB7_7⟩
  have HX7 := Lib.hid e7; have HB2_7 := Lib.hid bB2_7; have HB3_7 := Lib.hid bB3_7; have HB4_7 := Lib.hid bB4_7; have HB5_7 := Lib.hid bB5_7; have HB6_7 := Lib.hid bB6_7; have HB7_7 := Lib.hid bB7_7
  have HGEB7 : Hid (w.heap.size ≤ w6.heap.size) := Lib.hid (by have := HX6.out.size; first | omega | (simp only []; omega) | (simp; omega))
  clear e7 bB2_7 bB3_7 bB4_7 bB5_7 bB6_7 bB7_7
  go_cut [56] from 49 to 56 (fun s_ wx => s_ = .bool false ∧ w7 = wx)
  case first =>
    have cB2_0 := HB2_7.out.cell 0 rfl
    have cB2_1 := HB2_7.out.cell 1 rfl
    have cB3_0 := HB3_7.out.cell 0 rfl
    have cB3_1 := HB3_7.out.cell 1 rfl
    have cB4_0 := HB4_7.out.cell 0 rfl
    have cB4_1 := HB4_7.out.cell 1 rfl
    have cB5_0 := HB5_7.out.cell 0 rfl
    have cB5_1 := HB5_7.out.cell 1 rfl
    go_wp2_with fail
    all_goals first | (go_meet; exact ⟨rfl, rfl⟩) | (first | exact absurd (p2_ext (by assumption) (by assumption)) HAB.out | exact absurd (p2_ext (by assumption) (by assumption)) HCD.out)
  obtain ⟨rfl, rfl⟩ := hcut
  go_wp2_with fail
  refine wp_name (fun W => Ext w W ∧ Blk W (i2) #[.string (qs a.x), .string (qs a.y)] 62 ∧ Blk W (i3) #[.string (qs b.x), .string (qs b.y)] 62 ∧ Blk W (i4) #[.string (qs c.x), .string (qs c.y)] 62 ∧ Blk W (i5) #[.string (qs d.x), .string (qs d.y)] 62 ∧ Blk W (w4.heap.size) #[.string (qs L.x), .string (qs L.y), .string (qs L.z)] 73 ∧ Blk W (w6.heap.size) #[.string (qs M.x), .string (qs M.y), .string (qs M.z)] 73) ⟨HX7.out, HB2_7.out, HB3_7.out, HB4_7.out, HB5_7.out, HB6_7.out, HB7_7.out⟩ ?_
  rintro w8 ⟨e8, bB2_8, bB3_8, bB4_8, bB5_8, bB6_8, bB7_8⟩
  have HX8 := Lib.hid e8; have HB2_8 := Lib.hid bB2_8; have HB3_8 := Lib.hid bB3_8; have HB4_8 := Lib.hid bB4_8; have HB5_8 := Lib.hid bB5_8; have HB6_8 := Lib.hid bB6_8; have HB7_8 := Lib.hid bB7_8
  clear e8 bB2_8 bB3_8 bB4_8 bB5_8 bB6_8 bB7_8
  refine region_lin [.val (.int .i64 0), .val (.bool false), .val (.bool false), .val (.int .i64 0), .val (.bool false), .val (.bool false), .val (.bool false), .val (.agg #[.string (qs L.x), .string (qs L.y), .string (qs L.z)]), .val (.pointer (some ⟨i2, 1, none⟩)), .val (.string (qs a.y)), .val (.pointer (some ⟨i3, 1, none⟩)), .val (.string (qs b.y)), .val (.string (qs L.x)), .val (.pointer (some ⟨i3, 0, none⟩)), .val (.string (qs b.x)), .val (.pointer (some ⟨i2, 0, none⟩)), .val (.string (qs a.x)), .val (.string (qs L.y)), .val (.pointer (some ⟨i2, 1, none⟩)), .val (.string (qs a.y)), .val (.pointer (some ⟨i3, 1, none⟩)), .val (.string (qs b.y)), .val (.string (qs L.x)), .val (.pointer (some ⟨i3, 0, none⟩)), .val (.string (qs b.x)), .val (.pointer (some ⟨i2, 0, none⟩)), .val (.string (qs a.x)), .val (.string (qs L.y)), .val (.agg #[.string (qs a.x), .string (qs a.y)]), .val (.string (qs L.z)), .val (.agg #[.string (qs L.x), .string (qs L.y), .string (qs L.z)]), .val (.bool false), .val (.bool false)] (by kernel_rfl) (by kernel_rfl) (by kernel_rfl) ?_ (fun g8 w9 hx_ hm_ hne_ => ?_)
  · skip
    refine RnL.cons (fun g8 A_ W_ hs_ => ?_) ?_
    · have q10_ := (hs_.old 10 (by kernel_rfl) : A_.tmps[10]?.getD undef = .int .i64 0)
      refine Rn.val fun K_ hK_ => ?_
      go_simp
      exact hK_.out _ (Ext.refl _)
    refine RnL.cons (fun g8 A_ W_ hs_ => ?_) ?_
    · have q73_ := hs_.val 0 rfl rfl rfl
      refine Rn.val fun K_ hK_ => ?_
      go_simp
      exact hK_.out _ (Ext.refl _)
    refine RnL.cons (fun g8 A_ W_ hs_ => ?_) ?_
    · have q74_ := hs_.val 1 rfl rfl rfl
      refine Rn.val fun K_ hK_ => ?_
      go_simp
      exact hK_.out _ (Ext.refl _)
    refine RnL.cons (fun g8 A_ W_ hs_ => ?_) ?_
    · have q12_ := (hs_.old 12 (by kernel_rfl) : A_.tmps[12]?.getD undef = .int .i64 0)
      refine Rn.val fun K_ hK_ => ?_
      go_simp
      exact hK_.out _ (Ext.refl _)
    refine RnL.cons (fun g8 A_ W_ hs_ => ?_) ?_
    · have q76_ := hs_.val 3 rfl rfl rfl
      refine Rn.val fun K_ hK_ => ?_
      go_simp
      exact hK_.out _ (Ext.refl _)
    refine RnL.cons (fun g8 A_ W_ hs_ => ?_) ?_
    · have q75_ := hs_.val 2 rfl rfl rfl
      have q77_ := hs_.val 4 rfl rfl rfl
      refine Rn.val fun K_ hK_ => ?_
      go_simp
      exact hK_.out _ (Ext.refl _)
    refine RnL.cons (fun g8 A_ W_ hs_ => ?_) ?_
    · have q78_ := hs_.val 5 rfl rfl rfl
      refine Rn.val fun K_ hK_ => ?_
      go_simp
      exact hK_.out _ (Ext.refl _)
    refine RnL.cons (fun g8 A_ W_ hs_ => ?_) ?_
    · have q9_ := (hs_.old 9 (by kernel_rfl) : A_.tmps[9]?.getD undef = .pointer (some ⟨w4.heap.size, 0, none⟩))
      have cB6_0 := (HB6_8.out.drew.ext hs_.1).cell 0 rfl
      have cB6_1 := (HB6_8.out.drew.ext hs_.1).cell 1 rfl
      have cB6_2 := (HB6_8.out.drew.ext hs_.1).cell 2 rfl
      refine Rn.val fun K_ hK_ => ?_
      go_simp
      exact hK_.out _ (Ext.refl _)
    refine RnL.cons (fun g8 A_ W_ hs_ => ?_) ?_
    · have q5_ := (hs_.old 5 (by kernel_rfl) : A_.tmps[5]?.getD undef = .pointer (some ⟨i2, 0, none⟩))
      refine Rn.val fun K_ hK_ => ?_
      go_simp
      exact hK_.out _ (Ext.refl _)
    refine RnL.cons (fun g8 A_ W_ hs_ => ?_) ?_
    · have q81_ := hs_.val 8 rfl rfl rfl
      have cB2_1 := (HB2_8.out.drew.ext hs_.1).cell 1 rfl
      refine Rn.val fun K_ hK_ => ?_
      go_simp
      exact hK_.out _ (Ext.refl _)
    refine RnL.cons (fun g8 A_ W_ hs_ => ?_) ?_
    · have q6_ := (hs_.old 6 (by kernel_rfl) : A_.tmps[6]?.getD undef = .pointer (some ⟨i3, 0, none⟩))
      refine Rn.val fun K_ hK_ => ?_
      go_simp
      exact hK_.out _ (Ext.refl _)
    refine RnL.cons (fun g8 A_ W_ hs_ => ?_) ?_
    · have q83_ := hs_.val 10 rfl rfl rfl
      have cB3_1 := (HB3_8.out.drew.ext hs_.1).cell 1 rfl
      refine Rn.val fun K_ hK_ => ?_
      go_simp
      exact hK_.out _ (Ext.refl _)
    refine RnL.cons (fun g8 A_ W_ hs_ => ?_) ?_
    · have q82_ := hs_.val 9 rfl rfl rfl
      have q84_ := hs_.val 11 rfl rfl rfl
      refine Rn.val fun K_ hK_ => ?_
      go_simp
      refine (rsub_x a b L _ (HG.out.ext (HX8.out.drew.trans hs_.1)) HLE.out Ha.out Hb.out).mono ?_; rintro e W9_ ⟨rfl, e9_⟩; exact hK_.out _ e9_
    refine RnL.cons (fun g8 A_ W_ hs_ => ?_) ?_
    · have q6_ := (hs_.old 6 (by kernel_rfl) : A_.tmps[6]?.getD undef = .pointer (some ⟨i3, 0, none⟩))
      refine Rn.val fun K_ hK_ => ?_
      go_simp
      exact hK_.out _ (Ext.refl _)
    refine RnL.cons (fun g8 A_ W_ hs_ => ?_) ?_
    · have q86_ := hs_.val 13 rfl rfl rfl
      have cB3_0 := (HB3_8.out.drew.ext hs_.1).cell 0 rfl
      refine Rn.val fun K_ hK_ => ?_
      go_simp
      exact hK_.out _ (Ext.refl _)
    refine RnL.cons (fun g8 A_ W_ hs_ => ?_) ?_
    · have q5_ := (hs_.old 5 (by kernel_rfl) : A_.tmps[5]?.getD undef = .pointer (some ⟨i2, 0, none⟩))
      refine Rn.val fun K_ hK_ => ?_
      go_simp
      exact hK_.out _ (Ext.refl _)
    refine RnL.cons (fun g8 A_ W_ hs_ => ?_) ?_
    · have q88_ := hs_.val 15 rfl rfl rfl
      have cB2_0 := (HB2_8.out.drew.ext hs_.1).cell 0 rfl
      refine Rn.val fun K_ hK_ => ?_
      go_simp
      exact hK_.out _ (Ext.refl _)
    refine RnL.cons (fun g8 A_ W_ hs_ => ?_) ?_
    · have q87_ := hs_.val 14 rfl rfl rfl
      have q89_ := hs_.val 16 rfl rfl rfl
      refine Rn.val fun K_ hK_ => ?_
      go_simp
      refine (rsub_y a b L _ (HG.out.ext (HX8.out.drew.trans hs_.1)) HLE.out Ha.out Hb.out).mono ?_; rintro e W9_ ⟨rfl, e9_⟩; exact hK_.out _ e9_
    refine RnL.cons (fun g8 A_ W_ hs_ => ?_) ?_
    · have q5_ := (hs_.old 5 (by kernel_rfl) : A_.tmps[5]?.getD undef = .pointer (some ⟨i2, 0, none⟩))
      refine Rn.val fun K_ hK_ => ?_
      go_simp
      exact hK_.out _ (Ext.refl _)
    refine RnL.cons (fun g8 A_ W_ hs_ => ?_) ?_
    · have q91_ := hs_.val 18 rfl rfl rfl
      have cB2_1 := (HB2_8.out.drew.ext hs_.1).cell 1 rfl
      refine Rn.val fun K_ hK_ => ?_
      go_simp
      exact hK_.out _ (Ext.refl _)
    refine RnL.cons (fun g8 A_ W_ hs_ => ?_) ?_
    · have q6_ := (hs_.old 6 (by kernel_rfl) : A_.tmps[6]?.getD undef = .pointer (some ⟨i3, 0, none⟩))
      refine Rn.val fun K_ hK_ => ?_
      go_simp
      exact hK_.out _ (Ext.refl _)
    refine RnL.cons (fun g8 A_ W_ hs_ => ?_) ?_
    · have q93_ := hs_.val 20 rfl rfl rfl
      have cB3_1 := (HB3_8.out.drew.ext hs_.1).cell 1 rfl
      refine Rn.val fun K_ hK_ => ?_
      go_simp
      exact hK_.out _ (Ext.refl _)
    refine RnL.cons (fun g8 A_ W_ hs_ => ?_) ?_
    · have q92_ := hs_.val 19 rfl rfl rfl
      have q94_ := hs_.val 21 rfl rfl rfl
      refine Rn.val fun K_ hK_ => ?_
      go_simp
      refine (rsub_x a b L _ (HG.out.ext (HX8.out.drew.trans hs_.1)) HLE.out Ha.out Hb.out).mono ?_; rintro e W9_ ⟨rfl, e9_⟩; exact hK_.out _ e9_
    refine RnL.cons (fun g8 A_ W_ hs_ => ?_) ?_
    · have q6_ := (hs_.old 6 (by kernel_rfl) : A_.tmps[6]?.getD undef = .pointer (some ⟨i3, 0, none⟩))
      refine Rn.val fun K_ hK_ => ?_
      go_simp
      exact hK_.out _ (Ext.refl _)
    refine RnL.cons (fun g8 A_ W_ hs_ => ?_) ?_
    · have q96_ := hs_.val 23 rfl rfl rfl
      have cB3_0 := (HB3_8.out.drew.ext hs_.1).cell 0 rfl
      refine Rn.val fun K_ hK_ => ?_
      go_simp
      exact hK_.out _ (Ext.refl _)
    refine RnL.cons (fun g8 A_ W_ hs_ => ?_) ?_
    · have q5_ := (hs_.old 5 (by kernel_rfl) : A_.tmps[5]?.getD undef = .pointer (some ⟨i2, 0, none⟩))
      refine Rn.val fun K_ hK_ => ?_
      go_simp
      exact hK_.out _ (Ext.refl _)
    refine RnL.cons (fun g8 A_ W_ hs_ => ?_) ?_
    · have q98_ := hs_.val 25 rfl rfl rfl
      have cB2_0 := (HB2_8.out.drew.ext hs_.1).cell 0 rfl
      refine Rn.val fun K_ hK_ => ?_
      go_simp
      exact hK_.out _ (Ext.refl _)
    refine RnL.cons (fun g8 A_ W_ hs_ => ?_) ?_
    · have q97_ := hs_.val 24 rfl rfl rfl
      have q99_ := hs_.val 26 rfl rfl rfl
      refine Rn.val fun K_ hK_ => ?_
      go_simp
      refine (rsub_y a b L _ (HG.out.ext (HX8.out.drew.trans hs_.1)) HLE.out Ha.out Hb.out).mono ?_; rintro e W9_ ⟨rfl, e9_⟩; exact hK_.out _ e9_
    refine RnL.cons (fun g8 A_ W_ hs_ => ?_) ?_
    · have q5_ := (hs_.old 5 (by kernel_rfl) : A_.tmps[5]?.getD undef = .pointer (some ⟨i2, 0, none⟩))
      have cB2_0 := (HB2_8.out.drew.ext hs_.1).cell 0 rfl
      have cB2_1 := (HB2_8.out.drew.ext hs_.1).cell 1 rfl
      refine Rn.val fun K_ hK_ => ?_
      go_simp
      exact hK_.out _ (Ext.refl _)
    refine RnL.cons (fun g8 A_ W_ hs_ => ?_) ?_
    · have q95_ := hs_.val 22 rfl rfl rfl
      have q100_ := hs_.val 27 rfl rfl rfl
      have q101_ := hs_.val 28 rfl rfl rfl
      refine Rn.val fun K_ hK_ => ?_
      go_simp
      refine (val_z a b L _ (HG.out.ext (HX8.out.drew.trans hs_.1)) HLE.out Ha.out HL.out).mono ?_; rintro e W9_ ⟨rfl, e9_⟩; exact hK_.out _ e9_
    refine RnL.cons (fun g8 A_ W_ hs_ => ?_) ?_
    · have q85_ := hs_.val 12 rfl rfl rfl
      have q90_ := hs_.val 17 rfl rfl rfl
      have q102_ := hs_.val 29 rfl rfl rfl
      refine Rn.val fun K_ hK_ => ?_
      go_simp
      exact hK_.out _ (Ext.refl _)
    refine RnL.cons (fun g8 A_ W_ hs_ => ?_) ?_
    · have q80_ := hs_.val 7 rfl rfl rfl
      have q103_ := hs_.val 30 rfl rfl rfl
      refine Rn.val fun K_ hK_ => ?_
      go_simp
      exact hK_.out _ (Ext.refl _)
    refine RnL.cons (fun g8 A_ W_ hs_ => ?_) ?_
    · have q79_ := hs_.val 6 rfl rfl rfl
      have q104_ := hs_.val 31 rfl rfl rfl
      refine Rn.val fun K_ hK_ => ?_
      go_simp
      exact hK_.out _ (Ext.refl _)
    exact RnL.nil
  simp only [fs, Kd.value, puts, Act.put, List.setIfInBounds_toArray, List.set_cons_zero, List.set_cons_succ]
  have HX9 : Hid (Ext w w9) := Lib.hid (HX8.out.drew.trans hx_)
  have HB4_9 := Lib.hid (HB4_8.out.drew.ext hx_)
  have HB5_9 := Lib.hid (HB5_8.out.drew.ext hx_)
  have HB6_9 := Lib.hid (HB6_8.out.drew.ext hx_)
  have HB7_9 := Lib.hid (HB7_8.out.drew.ext hx_)
  clear hx_ hm_ hne_
  have c6_0 := HB6_9.out.cell 0 rfl
  have c6_1 := HB6_9.out.cell 1 rfl
  have c6_2 := HB6_9.out.cell 2 rfl
  have c7_0 := HB7_9.out.cell 0 rfl
  have c7_1 := HB7_9.out.cell 1 rfl
  have c7_2 := HB7_9.out.cell 2 rfl
  go_wp2_with fail
  refine (HMT.out _ (HG.out.ext HX9.out)).mono ?_; rintro e w10 ⟨rfl, e10⟩
  have HX10 : Hid (Ext w w10) := Lib.hid (HX9.out.trans e10)
  have HB4_10 := Lib.hid (Blk.ext HB4_9.out e10)
  have HB5_10 := Lib.hid (Blk.ext HB5_9.out e10)
  have HB6_10 := Lib.hid (Blk.ext HB6_9.out e10)
  have HB7_10 := Lib.hid (Blk.ext HB7_9.out e10)
  clear e10 c6_0 c6_1 c6_2 c7_0 c7_1 c7_2
  go_wp2_with fail
  refine wp_name (fun W => Ext w W ∧ Blk W (i4) #[.string (qs c.x), .string (qs c.y)] 62 ∧ Blk W (i5) #[.string (qs d.x), .string (qs d.y)] 62 ∧ Blk W (w4.heap.size) #[.string (qs L.x), .string (qs L.y), .string (qs L.z)] 73 ∧ Blk W (w6.heap.size) #[.string (qs M.x), .string (qs M.y), .string (qs M.z)] 73 ∧ Blk W (w10.heap.size) #[.string px, .string py] 62) ⟨(HX10.out.alloc _), (HB4_10.out.alloc _), (HB5_10.out.alloc _), (HB6_10.out.alloc _), (HB7_10.out.alloc _), (Blk.new' (w := _) (cs := #[.string px, .string py]) (t := 62) (by first | rfl | (simp only [World.size_alloc]; done) | (simp only [World.size_alloc]; omega) | simp))⟩ ?_
  rintro w11 ⟨e11, bB4_11, bB5_11, bB6_11, bB7_11, bB8_11⟩
  have HX11 := Lib.hid e11; have HB4_11 := Lib.hid bB4_11; have HB5_11 := Lib.hid bB5_11; have HB6_11 := Lib.hid bB6_11; have HB7_11 := Lib.hid bB7_11; have HB8_11 := Lib.hid bB8_11
  have HGEB8 : Hid (w.heap.size ≤ w10.heap.size) := Lib.hid (by have := HX10.out.size; first | omega | (simp only []; omega) | (simp; omega))
  clear e11 bB4_11 bB5_11 bB6_11 bB7_11 bB8_11
  refine region_lin [.val (.pointer (some ⟨w4.heap.size, 0, none⟩)), .val (.string (qs L.x)), .val (.pointer (some ⟨w6.heap.size, 1, none⟩)), .val (.string (qs M.y)), .val (.string m1), .val (.pointer (some ⟨w4.heap.size, 1, none⟩)), .val (.string (qs L.y)), .val (.pointer (some ⟨w6.heap.size, 0, none⟩)), .val (.string (qs M.x)), .val (.string m2), .val (.bool (!F)), .val (.bool (!F))] (by kernel_rfl) (by kernel_rfl) (by kernel_rfl) ?_ (fun g11 w12 hx_ hm_ hne_ => ?_)
  · skip
    refine RnL.cons (fun g11 A_ W_ hs_ => ?_) ?_
    · have q9_ := (hs_.old 9 (by kernel_rfl) : A_.tmps[9]?.getD undef = .pointer (some ⟨w4.heap.size, 0, none⟩))
      refine Rn.val fun K_ hK_ => ?_
      go_simp
      exact hK_.out _ (Ext.refl _)
    refine RnL.cons (fun g11 A_ W_ hs_ => ?_) ?_
    · have q113_ := hs_.val 0 rfl rfl rfl
      have cB6_0 := (HB6_11.out.drew.ext hs_.1).cell 0 rfl
      refine Rn.val fun K_ hK_ => ?_
      go_simp
      exact hK_.out _ (Ext.refl _)
    refine RnL.cons (fun g11 A_ W_ hs_ => ?_) ?_
    · have q11_ := (hs_.old 11 (by kernel_rfl) : A_.tmps[11]?.getD undef = .pointer (some ⟨w6.heap.size, 0, none⟩))
      refine Rn.val fun K_ hK_ => ?_
      go_simp
      exact hK_.out _ (Ext.refl _)
    refine RnL.cons (fun g11 A_ W_ hs_ => ?_) ?_
    · have q115_ := hs_.val 2 rfl rfl rfl
      have cB7_1 := (HB7_11.out.drew.ext hs_.1).cell 1 rfl
      refine Rn.val fun K_ hK_ => ?_
      go_simp
      exact hK_.out _ (Ext.refl _)
    refine RnL.cons (fun g11 A_ W_ hs_ => ?_) ?_
    · have q114_ := hs_.val 1 rfl rfl rfl
      have q116_ := hs_.val 3 rfl rfl rfl
      refine Rn.val fun K_ hK_ => ?_
      go_simp
      refine (mul_m L.x M.y m1 _ (HG.out.ext (HX11.out.drew.trans hs_.1)) HM1.out HL.out.x HM.out.y).mono ?_; rintro e W9_ ⟨rfl, e9_⟩; exact hK_.out _ e9_
    refine RnL.cons (fun g11 A_ W_ hs_ => ?_) ?_
    · have q9_ := (hs_.old 9 (by kernel_rfl) : A_.tmps[9]?.getD undef = .pointer (some ⟨w4.heap.size, 0, none⟩))
      refine Rn.val fun K_ hK_ => ?_
      go_simp
      exact hK_.out _ (Ext.refl _)
    refine RnL.cons (fun g11 A_ W_ hs_ => ?_) ?_
    · have q118_ := hs_.val 5 rfl rfl rfl
      have cB6_1 := (HB6_11.out.drew.ext hs_.1).cell 1 rfl
      refine Rn.val fun K_ hK_ => ?_
      go_simp
      exact hK_.out _ (Ext.refl _)
    refine RnL.cons (fun g11 A_ W_ hs_ => ?_) ?_
    · have q11_ := (hs_.old 11 (by kernel_rfl) : A_.tmps[11]?.getD undef = .pointer (some ⟨w6.heap.size, 0, none⟩))
      refine Rn.val fun K_ hK_ => ?_
      go_simp
      exact hK_.out _ (Ext.refl _)
    refine RnL.cons (fun g11 A_ W_ hs_ => ?_) ?_
    · have q120_ := hs_.val 7 rfl rfl rfl
      have cB7_0 := (HB7_11.out.drew.ext hs_.1).cell 0 rfl
      refine Rn.val fun K_ hK_ => ?_
      go_simp
      exact hK_.out _ (Ext.refl _)
    refine RnL.cons (fun g11 A_ W_ hs_ => ?_) ?_
    · have q119_ := hs_.val 6 rfl rfl rfl
      have q121_ := hs_.val 8 rfl rfl rfl
      refine Rn.val fun K_ hK_ => ?_
      go_simp
      refine (mul_m L.y M.x m2 _ (HG.out.ext (HX11.out.drew.trans hs_.1)) HM2.out HL.out.y HM.out.x).mono ?_; rintro e W9_ ⟨rfl, e9_⟩; exact hK_.out _ e9_
    refine RnL.cons (fun g11 A_ W_ hs_ => ?_) ?_
    · have q117_ := hs_.val 4 rfl rfl rfl
      have q122_ := hs_.val 9 rfl rfl rfl
      refine Rn.val fun K_ hK_ => ?_
      go_simp
      exact hK_.out _ (Ext.refl _)
    refine RnL.cons (fun g11 A_ W_ hs_ => ?_) ?_
    · have q123_ := hs_.val 10 rfl rfl rfl
      refine Rn.val fun K_ hK_ => ?_
      go_simp
      exact hK_.out _ (Ext.refl _)
    exact RnL.nil
  simp only [fs, Kd.value, puts, Act.put, List.setIfInBounds_toArray, List.set_cons_zero, List.set_cons_succ]
  have HX12 : Hid (Ext w w12) := Lib.hid (HX11.out.drew.trans hx_)
  have HB4_12 := Lib.hid (HB4_11.out.drew.ext hx_)
  have HB5_12 := Lib.hid (HB5_11.out.drew.ext hx_)
  have HB6_12 := Lib.hid (HB6_11.out.drew.ext hx_)
  have HB7_12 := Lib.hid (HB7_11.out.drew.ext hx_)
  have HB8_12 := Lib.hid (HB8_11.out.drew.ext hx_)
  clear hx_ hm_ hne_
  go_upto_region 12 with fail
  go_cut [155] from 124 to 155 (fun s_ wx => s_ = .bool false ∧ Ext w wx ∧ Blk wx (i4) #[.string (qs c.x), .string (qs c.y)] 62 ∧ Blk wx (i5) #[.string (qs d.x), .string (qs d.y)] 62 ∧ Blk wx (w4.heap.size) #[.string (qs L.x), .string (qs L.y), .string (qs L.z)] 73)
  case first =>
    rcases HF.out with ⟨rfl, P, rfl, rfl, hP, hPO⟩ | ⟨rfl, rfl, rfl⟩
    · have HP := Lib.hid hP; have HPO := Lib.hid hPO; clear hP hPO
      have c6_0 := HB6_12.out.cell 0 rfl
      have c6_1 := HB6_12.out.cell 1 rfl
      have c6_2 := HB6_12.out.cell 2 rfl
      have c8_0 := HB8_12.out.cell 0 rfl
      have c8_1 := HB8_12.out.cell 1 rfl
      go_wp2_with fail
      refine (val_0 L P _ (HG.out.ext HX12.out) HPO.out.1 HL.out HP.out (by decide) (by decide)).mono ?_; rintro e w13 ⟨rfl, e13⟩
      have HX13 : Hid (Ext w w13) := Lib.hid (HX12.out.trans e13)
      have HB4_13 := Lib.hid (Blk.ext HB4_12.out e13)
      have HB5_13 := Lib.hid (Blk.ext HB5_12.out e13)
      have HB6_13 := Lib.hid (Blk.ext HB6_12.out e13)
      have HB7_13 := Lib.hid (Blk.ext HB7_12.out e13)
      have HB8_13 := Lib.hid (Blk.ext HB8_12.out e13)
      clear e13 c6_0 c6_1 c6_2 c8_0 c8_1
      have c7_0 := HB7_13.out.cell 0 rfl
      have c7_1 := HB7_13.out.cell 1 rfl
      have c7_2 := HB7_13.out.cell 2 rfl
      have c8_0 := HB8_13.out.cell 0 rfl
      have c8_1 := HB8_13.out.cell 1 rfl
      go_wp2_with fail
      refine (val_0 M P _ (HG.out.ext HX13.out) HPO.out.2 HM.out HP.out (by decide) (by decide)).mono ?_; rintro e w14 ⟨rfl, e14⟩
      have HX14 : Hid (Ext w w14) := Lib.hid (HX13.out.trans e14)
      have HB4_14 := Lib.hid (Blk.ext HB4_13.out e14)
      have HB5_14 := Lib.hid (Blk.ext HB5_13.out e14)
      have HB6_14 := Lib.hid (Blk.ext HB6_13.out e14)
      clear e14 c7_0 c7_1 c7_2 c8_0 c8_1
      go_wp2_with fail
      go_meet
      exact ⟨rfl, HX14.out, HB4_14.out, HB5_14.out, HB6_14.out⟩
    · skip
      go_wp2_with fail
      go_meet
      exact ⟨rfl, HX12.out, HB4_12.out, HB5_12.out, HB6_12.out⟩
  obtain ⟨rfl, e13, bB4_13, bB5_13, bB6_13⟩ := hcut
  rename World => w13
  have HX13 := Lib.hid e13; have HB4_13 := Lib.hid bB4_13; have HB5_13 := Lib.hid bB5_13; have HB6_13 := Lib.hid bB6_13
  clear e13 bB4_13 bB5_13 bB6_13
  have c6_0 := HB6_13.out.cell 0 rfl
  have c6_1 := HB6_13.out.cell 1 rfl
  have c6_2 := HB6_13.out.cell 2 rfl
  have c4_0 := HB4_13.out.cell 0 rfl
  have c4_1 := HB4_13.out.cell 1 rfl
  have c5_0 := HB5_13.out.cell 0 rfl
  have c5_1 := HB5_13.out.cell 1 rfl
  go_wp2_with fail
  refine (lcut_k L c d U V K _ (HG.out.ext HX13.out) HUE.out HVE.out HKE.out HL.out Hc.out Hd.out HLZ.out HNE.out HPL.out HK.out).mono ?_; rintro e w14 ⟨rfl, e14⟩
  have HX14 : Hid (Ext w w14) := Lib.hid (HX13.out.trans e14)
  have HB4_14 := Lib.hid (Blk.ext HB4_13.out e14)
  have HB5_14 := Lib.hid (Blk.ext HB5_13.out e14)
  have HB6_14 := Lib.hid (Blk.ext HB6_13.out e14)
  clear e14 c6_0 c6_1 c6_2 c4_0 c4_1 c5_0 c5_1
  go_wp2_with fail
  refine wp_name (fun W => Ext w W ∧ Blk W (i4) #[.string (qs c.x), .string (qs c.y)] 62 ∧ Blk W (i5) #[.string (qs d.x), .string (qs d.y)] 62 ∧ Blk W (w4.heap.size) #[.string (qs L.x), .string (qs L.y), .string (qs L.z)] 73) ⟨HX14.out, HB4_14.out, HB5_14.out, HB6_14.out⟩ ?_
  rintro w15 ⟨e15, bB4_15, bB5_15, bB6_15⟩
  have HX15 := Lib.hid e15; have HB4_15 := Lib.hid bB4_15; have HB5_15 := Lib.hid bB5_15; have HB6_15 := Lib.hid bB6_15
  clear e15 bB4_15 bB5_15 bB6_15
  refine region_lin [.val (.pointer (some ⟨w4.heap.size, 0, none⟩)), .val (.string (qs L.x)), .val (.pointer (some ⟨w4.heap.size, 1, none⟩)), .val (.string (qs L.y)), .val (.pointer (some ⟨w4.heap.size, 2, none⟩)), .val (.string (qs L.z)), .val (.agg #[.string (qs c.x), .string (qs c.y)]), .val (.string ⟨#[48]⟩), .val (.pointer (some ⟨w4.heap.size, 0, none⟩)), .val (.string (qs L.x)), .val (.pointer (some ⟨w4.heap.size, 1, none⟩)), .val (.string (qs L.y)), .val (.pointer (some ⟨w4.heap.size, 2, none⟩)), .val (.string (qs L.z)), .val (.agg #[.string (qs d.x), .string (qs d.y)]), .val (.string (qs V)), .val (.string ⟨#[48]⟩), .val (.string (qs V))] (by kernel_rfl) (by kernel_rfl) (by kernel_rfl) ?_ (fun g15 w16 hx_ hm_ hne_ => ?_)
  · skip
    refine RnL.cons (fun g15 A_ W_ hs_ => ?_) ?_
    · have q9_ := (hs_.old 9 (by kernel_rfl) : A_.tmps[9]?.getD undef = .pointer (some ⟨w4.heap.size, 0, none⟩))
      refine Rn.val fun K_ hK_ => ?_
      go_simp
      exact hK_.out _ (Ext.refl _)
    refine RnL.cons (fun g15 A_ W_ hs_ => ?_) ?_
    · have q164_ := hs_.val 0 rfl rfl rfl
      have cB6_0 := (HB6_15.out.drew.ext hs_.1).cell 0 rfl
      refine Rn.val fun K_ hK_ => ?_
      go_simp
      exact hK_.out _ (Ext.refl _)
    refine RnL.cons (fun g15 A_ W_ hs_ => ?_) ?_
    · have q9_ := (hs_.old 9 (by kernel_rfl) : A_.tmps[9]?.getD undef = .pointer (some ⟨w4.heap.size, 0, none⟩))
      refine Rn.val fun K_ hK_ => ?_
      go_simp
      exact hK_.out _ (Ext.refl _)
    refine RnL.cons (fun g15 A_ W_ hs_ => ?_) ?_
    · have q166_ := hs_.val 2 rfl rfl rfl
      have cB6_1 := (HB6_15.out.drew.ext hs_.1).cell 1 rfl
      refine Rn.val fun K_ hK_ => ?_
      go_simp
      exact hK_.out _ (Ext.refl _)
    refine RnL.cons (fun g15 A_ W_ hs_ => ?_) ?_
    · have q9_ := (hs_.old 9 (by kernel_rfl) : A_.tmps[9]?.getD undef = .pointer (some ⟨w4.heap.size, 0, none⟩))
      refine Rn.val fun K_ hK_ => ?_
      go_simp
      exact hK_.out _ (Ext.refl _)
    refine RnL.cons (fun g15 A_ W_ hs_ => ?_) ?_
    · have q168_ := hs_.val 4 rfl rfl rfl
      have cB6_2 := (HB6_15.out.drew.ext hs_.1).cell 2 rfl
      refine Rn.val fun K_ hK_ => ?_
      go_simp
      exact hK_.out _ (Ext.refl _)
    refine RnL.cons (fun g15 A_ W_ hs_ => ?_) ?_
    · have q7_ := (hs_.old 7 (by kernel_rfl) : A_.tmps[7]?.getD undef = .pointer (some ⟨i4, 0, none⟩))
      have cB4_0 := (HB4_15.out.drew.ext hs_.1).cell 0 rfl
      have cB4_1 := (HB4_15.out.drew.ext hs_.1).cell 1 rfl
      refine Rn.val fun K_ hK_ => ?_
      go_simp
      exact hK_.out _ (Ext.refl _)
    refine RnL.cons (fun g15 A_ W_ hs_ => ?_) ?_
    · have q165_ := hs_.val 1 rfl rfl rfl
      have q167_ := hs_.val 3 rfl rfl rfl
      have q169_ := hs_.val 5 rfl rfl rfl
      have q170_ := hs_.val 6 rfl rfl rfl
      refine Rn.val fun K_ hK_ => ?_
      go_simp
      refine (val_0 L c _ (HG.out.ext (HX15.out.drew.trans hs_.1)) (HUE.out.trans HCT.out.1) HL.out Hc.out (by decide) (by decide)).mono ?_; rintro e W9_ ⟨rfl, e9_⟩; exact hK_.out _ e9_
    refine RnL.cons (fun g15 A_ W_ hs_ => ?_) ?_
    · have q9_ := (hs_.old 9 (by kernel_rfl) : A_.tmps[9]?.getD undef = .pointer (some ⟨w4.heap.size, 0, none⟩))
      refine Rn.val fun K_ hK_ => ?_
      go_simp
      exact hK_.out _ (Ext.refl _)
    refine RnL.cons (fun g15 A_ W_ hs_ => ?_) ?_
    · have q172_ := hs_.val 8 rfl rfl rfl
      have cB6_0 := (HB6_15.out.drew.ext hs_.1).cell 0 rfl
      refine Rn.val fun K_ hK_ => ?_
      go_simp
      exact hK_.out _ (Ext.refl _)
    refine RnL.cons (fun g15 A_ W_ hs_ => ?_) ?_
    · have q9_ := (hs_.old 9 (by kernel_rfl) : A_.tmps[9]?.getD undef = .pointer (some ⟨w4.heap.size, 0, none⟩))
      refine Rn.val fun K_ hK_ => ?_
      go_simp
      exact hK_.out _ (Ext.refl _)
    refine RnL.cons (fun g15 A_ W_ hs_ => ?_) ?_
    · have q174_ := hs_.val 10 rfl rfl rfl
      have cB6_1 := (HB6_15.out.drew.ext hs_.1).cell 1 rfl
      refine Rn.val fun K_ hK_ => ?_
      go_simp
      exact hK_.out _ (Ext.refl _)
    refine RnL.cons (fun g15 A_ W_ hs_ => ?_) ?_
    · have q9_ := (hs_.old 9 (by kernel_rfl) : A_.tmps[9]?.getD undef = .pointer (some ⟨w4.heap.size, 0, none⟩))
      refine Rn.val fun K_ hK_ => ?_
      go_simp
      exact hK_.out _ (Ext.refl _)
    refine RnL.cons (fun g15 A_ W_ hs_ => ?_) ?_
    · have q176_ := hs_.val 12 rfl rfl rfl
      have cB6_2 := (HB6_15.out.drew.ext hs_.1).cell 2 rfl
      refine Rn.val fun K_ hK_ => ?_
      go_simp
      exact hK_.out _ (Ext.refl _)
    refine RnL.cons (fun g15 A_ W_ hs_ => ?_) ?_
    · have q8_ := (hs_.old 8 (by kernel_rfl) : A_.tmps[8]?.getD undef = .pointer (some ⟨i5, 0, none⟩))
      have cB5_0 := (HB5_15.out.drew.ext hs_.1).cell 0 rfl
      have cB5_1 := (HB5_15.out.drew.ext hs_.1).cell 1 rfl
      refine Rn.val fun K_ hK_ => ?_
      go_simp
      exact hK_.out _ (Ext.refl _)
    refine RnL.cons (fun g15 A_ W_ hs_ => ?_) ?_
    · have q173_ := hs_.val 9 rfl rfl rfl
      have q175_ := hs_.val 11 rfl rfl rfl
      have q177_ := hs_.val 13 rfl rfl rfl
      have q178_ := hs_.val 14 rfl rfl rfl
      refine Rn.val fun K_ hK_ => ?_
      go_simp
      refine (val_u L d V _ (HG.out.ext (HX15.out.drew.trans hs_.1)) HVE.out HL.out Hd.out (by decide) (by decide)).mono ?_; rintro e W9_ ⟨rfl, e9_⟩; exact hK_.out _ e9_
    refine RnL.cons (fun g15 A_ W_ hs_ => ?_) ?_
    · have q171_ := hs_.val 7 rfl rfl rfl
      refine Rn.val fun K_ hK_ => ?_
      go_simp
      exact hK_.out _ (Ext.refl _)
    refine RnL.cons (fun g15 A_ W_ hs_ => ?_) ?_
    · have q179_ := hs_.val 15 rfl rfl rfl
      refine Rn.val fun K_ hK_ => ?_
      go_simp
      exact hK_.out _ (Ext.refl _)
    exact RnL.nil
  simp only [fs, Kd.value, puts, Act.put, List.setIfInBounds_toArray, List.set_cons_zero, List.set_cons_succ]
  have HX16 : Hid (Ext w w16) := Lib.hid (HX15.out.drew.trans hx_)
  have HB4_16 := Lib.hid (HB4_15.out.drew.ext hx_)
  have HB5_16 := Lib.hid (HB5_15.out.drew.ext hx_)
  have HB6_16 := Lib.hid (HB6_15.out.drew.ext hx_)
  clear hx_ hm_ hne_
  go_wp2_with fail
  refine (sign_0 _).mono ?_; rintro e _ ⟨rfl, rfl⟩
  go_wp2_with fail
  refine (fqsign_c V _).mono ?_; rintro e _ ⟨rfl, rfl⟩
  go_wp2_with fail
  refine wp_name (fun W => Ext w W ∧ Blk W (i4) #[.string (qs c.x), .string (qs c.y)] 62 ∧ Blk W (i5) #[.string (qs d.x), .string (qs d.y)] 62 ∧ Blk W (w4.heap.size) #[.string (qs L.x), .string (qs L.y), .string (qs L.z)] 73) ⟨HX16.out, HB4_16.out, HB5_16.out, HB6_16.out⟩ ?_
  rintro w17 ⟨e17, bB4_17, bB5_17, bB6_17⟩
  have HX17 := Lib.hid e17; have HB4_17 := Lib.hid bB4_17; have HB5_17 := Lib.hid bB5_17; have HB6_17 := Lib.hid bB6_17
  clear e17 bB4_17 bB5_17 bB6_17
  refine region_lin [.val (.bool true), .val (.bool false), .val (.bool false), .off, .off, .val (.bool false), .val (.bool false), .off, .off, .off, .off, .off, .off, .val (.bool false), .val (.bool false), .val (.bool true), .val (.bool true), .val (.string (qs K)), .val (.bool true), .val (.bool true), .val (.bool true), .val (.pointer (some ⟨w4.heap.size, 0, none⟩)), .val (.string (qs L.x)), .val (.pointer (some ⟨w4.heap.size, 1, none⟩)), .val (.string (qs L.y)), .val (.pointer (some ⟨w4.heap.size, 2, none⟩)), .val (.string (qs L.z)), .val (.agg #[.string (qs c.x), .string (qs c.y)]), .val (.agg #[.string (qs d.x), .string (qs d.y)]), .val (.string (qs K)), .val (.agg #[.string (qs (c.x + K * (d.x - c.x))), .string (qs (c.y + K * (d.y - c.y)))]), .val (.string ⟨#[48]⟩), .val (.bool true), .val (.bool true), .val (.bool true), .val (.bool true)] (by kernel_rfl) (by kernel_rfl) (by kernel_rfl) ?_ (fun g17 w18 hx_ hm_ hne_ => ?_)
  · skip
    refine RnL.cons (fun g17 A_ W_ hs_ => ?_) ?_
    · have q18_ := (hs_.old 18 (by kernel_rfl) : A_.tmps[18]?.getD undef = .bool true)
      refine Rn.val fun K_ hK_ => ?_
      go_simp
      exact hK_.out _ (Ext.refl _)
    refine RnL.cons (fun g17 A_ W_ hs_ => ?_) ?_
    · have q202_ := hs_.val 0 rfl rfl rfl
      refine Rn.val fun K_ hK_ => ?_
      go_simp
      exact hK_.out _ (Ext.refl _)
    refine RnL.cons (fun g17 A_ W_ hs_ => ?_) ?_
    · have q203_ := hs_.val 1 rfl rfl rfl
      refine Rn.val fun K_ hK_ => ?_
      go_simp
      exact hK_.out _ (Ext.refl _)
    refine RnL.cons (fun g17 A_ W_ hs_ => ?_) ?_
    · exact Rn.off
    refine RnL.cons (fun g17 A_ W_ hs_ => ?_) ?_
    · exact Rn.off
    refine RnL.cons (fun g17 A_ W_ hs_ => ?_) ?_
    · have q204_ := hs_.val 2 rfl rfl rfl
      have q206_ := hs_.un 4 rfl rfl rfl
      refine Rn.val fun K_ hK_ => ?_
      go_simp
      exact hK_.out _ (Ext.refl _)
    refine RnL.cons (fun g17 A_ W_ hs_ => ?_) ?_
    · have q207_ := hs_.val 5 rfl rfl rfl
      refine Rn.val fun K_ hK_ => ?_
      go_simp
      exact hK_.out _ (Ext.refl _)
    refine RnL.cons (fun g17 A_ W_ hs_ => ?_) ?_
    · exact Rn.off
    refine RnL.cons (fun g17 A_ W_ hs_ => ?_) ?_
    · exact Rn.off
    refine RnL.cons (fun g17 A_ W_ hs_ => ?_) ?_
    · exact Rn.off
    refine RnL.cons (fun g17 A_ W_ hs_ => ?_) ?_
    · exact Rn.off
    refine RnL.cons (fun g17 A_ W_ hs_ => ?_) ?_
    · exact Rn.off
    refine RnL.cons (fun g17 A_ W_ hs_ => ?_) ?_
    · exact Rn.off
    refine RnL.cons (fun g17 A_ W_ hs_ => ?_) ?_
    · have q208_ := hs_.val 6 rfl rfl rfl
      have q214_ := hs_.un 12 rfl rfl rfl
      refine Rn.val fun K_ hK_ => ?_
      go_simp
      exact hK_.out _ (Ext.refl _)
    refine RnL.cons (fun g17 A_ W_ hs_ => ?_) ?_
    · have q215_ := hs_.val 13 rfl rfl rfl
      refine Rn.val fun K_ hK_ => ?_
      go_simp
      exact hK_.out _ (Ext.refl _)
    refine RnL.cons (fun g17 A_ W_ hs_ => ?_) ?_
    · have q18_ := (hs_.old 18 (by kernel_rfl) : A_.tmps[18]?.getD undef = .bool true)
      refine Rn.val fun K_ hK_ => ?_
      go_simp
      exact hK_.out _ (Ext.refl _)
    refine RnL.cons (fun g17 A_ W_ hs_ => ?_) ?_
    · have q217_ := hs_.val 15 rfl rfl rfl
      refine Rn.val fun K_ hK_ => ?_
      go_simp
      exact hK_.out _ (Ext.refl _)
    refine RnL.cons (fun g17 A_ W_ hs_ => ?_) ?_
    · have q17_ := (hs_.old 17 (by kernel_rfl) : A_.tmps[17]?.getD undef = .string (qs K))
      refine Rn.val fun K_ hK_ => ?_
      go_simp
      exact hK_.out _ (Ext.refl _)
    refine RnL.cons (fun g17 A_ W_ hs_ => ?_) ?_
    · have q219_ := hs_.val 17 rfl rfl rfl
      refine Rn.val fun K_ hK_ => ?_
      go_simp
      refine (sin_t K _ (HG.out.ext (HX17.out.drew.trans hs_.1)) HK.out (by decide) (by decide) HKI.out).mono ?_; rintro e W9_ ⟨rfl, e9_⟩; exact hK_.out _ e9_
    refine RnL.cons (fun g17 A_ W_ hs_ => ?_) ?_
    · have q218_ := hs_.val 16 rfl rfl rfl
      have q220_ := hs_.val 18 rfl rfl rfl
      refine Rn.val fun K_ hK_ => ?_
      go_simp
      exact hK_.out _ (Ext.refl _)
    refine RnL.cons (fun g17 A_ W_ hs_ => ?_) ?_
    · have q221_ := hs_.val 19 rfl rfl rfl
      refine Rn.val fun K_ hK_ => ?_
      go_simp
      exact hK_.out _ (Ext.refl _)
    refine RnL.cons (fun g17 A_ W_ hs_ => ?_) ?_
    · have q9_ := (hs_.old 9 (by kernel_rfl) : A_.tmps[9]?.getD undef = .pointer (some ⟨w4.heap.size, 0, none⟩))
      refine Rn.val fun K_ hK_ => ?_
      go_simp
      exact hK_.out _ (Ext.refl _)
    refine RnL.cons (fun g17 A_ W_ hs_ => ?_) ?_
    · have q223_ := hs_.val 21 rfl rfl rfl
      have cB6_0 := (HB6_17.out.drew.ext hs_.1).cell 0 rfl
      refine Rn.val fun K_ hK_ => ?_
      go_simp
      exact hK_.out _ (Ext.refl _)
    refine RnL.cons (fun g17 A_ W_ hs_ => ?_) ?_
    · have q9_ := (hs_.old 9 (by kernel_rfl) : A_.tmps[9]?.getD undef = .pointer (some ⟨w4.heap.size, 0, none⟩))
      refine Rn.val fun K_ hK_ => ?_
      go_simp
      exact hK_.out _ (Ext.refl _)
    refine RnL.cons (fun g17 A_ W_ hs_ => ?_) ?_
    · have q225_ := hs_.val 23 rfl rfl rfl
      have cB6_1 := (HB6_17.out.drew.ext hs_.1).cell 1 rfl
      refine Rn.val fun K_ hK_ => ?_
      go_simp
      exact hK_.out _ (Ext.refl _)
    refine RnL.cons (fun g17 A_ W_ hs_ => ?_) ?_
    · have q9_ := (hs_.old 9 (by kernel_rfl) : A_.tmps[9]?.getD undef = .pointer (some ⟨w4.heap.size, 0, none⟩))
      refine Rn.val fun K_ hK_ => ?_
      go_simp
      exact hK_.out _ (Ext.refl _)
    refine RnL.cons (fun g17 A_ W_ hs_ => ?_) ?_
    · have q227_ := hs_.val 25 rfl rfl rfl
      have cB6_2 := (HB6_17.out.drew.ext hs_.1).cell 2 rfl
      refine Rn.val fun K_ hK_ => ?_
      go_simp
      exact hK_.out _ (Ext.refl _)
    refine RnL.cons (fun g17 A_ W_ hs_ => ?_) ?_
    · have q7_ := (hs_.old 7 (by kernel_rfl) : A_.tmps[7]?.getD undef = .pointer (some ⟨i4, 0, none⟩))
      have cB4_0 := (HB4_17.out.drew.ext hs_.1).cell 0 rfl
      have cB4_1 := (HB4_17.out.drew.ext hs_.1).cell 1 rfl
      refine Rn.val fun K_ hK_ => ?_
      go_simp
      exact hK_.out _ (Ext.refl _)
    refine RnL.cons (fun g17 A_ W_ hs_ => ?_) ?_
    · have q8_ := (hs_.old 8 (by kernel_rfl) : A_.tmps[8]?.getD undef = .pointer (some ⟨i5, 0, none⟩))
      have cB5_0 := (HB5_17.out.drew.ext hs_.1).cell 0 rfl
      have cB5_1 := (HB5_17.out.drew.ext hs_.1).cell 1 rfl
      refine Rn.val fun K_ hK_ => ?_
      go_simp
      exact hK_.out _ (Ext.refl _)
    refine RnL.cons (fun g17 A_ W_ hs_ => ?_) ?_
    · have q17_ := (hs_.old 17 (by kernel_rfl) : A_.tmps[17]?.getD undef = .string (qs K))
      refine Rn.val fun K_ hK_ => ?_
      go_simp
      exact hK_.out _ (Ext.refl _)
    refine RnL.cons (fun g17 A_ W_ hs_ => ?_) ?_
    · have q229_ := hs_.val 27 rfl rfl rfl
      have q230_ := hs_.val 28 rfl rfl rfl
      have q231_ := hs_.val 29 rfl rfl rfl
      refine Rn.val fun K_ hK_ => ?_
      go_simp
      refine (stoward_x c d K _ (HG.out.ext (HX17.out.drew.trans hs_.1)) Hc.out Hd.out HK.out (by omega) (by omega)).mono ?_; rintro e W9_ ⟨rfl, e9_⟩; exact hK_.out _ e9_
    refine RnL.cons (fun g17 A_ W_ hs_ => ?_) ?_
    · have q224_ := hs_.val 22 rfl rfl rfl
      have q226_ := hs_.val 24 rfl rfl rfl
      have q228_ := hs_.val 26 rfl rfl rfl
      have q232_ := hs_.val 30 rfl rfl rfl
      refine Rn.val fun K_ hK_ => ?_
      go_simp
      refine (val_0 L ⟨c.x + K * (d.x - c.x), c.y + K * (d.y - c.y)⟩ _ (HG.out.ext (HX17.out.drew.trans hs_.1)) HKA.out HL.out (⟨((Hc.out.x.add (HK.out.mul (Hd.out.x.sub Hc.out.x))).mono (by decide)), ((Hc.out.y.add (HK.out.mul (Hd.out.y.sub Hc.out.y))).mono (by decide))⟩ : PB 400 _) (by decide) (by decide)).mono ?_; rintro e W9_ ⟨rfl, e9_⟩; exact hK_.out _ e9_
    refine RnL.cons (fun g17 A_ W_ hs_ => ?_) ?_
    · have q233_ := hs_.val 31 rfl rfl rfl
      refine Rn.val fun K_ hK_ => ?_
      go_simp
      exact hK_.out _ (Ext.refl _)
    refine RnL.cons (fun g17 A_ W_ hs_ => ?_) ?_
    · have q222_ := hs_.val 20 rfl rfl rfl
      have q234_ := hs_.val 32 rfl rfl rfl
      refine Rn.val fun K_ hK_ => ?_
      go_simp
      exact hK_.out _ (Ext.refl _)
    refine RnL.cons (fun g17 A_ W_ hs_ => ?_) ?_
    · have q216_ := hs_.val 14 rfl rfl rfl
      have q235_ := hs_.val 33 rfl rfl rfl
      refine Rn.val fun K_ hK_ => ?_
      go_simp
      exact hK_.out _ (Ext.refl _)
    refine RnL.cons (fun g17 A_ W_ hs_ => ?_) ?_
    · have q236_ := hs_.val 34 rfl rfl rfl
      refine Rn.val fun K_ hK_ => ?_
      go_simp
      exact hK_.out _ (Ext.refl _)
    exact RnL.nil
  simp only [fs, Kd.value, puts, Act.put, List.setIfInBounds_toArray, List.set_cons_zero, List.set_cons_succ]
  have HX18 : Hid (Ext w w18) := Lib.hid (HX17.out.drew.trans hx_)
  clear hx_ hm_ hne_
  go_wp2
  go_ret
  exact ⟨rfl, HX18.out⟩

set_option maxRecDepth 100000 in
set_option maxHeartbeats 16000000 in
theorem lines_walk_K1 (p q r s : Pla) (w : World) (g : Gd w) (hp : PlaOk p) (hq : PlaOk q) (hr : PlaOk r) (hs : PlaOk s) (hab : ppt p ≠ ppt q) (hcd : ppt r ≠ ppt s) (hct : lex (lthru (ppt p) (ppt q)) (ppt r) ≠ lex (lthru (ppt p) (ppt q)) (ppt s) ∧ lex (lthru (ppt p) (ppt q)) (ppt r) ≠ 0 ∧ (lex (lthru (ppt p) (ppt q)) (ppt r)).num.sign * (lex (lthru (ppt p) (ppt q)) (ppt s)).num.sign ≤ 0) : Calls Tryz.prog 7 #[.agg #[.int .i16 p.n0, .int .u8 (p.d0 : Int), .int .i16 p.n1, .int .u8 (p.d1 : Int), .int .i16 p.n2, .int .u8 (p.d2 : Int), .int .i16 q.n0, .int .u8 (q.d0 : Int), .int .i16 q.n1, .int .u8 (q.d1 : Int), .int .i16 q.n2, .int .u8 (q.d2 : Int)], .agg #[.int .i16 r.n0, .int .u8 (r.d0 : Int), .int .i16 r.n1, .int .u8 (r.d1 : Int), .int .i16 r.n2, .int .u8 (r.d2 : Int), .int .i16 s.n0, .int .u8 (s.d0 : Int), .int .i16 s.n1, .int .u8 (s.d1 : Int), .int .i16 s.n2, .int .u8 (s.d2 : Int)]] w (Ret w (.bool true)) := by
  have Hp := Lib.hid hp
  have Hq := Lib.hid hq
  have Hr := Lib.hid hr
  have Hs := Lib.hid hs
  have HG := Lib.hid g
  clear hp hq hr hs g
  have HCT0 := Lib.hid hct; clear hct
  have HAB0 := Lib.hid hab; have HCD0 := Lib.hid hcd; clear hab hcd
  obtain ⟨a, ea⟩ : ∃ a, ppt p = a := ⟨_, rfl⟩
  have HaE := Lib.hid ea; have Ha : Hid (PB 5 a) := Lib.hid (ea ▸ Hp.out.p); have HaD : Hid (PD 5 3 a) := Lib.hid (ea ▸ Hp.out.pd); clear ea
  obtain ⟨b, eb⟩ : ∃ b, ppt q = b := ⟨_, rfl⟩
  have HbE := Lib.hid eb; have Hb : Hid (PB 5 b) := Lib.hid (eb ▸ Hq.out.p); have HbD : Hid (PD 5 3 b) := Lib.hid (eb ▸ Hq.out.pd); clear eb
  obtain ⟨c, ec⟩ : ∃ c, ppt r = c := ⟨_, rfl⟩
  have HcE := Lib.hid ec; have Hc : Hid (PB 5 c) := Lib.hid (ec ▸ Hr.out.p); have HcD : Hid (PD 5 3 c) := Lib.hid (ec ▸ Hr.out.pd); clear ec
  obtain ⟨d, ed⟩ : ∃ d, ppt s = d := ⟨_, rfl⟩
  have HdE := Lib.hid ed; have Hd : Hid (PB 5 d) := Lib.hid (ed ▸ Hs.out.p); have HdD : Hid (PD 5 3 d) := Lib.hid (ed ▸ Hs.out.pd); clear ed
  have HAB : Hid (a ≠ b) := Lib.hid (by have h := HAB0.out; rw [HaE.out, HbE.out] at h; exact h)
  have HCD : Hid (c ≠ d) := Lib.hid (by have h := HCD0.out; rw [HcE.out, HdE.out] at h; exact h)
  obtain ⟨L, eL⟩ : ∃ L, lthru a b = L := ⟨_, rfl⟩
  have HLE := Lib.hid eL; have HLD : Hid (LDd L) := Lib.hid (eL ▸ lthru_d HaD.out HbD.out); have HL : Hid (VB 24 L) := Lib.hid HLD.out.vb; have HLZ : Hid (¬ (L.x = 0 ∧ L.y = 0)) := Lib.hid (eL ▸ lthru_ne HAB.out); clear eL
  obtain ⟨M, eM⟩ : ∃ M, lthru c d = M := ⟨_, rfl⟩
  have HME := Lib.hid eM; have HMD : Hid (LDd M) := Lib.hid (eM ▸ lthru_d HcD.out HdD.out); have HM : Hid (VB 24 M) := Lib.hid HMD.out.vb; have HMZ : Hid (¬ (M.x = 0 ∧ M.y = 0)) := Lib.hid (eM ▸ lthru_ne HCD.out); clear eM
  obtain ⟨F, px, py, hF, hpq, hM⟩ := meet_ex L M HLD.out HMD.out HLZ.out HMZ.out
  have HF := Lib.hid hF; have HMT := Lib.hid hM; clear hF hM
  obtain ⟨m1, e1⟩ : ∃ m, qs (L.x * M.y) = m := ⟨_, rfl⟩
  obtain ⟨m2, e2⟩ : ∃ m, qs (L.y * M.x) = m := ⟨_, rfl⟩
  have hm_t : (m1.toList == m2.toList) = !F := by rw [← e1, ← e2]; exact hpq
  have HM1 := Lib.hid e1; have HM2 := Lib.hid e2; clear e1 e2 hpq
  obtain ⟨U, eU⟩ : ∃ U, lex L c = U := ⟨_, rfl⟩
  have HUE := Lib.hid eU; have HUD : Hid (QD 43 36 U) := Lib.hid (eU ▸ lex_d HLD.out HcD.out); have HU : Hid (QB 43 U) := Lib.hid (HUD.out.qb (by decide) (by decide)); clear eU
  obtain ⟨V, eV⟩ : ∃ V, lex L d = V := ⟨_, rfl⟩
  have HVE := Lib.hid eV; have HVD : Hid (QD 43 36 V) := Lib.hid (eV ▸ lex_d HLD.out HdD.out); have HV : Hid (QB 43 V) := Lib.hid (HVD.out.qb (by decide) (by decide)); clear eV
  have HCT : Hid (U ≠ V ∧ U ≠ 0 ∧ U.num.sign * V.num.sign ≤ 0) := Lib.hid (by have h := HCT0.out; rw [HaE.out, HbE.out, HcE.out, HdE.out, HLE.out] at h; rw [HUE.out, HVE.out] at h; exact h)
  have HNE : Hid (U ≠ V) := Lib.hid HCT.out.1
  have HPL : Hid (U.num.sign * V.num.sign ≤ 0) := Lib.hid HCT.out.2.2
  obtain ⟨K, eK⟩ : ∃ K, U / (U - V) = K := ⟨_, rfl⟩
  have HKE := Lib.hid eK; have HK : Hid (QB 120 K) := Lib.hid (eK ▸ cutk_b HUD.out HVD.out); clear eK
  have HKI := Lib.hid (lcut_in HKE.out HNE.out HPL.out); have HKA := Lib.hid (lcut_at HUE.out HVE.out HKE.out HNE.out)
  have hpb := sgn_bd U V
  have hp1 := hpb.1; have hp2 := hpb.2; clear hpb
  have hpp : U.num.sign * V.num.sign ≤ 0 := HPL.out
  have hu := HCT.out.2.1
  have hu_t := qs_not0 hu
  clear hu
  go_enter Tryz.func7, Tryz.ntmps7
  go_wp2_with fail
  refine (known_c _ (HG.out.ext (((Ext.refl w).alloc _).alloc _))).mono ?_; rintro e w1 ⟨rfl, e1⟩
  have HX1 : Hid (Ext w w1) := Lib.hid ((((Ext.refl w).alloc _).alloc _).trans e1)
  have HB0_1 : Hid (Blk w1 (w.heap.size) #[.int .i16 p.n0, .int .u8 (p.d0 : Int), .int .i16 p.n1, .int .u8 (p.d1 : Int), .int .i16 p.n2, .int .u8 (p.d2 : Int), .int .i16 q.n0, .int .u8 (q.d0 : Int), .int .i16 q.n1, .int .u8 (q.d1 : Int), .int .i16 q.n2, .int .u8 (q.d2 : Int)] 44) := Lib.hid (Blk.ext ((Blk.new' (w := _) (cs := #[.int .i16 p.n0, .int .u8 (p.d0 : Int), .int .i16 p.n1, .int .u8 (p.d1 : Int), .int .i16 p.n2, .int .u8 (p.d2 : Int), .int .i16 q.n0, .int .u8 (q.d0 : Int), .int .i16 q.n1, .int .u8 (q.d1 : Int), .int .i16 q.n2, .int .u8 (q.d2 : Int)]) (t := 44) (by first | rfl | (simp only [World.size_alloc]; done) | (simp only [World.size_alloc]; omega) | simp)).alloc _) e1)
  have HB1_1 : Hid (Blk w1 (w.heap.size + 1) #[.int .i16 r.n0, .int .u8 (r.d0 : Int), .int .i16 r.n1, .int .u8 (r.d1 : Int), .int .i16 r.n2, .int .u8 (r.d2 : Int), .int .i16 s.n0, .int .u8 (s.d0 : Int), .int .i16 s.n1, .int .u8 (s.d1 : Int), .int .i16 s.n2, .int .u8 (s.d2 : Int)] 44) := Lib.hid (Blk.ext (Blk.new' (w := _) (cs := #[.int .i16 r.n0, .int .u8 (r.d0 : Int), .int .i16 r.n1, .int .u8 (r.d1 : Int), .int .i16 r.n2, .int .u8 (r.d2 : Int), .int .i16 s.n0, .int .u8 (s.d0 : Int), .int .i16 s.n1, .int .u8 (s.d1 : Int), .int .i16 s.n2, .int .u8 (s.d2 : Int)]) (t := 44) (by first | rfl | (simp only [World.size_alloc]; done) | (simp only [World.size_alloc]; omega) | simp)) e1)
  have HGEB0 : Hid (w.heap.size ≤ w.heap.size) := Lib.hid (by first | omega | (simp only []; omega) | (simp; omega))
  have HGEB1 : Hid (w.heap.size ≤ w.heap.size + 1) := Lib.hid (by first | omega | (simp only []; omega) | (simp; omega))
  clear e1
  go_wp2_with fail
  refine wp_name (fun W => Ext w W ∧ Blk W (w.heap.size) #[.int .i16 p.n0, .int .u8 (p.d0 : Int), .int .i16 p.n1, .int .u8 (p.d1 : Int), .int .i16 p.n2, .int .u8 (p.d2 : Int), .int .i16 q.n0, .int .u8 (q.d0 : Int), .int .i16 q.n1, .int .u8 (q.d1 : Int), .int .i16 q.n2, .int .u8 (q.d2 : Int)] 44 ∧ Blk W (w.heap.size + 1) #[.int .i16 r.n0, .int .u8 (r.d0 : Int), .int .i16 r.n1, .int .u8 (r.d1 : Int), .int .i16 r.n2, .int .u8 (r.d2 : Int), .int .i16 s.n0, .int .u8 (s.d0 : Int), .int .i16 s.n1, .int .u8 (s.d1 : Int), .int .i16 s.n2, .int .u8 (s.d2 : Int)] 44) ⟨HX1.out, HB0_1.out, HB1_1.out⟩ ?_
  rintro w2 ⟨e2, bB0_2, bB1_2⟩
  have HX2 := Lib.hid e2; have HB0_2 := Lib.hid bB0_2; have HB1_2 := Lib.hid bB1_2
  clear e2 bB0_2 bB1_2
  refine region_lin [.val (.pointer (some ⟨w.heap.size, 0, none⟩)), .val (.agg #[.int .i16 p.n0, .int .u8 (p.d0 : Int), .int .i16 p.n1, .int .u8 (p.d1 : Int), .int .i16 p.n2, .int .u8 (p.d2 : Int)]), .val (.agg #[.string (qs a.x), .string (qs a.y)]), .val (.pointer (some ⟨w.heap.size, 6, none⟩)), .val (.agg #[.int .i16 q.n0, .int .u8 (q.d0 : Int), .int .i16 q.n1, .int .u8 (q.d1 : Int), .int .i16 q.n2, .int .u8 (q.d2 : Int)]), .val (.agg #[.string (qs b.x), .string (qs b.y)]), .val (.pointer (some ⟨w.heap.size + 1, 0, none⟩)), .val (.agg #[.int .i16 r.n0, .int .u8 (r.d0 : Int), .int .i16 r.n1, .int .u8 (r.d1 : Int), .int .i16 r.n2, .int .u8 (r.d2 : Int)]), .val (.agg #[.string (qs c.x), .string (qs c.y)]), .val (.pointer (some ⟨w.heap.size + 1, 6, none⟩)), .val (.agg #[.int .i16 s.n0, .int .u8 (s.d0 : Int), .int .i16 s.n1, .int .u8 (s.d1 : Int), .int .i16 s.n2, .int .u8 (s.d2 : Int)]), .val (.agg #[.string (qs d.x), .string (qs d.y)]), .mem (fun b_ => .pointer (some ⟨b_, 0, none⟩)) #[.string ⟨#[]⟩, .string ⟨#[]⟩] 62 (Option.some 16), .mem (fun b_ => .pointer (some ⟨b_, 0, none⟩)) #[.string ⟨#[]⟩, .string ⟨#[]⟩] 62 (Option.some 17), .mem (fun b_ => .pointer (some ⟨b_, 0, none⟩)) #[.string ⟨#[]⟩, .string ⟨#[]⟩] 62 (Option.some 18), .mem (fun b_ => .pointer (some ⟨b_, 0, none⟩)) #[.string ⟨#[]⟩, .string ⟨#[]⟩] 62 (Option.some 19), .put 12 #[.string (qs a.x), .string (qs a.y)], .put 13 #[.string (qs b.x), .string (qs b.y)], .put 14 #[.string (qs c.x), .string (qs c.y)], .put 15 #[.string (qs d.x), .string (qs d.y)]] (by kernel_rfl) (by kernel_rfl) (by kernel_rfl) ?_ (fun g2 w3 hx_ hm_ hne_ => ?_)
  · skip
    refine RnL.cons (fun g2 A_ W_ hs_ => ?_) ?_
    · have q2_ := (hs_.old 2 (by kernel_rfl) : A_.tmps[2]?.getD undef = .pointer (some ⟨w.heap.size, 0, none⟩))
      refine Rn.val fun K_ hK_ => ?_
      go_simp
      exact hK_.out _ (Ext.refl _)
    refine RnL.cons (fun g2 A_ W_ hs_ => ?_) ?_
    · have q25_ := hs_.val 0 rfl rfl rfl
      have cB0_0 := (HB0_2.out.drew.ext hs_.1).cell 0 rfl
      have cB0_1 := (HB0_2.out.drew.ext hs_.1).cell 1 rfl
      have cB0_2 := (HB0_2.out.drew.ext hs_.1).cell 2 rfl
      have cB0_3 := (HB0_2.out.drew.ext hs_.1).cell 3 rfl
      have cB0_4 := (HB0_2.out.drew.ext hs_.1).cell 4 rfl
      have cB0_5 := (HB0_2.out.drew.ext hs_.1).cell 5 rfl
      refine Rn.val fun K_ hK_ => ?_
      go_simp
      exact hK_.out _ (Ext.refl _)
    refine RnL.cons (fun g2 A_ W_ hs_ => ?_) ?_
    · have q26_ := hs_.val 1 rfl rfl rfl
      refine Rn.val fun K_ hK_ => ?_
      go_simp
      refine ((HaE.out ▸ point_c p _ (HG.out.ext (HX2.out.drew.trans hs_.1)) Hp.out)).mono ?_; rintro e W9_ ⟨rfl, e9_⟩; exact hK_.out _ e9_
    refine RnL.cons (fun g2 A_ W_ hs_ => ?_) ?_
    · have q2_ := (hs_.old 2 (by kernel_rfl) : A_.tmps[2]?.getD undef = .pointer (some ⟨w.heap.size, 0, none⟩))
      refine Rn.val fun K_ hK_ => ?_
      go_simp
      exact hK_.out _ (Ext.refl _)
    refine RnL.cons (fun g2 A_ W_ hs_ => ?_) ?_
    · have q28_ := hs_.val 3 rfl rfl rfl
      have cB0_6 := (HB0_2.out.drew.ext hs_.1).cell 6 rfl
      have cB0_7 := (HB0_2.out.drew.ext hs_.1).cell 7 rfl
      have cB0_8 := (HB0_2.out.drew.ext hs_.1).cell 8 rfl
      have cB0_9 := (HB0_2.out.drew.ext hs_.1).cell 9 rfl
      have cB0_10 := (HB0_2.out.drew.ext hs_.1).cell 10 rfl
      have cB0_11 := (HB0_2.out.drew.ext hs_.1).cell 11 rfl
      refine Rn.val fun K_ hK_ => ?_
      go_simp
      exact hK_.out _ (Ext.refl _)
    refine RnL.cons (fun g2 A_ W_ hs_ => ?_) ?_
    · have q29_ := hs_.val 4 rfl rfl rfl
      refine Rn.val fun K_ hK_ => ?_
      go_simp
      refine ((HbE.out ▸ point_c q _ (HG.out.ext (HX2.out.drew.trans hs_.1)) Hq.out)).mono ?_; rintro e W9_ ⟨rfl, e9_⟩; exact hK_.out _ e9_
    refine RnL.cons (fun g2 A_ W_ hs_ => ?_) ?_
    · have q3_ := (hs_.old 3 (by kernel_rfl) : A_.tmps[3]?.getD undef = .pointer (some ⟨w.heap.size + 1, 0, none⟩))
      refine Rn.val fun K_ hK_ => ?_
      go_simp
      exact hK_.out _ (Ext.refl _)
    refine RnL.cons (fun g2 A_ W_ hs_ => ?_) ?_
    · have q31_ := hs_.val 6 rfl rfl rfl
      have cB1_0 := (HB1_2.out.drew.ext hs_.1).cell 0 rfl
      have cB1_1 := (HB1_2.out.drew.ext hs_.1).cell 1 rfl
      have cB1_2 := (HB1_2.out.drew.ext hs_.1).cell 2 rfl
      have cB1_3 := (HB1_2.out.drew.ext hs_.1).cell 3 rfl
      have cB1_4 := (HB1_2.out.drew.ext hs_.1).cell 4 rfl
      have cB1_5 := (HB1_2.out.drew.ext hs_.1).cell 5 rfl
      refine Rn.val fun K_ hK_ => ?_
      go_simp
      exact hK_.out _ (Ext.refl _)
    refine RnL.cons (fun g2 A_ W_ hs_ => ?_) ?_
    · have q32_ := hs_.val 7 rfl rfl rfl
      refine Rn.val fun K_ hK_ => ?_
      go_simp
      refine ((HcE.out ▸ point_c r _ (HG.out.ext (HX2.out.drew.trans hs_.1)) Hr.out)).mono ?_; rintro e W9_ ⟨rfl, e9_⟩; exact hK_.out _ e9_
    refine RnL.cons (fun g2 A_ W_ hs_ => ?_) ?_
    · have q3_ := (hs_.old 3 (by kernel_rfl) : A_.tmps[3]?.getD undef = .pointer (some ⟨w.heap.size + 1, 0, none⟩))
      refine Rn.val fun K_ hK_ => ?_
      go_simp
      exact hK_.out _ (Ext.refl _)
    refine RnL.cons (fun g2 A_ W_ hs_ => ?_) ?_
    · have q34_ := hs_.val 9 rfl rfl rfl
      have cB1_6 := (HB1_2.out.drew.ext hs_.1).cell 6 rfl
      have cB1_7 := (HB1_2.out.drew.ext hs_.1).cell 7 rfl
      have cB1_8 := (HB1_2.out.drew.ext hs_.1).cell 8 rfl
      have cB1_9 := (HB1_2.out.drew.ext hs_.1).cell 9 rfl
      have cB1_10 := (HB1_2.out.drew.ext hs_.1).cell 10 rfl
      have cB1_11 := (HB1_2.out.drew.ext hs_.1).cell 11 rfl
      refine Rn.val fun K_ hK_ => ?_
      go_simp
      exact hK_.out _ (Ext.refl _)
    refine RnL.cons (fun g2 A_ W_ hs_ => ?_) ?_
    · have q35_ := hs_.val 10 rfl rfl rfl
      refine Rn.val fun K_ hK_ => ?_
      go_simp
      refine ((HdE.out ▸ point_c s _ (HG.out.ext (HX2.out.drew.trans hs_.1)) Hs.out)).mono ?_; rintro e W9_ ⟨rfl, e9_⟩; exact hK_.out _ e9_
    refine RnL.cons (fun g2 A_ W_ hs_ => ?_) ?_
    · refine Rn.mem fun K_ hK_ => ?_
      go_simp
      exact hK_.out
    refine RnL.cons (fun g2 A_ W_ hs_ => ?_) ?_
    · refine Rn.mem fun K_ hK_ => ?_
      go_simp
      exact hK_.out
    refine RnL.cons (fun g2 A_ W_ hs_ => ?_) ?_
    · refine Rn.mem fun K_ hK_ => ?_
      go_simp
      exact hK_.out
    refine RnL.cons (fun g2 A_ W_ hs_ => ?_) ?_
    · refine Rn.mem fun K_ hK_ => ?_
      go_simp
      exact hK_.out
    refine RnL.cons (fun g2 A_ W_ hs_ => ?_) ?_
    · have q5_ := (hs_.mem 12 rfl rfl rfl).1
      have q27_ := hs_.val 2 rfl rfl rfl
      refine Rn.put (z := #[.string ⟨#[]⟩, .string ⟨#[]⟩]) (t := 62) rfl fun hB K_ hK_ => ?_
      have c_0 := hB.cell 0 rfl; have f_0 := hB.free 0
      have c_1 := hB.cell 1 rfl; have f_1 := hB.free 1
      have HB := Lib.hid hB; clear hB
      go_simp
      exact hK_.out _ (((Only.refl _ _).set 0 _).set 1 _) ((HB.out.set 0 _).set 1 _)
    refine RnL.cons (fun g2 A_ W_ hs_ => ?_) ?_
    · have q6_ := (hs_.mem 13 rfl rfl rfl).1
      have q30_ := hs_.val 5 rfl rfl rfl
      refine Rn.put (z := #[.string ⟨#[]⟩, .string ⟨#[]⟩]) (t := 62) rfl fun hB K_ hK_ => ?_
      have c_0 := hB.cell 0 rfl; have f_0 := hB.free 0
      have c_1 := hB.cell 1 rfl; have f_1 := hB.free 1
      have HB := Lib.hid hB; clear hB
      go_simp
      exact hK_.out _ (((Only.refl _ _).set 0 _).set 1 _) ((HB.out.set 0 _).set 1 _)
    refine RnL.cons (fun g2 A_ W_ hs_ => ?_) ?_
    · have q7_ := (hs_.mem 14 rfl rfl rfl).1
      have q33_ := hs_.val 8 rfl rfl rfl
      refine Rn.put (z := #[.string ⟨#[]⟩, .string ⟨#[]⟩]) (t := 62) rfl fun hB K_ hK_ => ?_
      have c_0 := hB.cell 0 rfl; have f_0 := hB.free 0
      have c_1 := hB.cell 1 rfl; have f_1 := hB.free 1
      have HB := Lib.hid hB; clear hB
      go_simp
      exact hK_.out _ (((Only.refl _ _).set 0 _).set 1 _) ((HB.out.set 0 _).set 1 _)
    refine RnL.cons (fun g2 A_ W_ hs_ => ?_) ?_
    · have q8_ := (hs_.mem 15 rfl rfl rfl).1
      have q36_ := hs_.val 11 rfl rfl rfl
      refine Rn.put (z := #[.string ⟨#[]⟩, .string ⟨#[]⟩]) (t := 62) rfl fun hB K_ hK_ => ?_
      have c_0 := hB.cell 0 rfl; have f_0 := hB.free 0
      have c_1 := hB.cell 1 rfl; have f_1 := hB.free 1
      have HB := Lib.hid hB; clear hB
      go_simp
      exact hK_.out _ (((Only.refl _ _).set 0 _).set 1 _) ((HB.out.set 0 _).set 1 _)
    exact RnL.nil
  simp only [fs, Kd.value, puts, Act.put, List.setIfInBounds_toArray, List.set_cons_zero, List.set_cons_succ, Nat.reduceAdd]
  have HX3 : Hid (Ext w w3) := Lib.hid (HX2.out.drew.trans hx_)
  have HB2_3 : Hid (Blk w3 (g2 12) #[.string (qs a.x), .string (qs a.y)] 62) := Lib.hid (hm_ 12 _ _ _ _ rfl).2; have HGEB2 : Hid (w.heap.size ≤ g2 12) := Lib.hid (Nat.le_trans HX2.out.size (hm_ 12 _ _ _ _ rfl).1)
  have HB3_3 : Hid (Blk w3 (g2 13) #[.string (qs b.x), .string (qs b.y)] 62) := Lib.hid (hm_ 13 _ _ _ _ rfl).2; have HGEB3 : Hid (w.heap.size ≤ g2 13) := Lib.hid (Nat.le_trans HX2.out.size (hm_ 13 _ _ _ _ rfl).1)
  have HB4_3 : Hid (Blk w3 (g2 14) #[.string (qs c.x), .string (qs c.y)] 62) := Lib.hid (hm_ 14 _ _ _ _ rfl).2; have HGEB4 : Hid (w.heap.size ≤ g2 14) := Lib.hid (Nat.le_trans HX2.out.size (hm_ 14 _ _ _ _ rfl).1)
  have HB5_3 : Hid (Blk w3 (g2 15) #[.string (qs d.x), .string (qs d.y)] 62) := Lib.hid (hm_ 15 _ _ _ _ rfl).2; have HGEB5 : Hid (w.heap.size ≤ g2 15) := Lib.hid (Nat.le_trans HX2.out.size (hm_ 15 _ _ _ _ rfl).1)
  have HNEB2B3 : Hid (g2 12 ≠ g2 13) := Lib.hid (hne_ 12 13 (by decide) ⟨_, _, _, _, rfl⟩ ⟨_, _, _, _, rfl⟩)
  have HNEB2B4 : Hid (g2 12 ≠ g2 14) := Lib.hid (hne_ 12 14 (by decide) ⟨_, _, _, _, rfl⟩ ⟨_, _, _, _, rfl⟩)
  have HNEB3B4 : Hid (g2 13 ≠ g2 14) := Lib.hid (hne_ 13 14 (by decide) ⟨_, _, _, _, rfl⟩ ⟨_, _, _, _, rfl⟩)
  have HNEB2B5 : Hid (g2 12 ≠ g2 15) := Lib.hid (hne_ 12 15 (by decide) ⟨_, _, _, _, rfl⟩ ⟨_, _, _, _, rfl⟩)
  have HNEB3B5 : Hid (g2 13 ≠ g2 15) := Lib.hid (hne_ 13 15 (by decide) ⟨_, _, _, _, rfl⟩ ⟨_, _, _, _, rfl⟩)
  have HNEB4B5 : Hid (g2 14 ≠ g2 15) := Lib.hid (hne_ 14 15 (by decide) ⟨_, _, _, _, rfl⟩ ⟨_, _, _, _, rfl⟩)
  clear hx_ hm_ hne_
  generalize g2 12 = i2 at *
  generalize g2 13 = i3 at *
  generalize g2 14 = i4 at *
  generalize g2 15 = i5 at *
  clear g2
  have c2_0 := HB2_3.out.cell 0 rfl
  have c2_1 := HB2_3.out.cell 1 rfl
  have c3_0 := HB3_3.out.cell 0 rfl
  have c3_1 := HB3_3.out.cell 1 rfl
  go_wp2_with fail
  refine (thr_n a b L _ (HG.out.ext HX3.out) HLE.out HAB.out Ha.out Hb.out HL.out).mono ?_; rintro e w4 ⟨rfl, e4⟩
  have HX4 : Hid (Ext w w4) := Lib.hid (HX3.out.trans e4)
  have HB2_4 := Lib.hid (Blk.ext HB2_3.out e4)
  have HB3_4 := Lib.hid (Blk.ext HB3_3.out e4)
  have HB4_4 := Lib.hid (Blk.ext HB4_3.out e4)
  have HB5_4 := Lib.hid (Blk.ext HB5_3.out e4)
  clear e4 c2_0 c2_1 c3_0 c3_1
  go_upto_region 5 with fail
  refine wp_name (fun W => Ext w W ∧ Blk W (i2) #[.string (qs a.x), .string (qs a.y)] 62 ∧ Blk W (i3) #[.string (qs b.x), .string (qs b.y)] 62 ∧ Blk W (i4) #[.string (qs c.x), .string (qs c.y)] 62 ∧ Blk W (i5) #[.string (qs d.x), .string (qs d.y)] 62 ∧ Blk W (w4.heap.size) #[.string (qs L.x), .string (qs L.y), .string (qs L.z)] 73) ⟨(HX4.out.alloc _), (HB2_4.out.alloc _), (HB3_4.out.alloc _), (HB4_4.out.alloc _), (HB5_4.out.alloc _), (Blk.new' (w := _) (cs := #[.string (qs L.x), .string (qs L.y), .string (qs L.z)]) (t := 73) (by first | rfl | (simp only [World.size_alloc]; done) | (simp only [World.size_alloc]; omega) | simp))⟩ ?_
  rintro w5 ⟨e5, bB2_5, bB3_5, bB4_5, bB5_5, bB6_5⟩
  have HX5 := Lib.hid e5; have HB2_5 := Lib.hid bB2_5; have HB3_5 := Lib.hid bB3_5; have HB4_5 := Lib.hid bB4_5; have HB5_5 := Lib.hid bB5_5; have HB6_5 := Lib.hid bB6_5
  have HGEB6 : Hid (w.heap.size ≤ w4.heap.size) := Lib.hid (by have := HX4.out.size; first | omega | (simp only []; omega) | (simp; omega))
  clear e5 bB2_5 bB3_5 bB4_5 bB5_5 bB6_5
  have c4_0 := HB4_5.out.cell 0 rfl
  have c4_1 := HB4_5.out.cell 1 rfl
  have c5_0 := HB5_5.out.cell 0 rfl
  have c5_1 := HB5_5.out.cell 1 rfl
  go_wp2_with fail
  refine (thr_n c d M _ (HG.out.ext HX5.out) HME.out HCD.out Hc.out Hd.out HM.out).mono ?_; rintro e w6 ⟨rfl, e6⟩
  have HX6 : Hid (Ext w w6) := Lib.hid (HX5.out.trans e6)
  have HB2_6 := Lib.hid (Blk.ext HB2_5.out e6)
  have HB3_6 := Lib.hid (Blk.ext HB3_5.out e6)
  have HB4_6 := Lib.hid (Blk.ext HB4_5.out e6)
  have HB5_6 := Lib.hid (Blk.ext HB5_5.out e6)
  have HB6_6 := Lib.hid (Blk.ext HB6_5.out e6)
  clear e6 c4_0 c4_1 c5_0 c5_1
  go_upto_region 6 with fail
  refine wp_name (fun W => Ext w W ∧ Blk W (i2) #[.string (qs a.x), .string (qs a.y)] 62 ∧ Blk W (i3) #[.string (qs b.x), .string (qs b.y)] 62 ∧ Blk W (i4) #[.string (qs c.x), .string (qs c.y)] 62 ∧ Blk W (i5) #[.string (qs d.x), .string (qs d.y)] 62 ∧ Blk W (w4.heap.size) #[.string (qs L.x), .string (qs L.y), .string (qs L.z)] 73 ∧ Blk W (w6.heap.size) #[.string (qs M.x), .string (qs M.y), .string (qs M.z)] 73) ⟨(HX6.out.alloc _), (HB2_6.out.alloc _), (HB3_6.out.alloc _), (HB4_6.out.alloc _), (HB5_6.out.alloc _), (HB6_6.out.alloc _), (Blk.new' (w := _) (cs := #[.string (qs M.x), .string (qs M.y), .string (qs M.z)]) (t := 73) (by first | rfl | (simp only [World.size_alloc]; done) | (simp only [World.size_alloc]; omega) | simp))⟩ ?_
  rintro w7 ⟨e7, bB2_7, bB3_7, bB4_7, bB5_7, bB6_7, bB7_7⟩
  have HX7 := Lib.hid e7; have HB2_7 := Lib.hid bB2_7; have HB3_7 := Lib.hid bB3_7; have HB4_7 := Lib.hid bB4_7; have HB5_7 := Lib.hid bB5_7; have HB6_7 := Lib.hid bB6_7; have HB7_7 := Lib.hid bB7_7
  have HGEB7 : Hid (w.heap.size ≤ w6.heap.size) := Lib.hid (by have := HX6.out.size; first | omega | (simp only []; omega) | (simp; omega))
  clear e7 bB2_7 bB3_7 bB4_7 bB5_7 bB6_7 bB7_7
  go_cut [56] from 49 to 56 (fun s_ wx => s_ = .bool false ∧ w7 = wx)
  case first =>
    have cB2_0 := HB2_7.out.cell 0 rfl
    have cB2_1 := HB2_7.out.cell 1 rfl
    have cB3_0 := HB3_7.out.cell 0 rfl
    have cB3_1 := HB3_7.out.cell 1 rfl
    have cB4_0 := HB4_7.out.cell 0 rfl
    have cB4_1 := HB4_7.out.cell 1 rfl
    have cB5_0 := HB5_7.out.cell 0 rfl
    have cB5_1 := HB5_7.out.cell 1 rfl
    go_wp2_with fail
    all_goals first | (go_meet; exact ⟨rfl, rfl⟩) | (first | exact absurd (p2_ext (by assumption) (by assumption)) HAB.out | exact absurd (p2_ext (by assumption) (by assumption)) HCD.out)
  obtain ⟨rfl, rfl⟩ := hcut
  go_wp2_with fail
  refine wp_name (fun W => Ext w W ∧ Blk W (i2) #[.string (qs a.x), .string (qs a.y)] 62 ∧ Blk W (i3) #[.string (qs b.x), .string (qs b.y)] 62 ∧ Blk W (i4) #[.string (qs c.x), .string (qs c.y)] 62 ∧ Blk W (i5) #[.string (qs d.x), .string (qs d.y)] 62 ∧ Blk W (w4.heap.size) #[.string (qs L.x), .string (qs L.y), .string (qs L.z)] 73 ∧ Blk W (w6.heap.size) #[.string (qs M.x), .string (qs M.y), .string (qs M.z)] 73) ⟨HX7.out, HB2_7.out, HB3_7.out, HB4_7.out, HB5_7.out, HB6_7.out, HB7_7.out⟩ ?_
  rintro w8 ⟨e8, bB2_8, bB3_8, bB4_8, bB5_8, bB6_8, bB7_8⟩
  have HX8 := Lib.hid e8; have HB2_8 := Lib.hid bB2_8; have HB3_8 := Lib.hid bB3_8; have HB4_8 := Lib.hid bB4_8; have HB5_8 := Lib.hid bB5_8; have HB6_8 := Lib.hid bB6_8; have HB7_8 := Lib.hid bB7_8
  clear e8 bB2_8 bB3_8 bB4_8 bB5_8 bB6_8 bB7_8
  refine region_lin [.val (.int .i64 0), .val (.bool false), .val (.bool false), .val (.int .i64 0), .val (.bool false), .val (.bool false), .val (.bool false), .val (.agg #[.string (qs L.x), .string (qs L.y), .string (qs L.z)]), .val (.pointer (some ⟨i2, 1, none⟩)), .val (.string (qs a.y)), .val (.pointer (some ⟨i3, 1, none⟩)), .val (.string (qs b.y)), .val (.string (qs L.x)), .val (.pointer (some ⟨i3, 0, none⟩)), .val (.string (qs b.x)), .val (.pointer (some ⟨i2, 0, none⟩)), .val (.string (qs a.x)), .val (.string (qs L.y)), .val (.pointer (some ⟨i2, 1, none⟩)), .val (.string (qs a.y)), .val (.pointer (some ⟨i3, 1, none⟩)), .val (.string (qs b.y)), .val (.string (qs L.x)), .val (.pointer (some ⟨i3, 0, none⟩)), .val (.string (qs b.x)), .val (.pointer (some ⟨i2, 0, none⟩)), .val (.string (qs a.x)), .val (.string (qs L.y)), .val (.agg #[.string (qs a.x), .string (qs a.y)]), .val (.string (qs L.z)), .val (.agg #[.string (qs L.x), .string (qs L.y), .string (qs L.z)]), .val (.bool false), .val (.bool false)] (by kernel_rfl) (by kernel_rfl) (by kernel_rfl) ?_ (fun g8 w9 hx_ hm_ hne_ => ?_)
  · skip
    refine RnL.cons (fun g8 A_ W_ hs_ => ?_) ?_
    · have q10_ := (hs_.old 10 (by kernel_rfl) : A_.tmps[10]?.getD undef = .int .i64 0)
      refine Rn.val fun K_ hK_ => ?_
      go_simp
      exact hK_.out _ (Ext.refl _)
    refine RnL.cons (fun g8 A_ W_ hs_ => ?_) ?_
    · have q73_ := hs_.val 0 rfl rfl rfl
      refine Rn.val fun K_ hK_ => ?_
      go_simp
      exact hK_.out _ (Ext.refl _)
    refine RnL.cons (fun g8 A_ W_ hs_ => ?_) ?_
    · have q74_ := hs_.val 1 rfl rfl rfl
      refine Rn.val fun K_ hK_ => ?_
      go_simp
      exact hK_.out _ (Ext.refl _)
    refine RnL.cons (fun g8 A_ W_ hs_ => ?_) ?_
    · have q12_ := (hs_.old 12 (by kernel_rfl) : A_.tmps[12]?.getD undef = .int .i64 0)
      refine Rn.val fun K_ hK_ => ?_
      go_simp
      exact hK_.out _ (Ext.refl _)
    refine RnL.cons (fun g8 A_ W_ hs_ => ?_) ?_
    · have q76_ := hs_.val 3 rfl rfl rfl
      refine Rn.val fun K_ hK_ => ?_
      go_simp
      exact hK_.out _ (Ext.refl _)
    refine RnL.cons (fun g8 A_ W_ hs_ => ?_) ?_
    · have q75_ := hs_.val 2 rfl rfl rfl
      have q77_ := hs_.val 4 rfl rfl rfl
      refine Rn.val fun K_ hK_ => ?_
      go_simp
      exact hK_.out _ (Ext.refl _)
    refine RnL.cons (fun g8 A_ W_ hs_ => ?_) ?_
    · have q78_ := hs_.val 5 rfl rfl rfl
      refine Rn.val fun K_ hK_ => ?_
      go_simp
      exact hK_.out _ (Ext.refl _)
    refine RnL.cons (fun g8 A_ W_ hs_ => ?_) ?_
    · have q9_ := (hs_.old 9 (by kernel_rfl) : A_.tmps[9]?.getD undef = .pointer (some ⟨w4.heap.size, 0, none⟩))
      have cB6_0 := (HB6_8.out.drew.ext hs_.1).cell 0 rfl
      have cB6_1 := (HB6_8.out.drew.ext hs_.1).cell 1 rfl
      have cB6_2 := (HB6_8.out.drew.ext hs_.1).cell 2 rfl
      refine Rn.val fun K_ hK_ => ?_
      go_simp
      exact hK_.out _ (Ext.refl _)
    refine RnL.cons (fun g8 A_ W_ hs_ => ?_) ?_
    · have q5_ := (hs_.old 5 (by kernel_rfl) : A_.tmps[5]?.getD undef = .pointer (some ⟨i2, 0, none⟩))
      refine Rn.val fun K_ hK_ => ?_
      go_simp
      exact hK_.out _ (Ext.refl _)
    refine RnL.cons (fun g8 A_ W_ hs_ => ?_) ?_
    · have q81_ := hs_.val 8 rfl rfl rfl
      have cB2_1 := (HB2_8.out.drew.ext hs_.1).cell 1 rfl
      refine Rn.val fun K_ hK_ => ?_
      go_simp
      exact hK_.out _ (Ext.refl _)
    refine RnL.cons (fun g8 A_ W_ hs_ => ?_) ?_
    · have q6_ := (hs_.old 6 (by kernel_rfl) : A_.tmps[6]?.getD undef = .pointer (some ⟨i3, 0, none⟩))
      refine Rn.val fun K_ hK_ => ?_
      go_simp
      exact hK_.out _ (Ext.refl _)
    refine RnL.cons (fun g8 A_ W_ hs_ => ?_) ?_
    · have q83_ := hs_.val 10 rfl rfl rfl
      have cB3_1 := (HB3_8.out.drew.ext hs_.1).cell 1 rfl
      refine Rn.val fun K_ hK_ => ?_
      go_simp
      exact hK_.out _ (Ext.refl _)
    refine RnL.cons (fun g8 A_ W_ hs_ => ?_) ?_
    · have q82_ := hs_.val 9 rfl rfl rfl
      have q84_ := hs_.val 11 rfl rfl rfl
      refine Rn.val fun K_ hK_ => ?_
      go_simp
      refine (rsub_x a b L _ (HG.out.ext (HX8.out.drew.trans hs_.1)) HLE.out Ha.out Hb.out).mono ?_; rintro e W9_ ⟨rfl, e9_⟩; exact hK_.out _ e9_
    refine RnL.cons (fun g8 A_ W_ hs_ => ?_) ?_
    · have q6_ := (hs_.old 6 (by kernel_rfl) : A_.tmps[6]?.getD undef = .pointer (some ⟨i3, 0, none⟩))
      refine Rn.val fun K_ hK_ => ?_
      go_simp
      exact hK_.out _ (Ext.refl _)
    refine RnL.cons (fun g8 A_ W_ hs_ => ?_) ?_
    · have q86_ := hs_.val 13 rfl rfl rfl
      have cB3_0 := (HB3_8.out.drew.ext hs_.1).cell 0 rfl
      refine Rn.val fun K_ hK_ => ?_
      go_simp
      exact hK_.out _ (Ext.refl _)
    refine RnL.cons (fun g8 A_ W_ hs_ => ?_) ?_
    · have q5_ := (hs_.old 5 (by kernel_rfl) : A_.tmps[5]?.getD undef = .pointer (some ⟨i2, 0, none⟩))
      refine Rn.val fun K_ hK_ => ?_
      go_simp
      exact hK_.out _ (Ext.refl _)
    refine RnL.cons (fun g8 A_ W_ hs_ => ?_) ?_
    · have q88_ := hs_.val 15 rfl rfl rfl
      have cB2_0 := (HB2_8.out.drew.ext hs_.1).cell 0 rfl
      refine Rn.val fun K_ hK_ => ?_
      go_simp
      exact hK_.out _ (Ext.refl _)
    refine RnL.cons (fun g8 A_ W_ hs_ => ?_) ?_
    · have q87_ := hs_.val 14 rfl rfl rfl
      have q89_ := hs_.val 16 rfl rfl rfl
      refine Rn.val fun K_ hK_ => ?_
      go_simp
      refine (rsub_y a b L _ (HG.out.ext (HX8.out.drew.trans hs_.1)) HLE.out Ha.out Hb.out).mono ?_; rintro e W9_ ⟨rfl, e9_⟩; exact hK_.out _ e9_
    refine RnL.cons (fun g8 A_ W_ hs_ => ?_) ?_
    · have q5_ := (hs_.old 5 (by kernel_rfl) : A_.tmps[5]?.getD undef = .pointer (some ⟨i2, 0, none⟩))
      refine Rn.val fun K_ hK_ => ?_
      go_simp
      exact hK_.out _ (Ext.refl _)
    refine RnL.cons (fun g8 A_ W_ hs_ => ?_) ?_
    · have q91_ := hs_.val 18 rfl rfl rfl
      have cB2_1 := (HB2_8.out.drew.ext hs_.1).cell 1 rfl
      refine Rn.val fun K_ hK_ => ?_
      go_simp
      exact hK_.out _ (Ext.refl _)
    refine RnL.cons (fun g8 A_ W_ hs_ => ?_) ?_
    · have q6_ := (hs_.old 6 (by kernel_rfl) : A_.tmps[6]?.getD undef = .pointer (some ⟨i3, 0, none⟩))
      refine Rn.val fun K_ hK_ => ?_
      go_simp
      exact hK_.out _ (Ext.refl _)
    refine RnL.cons (fun g8 A_ W_ hs_ => ?_) ?_
    · have q93_ := hs_.val 20 rfl rfl rfl
      have cB3_1 := (HB3_8.out.drew.ext hs_.1).cell 1 rfl
      refine Rn.val fun K_ hK_ => ?_
      go_simp
      exact hK_.out _ (Ext.refl _)
    refine RnL.cons (fun g8 A_ W_ hs_ => ?_) ?_
    · have q92_ := hs_.val 19 rfl rfl rfl
      have q94_ := hs_.val 21 rfl rfl rfl
      refine Rn.val fun K_ hK_ => ?_
      go_simp
      refine (rsub_x a b L _ (HG.out.ext (HX8.out.drew.trans hs_.1)) HLE.out Ha.out Hb.out).mono ?_; rintro e W9_ ⟨rfl, e9_⟩; exact hK_.out _ e9_
    refine RnL.cons (fun g8 A_ W_ hs_ => ?_) ?_
    · have q6_ := (hs_.old 6 (by kernel_rfl) : A_.tmps[6]?.getD undef = .pointer (some ⟨i3, 0, none⟩))
      refine Rn.val fun K_ hK_ => ?_
      go_simp
      exact hK_.out _ (Ext.refl _)
    refine RnL.cons (fun g8 A_ W_ hs_ => ?_) ?_
    · have q96_ := hs_.val 23 rfl rfl rfl
      have cB3_0 := (HB3_8.out.drew.ext hs_.1).cell 0 rfl
      refine Rn.val fun K_ hK_ => ?_
      go_simp
      exact hK_.out _ (Ext.refl _)
    refine RnL.cons (fun g8 A_ W_ hs_ => ?_) ?_
    · have q5_ := (hs_.old 5 (by kernel_rfl) : A_.tmps[5]?.getD undef = .pointer (some ⟨i2, 0, none⟩))
      refine Rn.val fun K_ hK_ => ?_
      go_simp
      exact hK_.out _ (Ext.refl _)
    refine RnL.cons (fun g8 A_ W_ hs_ => ?_) ?_
    · have q98_ := hs_.val 25 rfl rfl rfl
      have cB2_0 := (HB2_8.out.drew.ext hs_.1).cell 0 rfl
      refine Rn.val fun K_ hK_ => ?_
      go_simp
      exact hK_.out _ (Ext.refl _)
    refine RnL.cons (fun g8 A_ W_ hs_ => ?_) ?_
    · have q97_ := hs_.val 24 rfl rfl rfl
      have q99_ := hs_.val 26 rfl rfl rfl
      refine Rn.val fun K_ hK_ => ?_
      go_simp
      refine (rsub_y a b L _ (HG.out.ext (HX8.out.drew.trans hs_.1)) HLE.out Ha.out Hb.out).mono ?_; rintro e W9_ ⟨rfl, e9_⟩; exact hK_.out _ e9_
    refine RnL.cons (fun g8 A_ W_ hs_ => ?_) ?_
    · have q5_ := (hs_.old 5 (by kernel_rfl) : A_.tmps[5]?.getD undef = .pointer (some ⟨i2, 0, none⟩))
      have cB2_0 := (HB2_8.out.drew.ext hs_.1).cell 0 rfl
      have cB2_1 := (HB2_8.out.drew.ext hs_.1).cell 1 rfl
      refine Rn.val fun K_ hK_ => ?_
      go_simp
      exact hK_.out _ (Ext.refl _)
    refine RnL.cons (fun g8 A_ W_ hs_ => ?_) ?_
    · have q95_ := hs_.val 22 rfl rfl rfl
      have q100_ := hs_.val 27 rfl rfl rfl
      have q101_ := hs_.val 28 rfl rfl rfl
      refine Rn.val fun K_ hK_ => ?_
      go_simp
      refine (val_z a b L _ (HG.out.ext (HX8.out.drew.trans hs_.1)) HLE.out Ha.out HL.out).mono ?_; rintro e W9_ ⟨rfl, e9_⟩; exact hK_.out _ e9_
    refine RnL.cons (fun g8 A_ W_ hs_ => ?_) ?_
    · have q85_ := hs_.val 12 rfl rfl rfl
      have q90_ := hs_.val 17 rfl rfl rfl
      have q102_ := hs_.val 29 rfl rfl rfl
      refine Rn.val fun K_ hK_ => ?_
      go_simp
      exact hK_.out _ (Ext.refl _)
    refine RnL.cons (fun g8 A_ W_ hs_ => ?_) ?_
    · have q80_ := hs_.val 7 rfl rfl rfl
      have q103_ := hs_.val 30 rfl rfl rfl
      refine Rn.val fun K_ hK_ => ?_
      go_simp
      exact hK_.out _ (Ext.refl _)
    refine RnL.cons (fun g8 A_ W_ hs_ => ?_) ?_
    · have q79_ := hs_.val 6 rfl rfl rfl
      have q104_ := hs_.val 31 rfl rfl rfl
      refine Rn.val fun K_ hK_ => ?_
      go_simp
      exact hK_.out _ (Ext.refl _)
    exact RnL.nil
  simp only [fs, Kd.value, puts, Act.put, List.setIfInBounds_toArray, List.set_cons_zero, List.set_cons_succ]
  have HX9 : Hid (Ext w w9) := Lib.hid (HX8.out.drew.trans hx_)
  have HB4_9 := Lib.hid (HB4_8.out.drew.ext hx_)
  have HB5_9 := Lib.hid (HB5_8.out.drew.ext hx_)
  have HB6_9 := Lib.hid (HB6_8.out.drew.ext hx_)
  have HB7_9 := Lib.hid (HB7_8.out.drew.ext hx_)
  clear hx_ hm_ hne_
  have c6_0 := HB6_9.out.cell 0 rfl
  have c6_1 := HB6_9.out.cell 1 rfl
  have c6_2 := HB6_9.out.cell 2 rfl
  have c7_0 := HB7_9.out.cell 0 rfl
  have c7_1 := HB7_9.out.cell 1 rfl
  have c7_2 := HB7_9.out.cell 2 rfl
  go_wp2_with fail
  refine (HMT.out _ (HG.out.ext HX9.out)).mono ?_; rintro e w10 ⟨rfl, e10⟩
  have HX10 : Hid (Ext w w10) := Lib.hid (HX9.out.trans e10)
  have HB4_10 := Lib.hid (Blk.ext HB4_9.out e10)
  have HB5_10 := Lib.hid (Blk.ext HB5_9.out e10)
  have HB6_10 := Lib.hid (Blk.ext HB6_9.out e10)
  have HB7_10 := Lib.hid (Blk.ext HB7_9.out e10)
  clear e10 c6_0 c6_1 c6_2 c7_0 c7_1 c7_2
  go_wp2_with fail
  refine wp_name (fun W => Ext w W ∧ Blk W (i4) #[.string (qs c.x), .string (qs c.y)] 62 ∧ Blk W (i5) #[.string (qs d.x), .string (qs d.y)] 62 ∧ Blk W (w4.heap.size) #[.string (qs L.x), .string (qs L.y), .string (qs L.z)] 73 ∧ Blk W (w6.heap.size) #[.string (qs M.x), .string (qs M.y), .string (qs M.z)] 73 ∧ Blk W (w10.heap.size) #[.string px, .string py] 62) ⟨(HX10.out.alloc _), (HB4_10.out.alloc _), (HB5_10.out.alloc _), (HB6_10.out.alloc _), (HB7_10.out.alloc _), (Blk.new' (w := _) (cs := #[.string px, .string py]) (t := 62) (by first | rfl | (simp only [World.size_alloc]; done) | (simp only [World.size_alloc]; omega) | simp))⟩ ?_
  rintro w11 ⟨e11, bB4_11, bB5_11, bB6_11, bB7_11, bB8_11⟩
  have HX11 := Lib.hid e11; have HB4_11 := Lib.hid bB4_11; have HB5_11 := Lib.hid bB5_11; have HB6_11 := Lib.hid bB6_11; have HB7_11 := Lib.hid bB7_11; have HB8_11 := Lib.hid bB8_11
  have HGEB8 : Hid (w.heap.size ≤ w10.heap.size) := Lib.hid (by have := HX10.out.size; first | omega | (simp only []; omega) | (simp; omega))
  clear e11 bB4_11 bB5_11 bB6_11 bB7_11 bB8_11
  refine region_lin [.val (.pointer (some ⟨w4.heap.size, 0, none⟩)), .val (.string (qs L.x)), .val (.pointer (some ⟨w6.heap.size, 1, none⟩)), .val (.string (qs M.y)), .val (.string m1), .val (.pointer (some ⟨w4.heap.size, 1, none⟩)), .val (.string (qs L.y)), .val (.pointer (some ⟨w6.heap.size, 0, none⟩)), .val (.string (qs M.x)), .val (.string m2), .val (.bool (!F)), .val (.bool (!F))] (by kernel_rfl) (by kernel_rfl) (by kernel_rfl) ?_ (fun g11 w12 hx_ hm_ hne_ => ?_)
  · skip
    refine RnL.cons (fun g11 A_ W_ hs_ => ?_) ?_
    · have q9_ := (hs_.old 9 (by kernel_rfl) : A_.tmps[9]?.getD undef = .pointer (some ⟨w4.heap.size, 0, none⟩))
      refine Rn.val fun K_ hK_ => ?_
      go_simp
      exact hK_.out _ (Ext.refl _)
    refine RnL.cons (fun g11 A_ W_ hs_ => ?_) ?_
    · have q113_ := hs_.val 0 rfl rfl rfl
      have cB6_0 := (HB6_11.out.drew.ext hs_.1).cell 0 rfl
      refine Rn.val fun K_ hK_ => ?_
      go_simp
      exact hK_.out _ (Ext.refl _)
    refine RnL.cons (fun g11 A_ W_ hs_ => ?_) ?_
    · have q11_ := (hs_.old 11 (by kernel_rfl) : A_.tmps[11]?.getD undef = .pointer (some ⟨w6.heap.size, 0, none⟩))
      refine Rn.val fun K_ hK_ => ?_
      go_simp
      exact hK_.out _ (Ext.refl _)
    refine RnL.cons (fun g11 A_ W_ hs_ => ?_) ?_
    · have q115_ := hs_.val 2 rfl rfl rfl
      have cB7_1 := (HB7_11.out.drew.ext hs_.1).cell 1 rfl
      refine Rn.val fun K_ hK_ => ?_
      go_simp
      exact hK_.out _ (Ext.refl _)
    refine RnL.cons (fun g11 A_ W_ hs_ => ?_) ?_
    · have q114_ := hs_.val 1 rfl rfl rfl
      have q116_ := hs_.val 3 rfl rfl rfl
      refine Rn.val fun K_ hK_ => ?_
      go_simp
      refine (mul_m L.x M.y m1 _ (HG.out.ext (HX11.out.drew.trans hs_.1)) HM1.out HL.out.x HM.out.y).mono ?_; rintro e W9_ ⟨rfl, e9_⟩; exact hK_.out _ e9_
    refine RnL.cons (fun g11 A_ W_ hs_ => ?_) ?_
    · have q9_ := (hs_.old 9 (by kernel_rfl) : A_.tmps[9]?.getD undef = .pointer (some ⟨w4.heap.size, 0, none⟩))
      refine Rn.val fun K_ hK_ => ?_
      go_simp
      exact hK_.out _ (Ext.refl _)
    refine RnL.cons (fun g11 A_ W_ hs_ => ?_) ?_
    · have q118_ := hs_.val 5 rfl rfl rfl
      have cB6_1 := (HB6_11.out.drew.ext hs_.1).cell 1 rfl
      refine Rn.val fun K_ hK_ => ?_
      go_simp
      exact hK_.out _ (Ext.refl _)
    refine RnL.cons (fun g11 A_ W_ hs_ => ?_) ?_
    · have q11_ := (hs_.old 11 (by kernel_rfl) : A_.tmps[11]?.getD undef = .pointer (some ⟨w6.heap.size, 0, none⟩))
      refine Rn.val fun K_ hK_ => ?_
      go_simp
      exact hK_.out _ (Ext.refl _)
    refine RnL.cons (fun g11 A_ W_ hs_ => ?_) ?_
    · have q120_ := hs_.val 7 rfl rfl rfl
      have cB7_0 := (HB7_11.out.drew.ext hs_.1).cell 0 rfl
      refine Rn.val fun K_ hK_ => ?_
      go_simp
      exact hK_.out _ (Ext.refl _)
    refine RnL.cons (fun g11 A_ W_ hs_ => ?_) ?_
    · have q119_ := hs_.val 6 rfl rfl rfl
      have q121_ := hs_.val 8 rfl rfl rfl
      refine Rn.val fun K_ hK_ => ?_
      go_simp
      refine (mul_m L.y M.x m2 _ (HG.out.ext (HX11.out.drew.trans hs_.1)) HM2.out HL.out.y HM.out.x).mono ?_; rintro e W9_ ⟨rfl, e9_⟩; exact hK_.out _ e9_
    refine RnL.cons (fun g11 A_ W_ hs_ => ?_) ?_
    · have q117_ := hs_.val 4 rfl rfl rfl
      have q122_ := hs_.val 9 rfl rfl rfl
      refine Rn.val fun K_ hK_ => ?_
      go_simp
      exact hK_.out _ (Ext.refl _)
    refine RnL.cons (fun g11 A_ W_ hs_ => ?_) ?_
    · have q123_ := hs_.val 10 rfl rfl rfl
      refine Rn.val fun K_ hK_ => ?_
      go_simp
      exact hK_.out _ (Ext.refl _)
    exact RnL.nil
  simp only [fs, Kd.value, puts, Act.put, List.setIfInBounds_toArray, List.set_cons_zero, List.set_cons_succ]
  have HX12 : Hid (Ext w w12) := Lib.hid (HX11.out.drew.trans hx_)
  have HB4_12 := Lib.hid (HB4_11.out.drew.ext hx_)
  have HB5_12 := Lib.hid (HB5_11.out.drew.ext hx_)
  have HB6_12 := Lib.hid (HB6_11.out.drew.ext hx_)
  have HB7_12 := Lib.hid (HB7_11.out.drew.ext hx_)
  have HB8_12 := Lib.hid (HB8_11.out.drew.ext hx_)
  clear hx_ hm_ hne_
  go_upto_region 12 with fail
  go_cut [155] from 124 to 155 (fun s_ wx => s_ = .bool false ∧ Ext w wx ∧ Blk wx (i4) #[.string (qs c.x), .string (qs c.y)] 62 ∧ Blk wx (i5) #[.string (qs d.x), .string (qs d.y)] 62 ∧ Blk wx (w4.heap.size) #[.string (qs L.x), .string (qs L.y), .string (qs L.z)] 73)
  case first =>
    rcases HF.out with ⟨rfl, P, rfl, rfl, hP, hPO⟩ | ⟨rfl, rfl, rfl⟩
    · have HP := Lib.hid hP; have HPO := Lib.hid hPO; clear hP hPO
      have c6_0 := HB6_12.out.cell 0 rfl
      have c6_1 := HB6_12.out.cell 1 rfl
      have c6_2 := HB6_12.out.cell 2 rfl
      have c8_0 := HB8_12.out.cell 0 rfl
      have c8_1 := HB8_12.out.cell 1 rfl
      go_wp2_with fail
      refine (val_0 L P _ (HG.out.ext HX12.out) HPO.out.1 HL.out HP.out (by decide) (by decide)).mono ?_; rintro e w13 ⟨rfl, e13⟩
      have HX13 : Hid (Ext w w13) := Lib.hid (HX12.out.trans e13)
      have HB4_13 := Lib.hid (Blk.ext HB4_12.out e13)
      have HB5_13 := Lib.hid (Blk.ext HB5_12.out e13)
      have HB6_13 := Lib.hid (Blk.ext HB6_12.out e13)
      have HB7_13 := Lib.hid (Blk.ext HB7_12.out e13)
      have HB8_13 := Lib.hid (Blk.ext HB8_12.out e13)
      clear e13 c6_0 c6_1 c6_2 c8_0 c8_1
      have c7_0 := HB7_13.out.cell 0 rfl
      have c7_1 := HB7_13.out.cell 1 rfl
      have c7_2 := HB7_13.out.cell 2 rfl
      have c8_0 := HB8_13.out.cell 0 rfl
      have c8_1 := HB8_13.out.cell 1 rfl
      go_wp2_with fail
      refine (val_0 M P _ (HG.out.ext HX13.out) HPO.out.2 HM.out HP.out (by decide) (by decide)).mono ?_; rintro e w14 ⟨rfl, e14⟩
      have HX14 : Hid (Ext w w14) := Lib.hid (HX13.out.trans e14)
      have HB4_14 := Lib.hid (Blk.ext HB4_13.out e14)
      have HB5_14 := Lib.hid (Blk.ext HB5_13.out e14)
      have HB6_14 := Lib.hid (Blk.ext HB6_13.out e14)
      clear e14 c7_0 c7_1 c7_2 c8_0 c8_1
      go_wp2_with fail
      go_meet
      exact ⟨rfl, HX14.out, HB4_14.out, HB5_14.out, HB6_14.out⟩
    · skip
      go_wp2_with fail
      go_meet
      exact ⟨rfl, HX12.out, HB4_12.out, HB5_12.out, HB6_12.out⟩
  obtain ⟨rfl, e13, bB4_13, bB5_13, bB6_13⟩ := hcut
  rename World => w13
  have HX13 := Lib.hid e13; have HB4_13 := Lib.hid bB4_13; have HB5_13 := Lib.hid bB5_13; have HB6_13 := Lib.hid bB6_13
  clear e13 bB4_13 bB5_13 bB6_13
  have c6_0 := HB6_13.out.cell 0 rfl
  have c6_1 := HB6_13.out.cell 1 rfl
  have c6_2 := HB6_13.out.cell 2 rfl
  have c4_0 := HB4_13.out.cell 0 rfl
  have c4_1 := HB4_13.out.cell 1 rfl
  have c5_0 := HB5_13.out.cell 0 rfl
  have c5_1 := HB5_13.out.cell 1 rfl
  go_wp2_with fail
  refine (lcut_k L c d U V K _ (HG.out.ext HX13.out) HUE.out HVE.out HKE.out HL.out Hc.out Hd.out HLZ.out HNE.out HPL.out HK.out).mono ?_; rintro e w14 ⟨rfl, e14⟩
  have HX14 : Hid (Ext w w14) := Lib.hid (HX13.out.trans e14)
  have HB4_14 := Lib.hid (Blk.ext HB4_13.out e14)
  have HB5_14 := Lib.hid (Blk.ext HB5_13.out e14)
  have HB6_14 := Lib.hid (Blk.ext HB6_13.out e14)
  clear e14 c6_0 c6_1 c6_2 c4_0 c4_1 c5_0 c5_1
  go_wp2_with fail
  refine wp_name (fun W => Ext w W ∧ Blk W (i4) #[.string (qs c.x), .string (qs c.y)] 62 ∧ Blk W (i5) #[.string (qs d.x), .string (qs d.y)] 62 ∧ Blk W (w4.heap.size) #[.string (qs L.x), .string (qs L.y), .string (qs L.z)] 73) ⟨HX14.out, HB4_14.out, HB5_14.out, HB6_14.out⟩ ?_
  rintro w15 ⟨e15, bB4_15, bB5_15, bB6_15⟩
  have HX15 := Lib.hid e15; have HB4_15 := Lib.hid bB4_15; have HB5_15 := Lib.hid bB5_15; have HB6_15 := Lib.hid bB6_15
  clear e15 bB4_15 bB5_15 bB6_15
  refine region_lin [.val (.pointer (some ⟨w4.heap.size, 0, none⟩)), .val (.string (qs L.x)), .val (.pointer (some ⟨w4.heap.size, 1, none⟩)), .val (.string (qs L.y)), .val (.pointer (some ⟨w4.heap.size, 2, none⟩)), .val (.string (qs L.z)), .val (.agg #[.string (qs c.x), .string (qs c.y)]), .val (.string (qs U)), .val (.pointer (some ⟨w4.heap.size, 0, none⟩)), .val (.string (qs L.x)), .val (.pointer (some ⟨w4.heap.size, 1, none⟩)), .val (.string (qs L.y)), .val (.pointer (some ⟨w4.heap.size, 2, none⟩)), .val (.string (qs L.z)), .val (.agg #[.string (qs d.x), .string (qs d.y)]), .val (.string (qs V)), .val (.string (qs U)), .val (.string (qs V))] (by kernel_rfl) (by kernel_rfl) (by kernel_rfl) ?_ (fun g15 w16 hx_ hm_ hne_ => ?_)
  · skip
    refine RnL.cons (fun g15 A_ W_ hs_ => ?_) ?_
    · have q9_ := (hs_.old 9 (by kernel_rfl) : A_.tmps[9]?.getD undef = .pointer (some ⟨w4.heap.size, 0, none⟩))
      refine Rn.val fun K_ hK_ => ?_
      go_simp
      exact hK_.out _ (Ext.refl _)
    refine RnL.cons (fun g15 A_ W_ hs_ => ?_) ?_
    · have q164_ := hs_.val 0 rfl rfl rfl
      have cB6_0 := (HB6_15.out.drew.ext hs_.1).cell 0 rfl
      refine Rn.val fun K_ hK_ => ?_
      go_simp
      exact hK_.out _ (Ext.refl _)
    refine RnL.cons (fun g15 A_ W_ hs_ => ?_) ?_
    · have q9_ := (hs_.old 9 (by kernel_rfl) : A_.tmps[9]?.getD undef = .pointer (some ⟨w4.heap.size, 0, none⟩))
      refine Rn.val fun K_ hK_ => ?_
      go_simp
      exact hK_.out _ (Ext.refl _)
    refine RnL.cons (fun g15 A_ W_ hs_ => ?_) ?_
    · have q166_ := hs_.val 2 rfl rfl rfl
      have cB6_1 := (HB6_15.out.drew.ext hs_.1).cell 1 rfl
      refine Rn.val fun K_ hK_ => ?_
      go_simp
      exact hK_.out _ (Ext.refl _)
    refine RnL.cons (fun g15 A_ W_ hs_ => ?_) ?_
    · have q9_ := (hs_.old 9 (by kernel_rfl) : A_.tmps[9]?.getD undef = .pointer (some ⟨w4.heap.size, 0, none⟩))
      refine Rn.val fun K_ hK_ => ?_
      go_simp
      exact hK_.out _ (Ext.refl _)
    refine RnL.cons (fun g15 A_ W_ hs_ => ?_) ?_
    · have q168_ := hs_.val 4 rfl rfl rfl
      have cB6_2 := (HB6_15.out.drew.ext hs_.1).cell 2 rfl
      refine Rn.val fun K_ hK_ => ?_
      go_simp
      exact hK_.out _ (Ext.refl _)
    refine RnL.cons (fun g15 A_ W_ hs_ => ?_) ?_
    · have q7_ := (hs_.old 7 (by kernel_rfl) : A_.tmps[7]?.getD undef = .pointer (some ⟨i4, 0, none⟩))
      have cB4_0 := (HB4_15.out.drew.ext hs_.1).cell 0 rfl
      have cB4_1 := (HB4_15.out.drew.ext hs_.1).cell 1 rfl
      refine Rn.val fun K_ hK_ => ?_
      go_simp
      exact hK_.out _ (Ext.refl _)
    refine RnL.cons (fun g15 A_ W_ hs_ => ?_) ?_
    · have q165_ := hs_.val 1 rfl rfl rfl
      have q167_ := hs_.val 3 rfl rfl rfl
      have q169_ := hs_.val 5 rfl rfl rfl
      have q170_ := hs_.val 6 rfl rfl rfl
      refine Rn.val fun K_ hK_ => ?_
      go_simp
      refine (val_u L c U _ (HG.out.ext (HX15.out.drew.trans hs_.1)) HUE.out HL.out Hc.out (by decide) (by decide)).mono ?_; rintro e W9_ ⟨rfl, e9_⟩; exact hK_.out _ e9_
    refine RnL.cons (fun g15 A_ W_ hs_ => ?_) ?_
    · have q9_ := (hs_.old 9 (by kernel_rfl) : A_.tmps[9]?.getD undef = .pointer (some ⟨w4.heap.size, 0, none⟩))
      refine Rn.val fun K_ hK_ => ?_
      go_simp
      exact hK_.out _ (Ext.refl _)
    refine RnL.cons (fun g15 A_ W_ hs_ => ?_) ?_
    · have q172_ := hs_.val 8 rfl rfl rfl
      have cB6_0 := (HB6_15.out.drew.ext hs_.1).cell 0 rfl
      refine Rn.val fun K_ hK_ => ?_
      go_simp
      exact hK_.out _ (Ext.refl _)
    refine RnL.cons (fun g15 A_ W_ hs_ => ?_) ?_
    · have q9_ := (hs_.old 9 (by kernel_rfl) : A_.tmps[9]?.getD undef = .pointer (some ⟨w4.heap.size, 0, none⟩))
      refine Rn.val fun K_ hK_ => ?_
      go_simp
      exact hK_.out _ (Ext.refl _)
    refine RnL.cons (fun g15 A_ W_ hs_ => ?_) ?_
    · have q174_ := hs_.val 10 rfl rfl rfl
      have cB6_1 := (HB6_15.out.drew.ext hs_.1).cell 1 rfl
      refine Rn.val fun K_ hK_ => ?_
      go_simp
      exact hK_.out _ (Ext.refl _)
    refine RnL.cons (fun g15 A_ W_ hs_ => ?_) ?_
    · have q9_ := (hs_.old 9 (by kernel_rfl) : A_.tmps[9]?.getD undef = .pointer (some ⟨w4.heap.size, 0, none⟩))
      refine Rn.val fun K_ hK_ => ?_
      go_simp
      exact hK_.out _ (Ext.refl _)
    refine RnL.cons (fun g15 A_ W_ hs_ => ?_) ?_
    · have q176_ := hs_.val 12 rfl rfl rfl
      have cB6_2 := (HB6_15.out.drew.ext hs_.1).cell 2 rfl
      refine Rn.val fun K_ hK_ => ?_
      go_simp
      exact hK_.out _ (Ext.refl _)
    refine RnL.cons (fun g15 A_ W_ hs_ => ?_) ?_
    · have q8_ := (hs_.old 8 (by kernel_rfl) : A_.tmps[8]?.getD undef = .pointer (some ⟨i5, 0, none⟩))
      have cB5_0 := (HB5_15.out.drew.ext hs_.1).cell 0 rfl
      have cB5_1 := (HB5_15.out.drew.ext hs_.1).cell 1 rfl
      refine Rn.val fun K_ hK_ => ?_
      go_simp
      exact hK_.out _ (Ext.refl _)
    refine RnL.cons (fun g15 A_ W_ hs_ => ?_) ?_
    · have q173_ := hs_.val 9 rfl rfl rfl
      have q175_ := hs_.val 11 rfl rfl rfl
      have q177_ := hs_.val 13 rfl rfl rfl
      have q178_ := hs_.val 14 rfl rfl rfl
      refine Rn.val fun K_ hK_ => ?_
      go_simp
      refine (val_u L d V _ (HG.out.ext (HX15.out.drew.trans hs_.1)) HVE.out HL.out Hd.out (by decide) (by decide)).mono ?_; rintro e W9_ ⟨rfl, e9_⟩; exact hK_.out _ e9_
    refine RnL.cons (fun g15 A_ W_ hs_ => ?_) ?_
    · have q171_ := hs_.val 7 rfl rfl rfl
      refine Rn.val fun K_ hK_ => ?_
      go_simp
      exact hK_.out _ (Ext.refl _)
    refine RnL.cons (fun g15 A_ W_ hs_ => ?_) ?_
    · have q179_ := hs_.val 15 rfl rfl rfl
      refine Rn.val fun K_ hK_ => ?_
      go_simp
      exact hK_.out _ (Ext.refl _)
    exact RnL.nil
  simp only [fs, Kd.value, puts, Act.put, List.setIfInBounds_toArray, List.set_cons_zero, List.set_cons_succ]
  have HX16 : Hid (Ext w w16) := Lib.hid (HX15.out.drew.trans hx_)
  have HB4_16 := Lib.hid (HB4_15.out.drew.ext hx_)
  have HB5_16 := Lib.hid (HB5_15.out.drew.ext hx_)
  have HB6_16 := Lib.hid (HB6_15.out.drew.ext hx_)
  clear hx_ hm_ hne_
  go_wp2_with fail
  refine (fqsign_c U _).mono ?_; rintro e _ ⟨rfl, rfl⟩
  go_wp2_with fail
  refine (fqsign_c V _).mono ?_; rintro e _ ⟨rfl, rfl⟩
  go_wp2_with fail
  refine wp_name (fun W => Ext w W ∧ Blk W (i4) #[.string (qs c.x), .string (qs c.y)] 62 ∧ Blk W (i5) #[.string (qs d.x), .string (qs d.y)] 62 ∧ Blk W (w4.heap.size) #[.string (qs L.x), .string (qs L.y), .string (qs L.z)] 73) ⟨HX16.out, HB4_16.out, HB5_16.out, HB6_16.out⟩ ?_
  rintro w17 ⟨e17, bB4_17, bB5_17, bB6_17⟩
  have HX17 := Lib.hid e17; have HB4_17 := Lib.hid bB4_17; have HB5_17 := Lib.hid bB5_17; have HB6_17 := Lib.hid bB6_17
  clear e17 bB4_17 bB5_17 bB6_17
  refine region_lin [.val (.bool true), .val (.bool false), .val (.bool false), .off, .off, .val (.bool false), .val (.bool false), .off, .off, .off, .off, .off, .off, .val (.bool false), .val (.bool false), .val (.bool true), .val (.bool true), .val (.string (qs K)), .val (.bool true), .val (.bool true), .val (.bool true), .val (.pointer (some ⟨w4.heap.size, 0, none⟩)), .val (.string (qs L.x)), .val (.pointer (some ⟨w4.heap.size, 1, none⟩)), .val (.string (qs L.y)), .val (.pointer (some ⟨w4.heap.size, 2, none⟩)), .val (.string (qs L.z)), .val (.agg #[.string (qs c.x), .string (qs c.y)]), .val (.agg #[.string (qs d.x), .string (qs d.y)]), .val (.string (qs K)), .val (.agg #[.string (qs (c.x + K * (d.x - c.x))), .string (qs (c.y + K * (d.y - c.y)))]), .val (.string ⟨#[48]⟩), .val (.bool true), .val (.bool true), .val (.bool true), .val (.bool true)] (by kernel_rfl) (by kernel_rfl) (by kernel_rfl) ?_ (fun g17 w18 hx_ hm_ hne_ => ?_)
  · skip
    refine RnL.cons (fun g17 A_ W_ hs_ => ?_) ?_
    · have q18_ := (hs_.old 18 (by kernel_rfl) : A_.tmps[18]?.getD undef = .bool true)
      refine Rn.val fun K_ hK_ => ?_
      go_simp
      exact hK_.out _ (Ext.refl _)
    refine RnL.cons (fun g17 A_ W_ hs_ => ?_) ?_
    · have q202_ := hs_.val 0 rfl rfl rfl
      refine Rn.val fun K_ hK_ => ?_
      go_simp
      exact hK_.out _ (Ext.refl _)
    refine RnL.cons (fun g17 A_ W_ hs_ => ?_) ?_
    · have q203_ := hs_.val 1 rfl rfl rfl
      refine Rn.val fun K_ hK_ => ?_
      go_simp
      exact hK_.out _ (Ext.refl _)
    refine RnL.cons (fun g17 A_ W_ hs_ => ?_) ?_
    · exact Rn.off
    refine RnL.cons (fun g17 A_ W_ hs_ => ?_) ?_
    · exact Rn.off
    refine RnL.cons (fun g17 A_ W_ hs_ => ?_) ?_
    · have q204_ := hs_.val 2 rfl rfl rfl
      have q206_ := hs_.un 4 rfl rfl rfl
      refine Rn.val fun K_ hK_ => ?_
      go_simp
      exact hK_.out _ (Ext.refl _)
    refine RnL.cons (fun g17 A_ W_ hs_ => ?_) ?_
    · have q207_ := hs_.val 5 rfl rfl rfl
      refine Rn.val fun K_ hK_ => ?_
      go_simp
      exact hK_.out _ (Ext.refl _)
    refine RnL.cons (fun g17 A_ W_ hs_ => ?_) ?_
    · exact Rn.off
    refine RnL.cons (fun g17 A_ W_ hs_ => ?_) ?_
    · exact Rn.off
    refine RnL.cons (fun g17 A_ W_ hs_ => ?_) ?_
    · exact Rn.off
    refine RnL.cons (fun g17 A_ W_ hs_ => ?_) ?_
    · exact Rn.off
    refine RnL.cons (fun g17 A_ W_ hs_ => ?_) ?_
    · exact Rn.off
    refine RnL.cons (fun g17 A_ W_ hs_ => ?_) ?_
    · exact Rn.off
    refine RnL.cons (fun g17 A_ W_ hs_ => ?_) ?_
    · have q208_ := hs_.val 6 rfl rfl rfl
      have q214_ := hs_.un 12 rfl rfl rfl
      refine Rn.val fun K_ hK_ => ?_
      go_simp
      exact hK_.out _ (Ext.refl _)
    refine RnL.cons (fun g17 A_ W_ hs_ => ?_) ?_
    · have q215_ := hs_.val 13 rfl rfl rfl
      refine Rn.val fun K_ hK_ => ?_
      go_simp
      exact hK_.out _ (Ext.refl _)
    refine RnL.cons (fun g17 A_ W_ hs_ => ?_) ?_
    · have q18_ := (hs_.old 18 (by kernel_rfl) : A_.tmps[18]?.getD undef = .bool true)
      refine Rn.val fun K_ hK_ => ?_
      go_simp
      exact hK_.out _ (Ext.refl _)
    refine RnL.cons (fun g17 A_ W_ hs_ => ?_) ?_
    · have q217_ := hs_.val 15 rfl rfl rfl
      refine Rn.val fun K_ hK_ => ?_
      go_simp
      exact hK_.out _ (Ext.refl _)
    refine RnL.cons (fun g17 A_ W_ hs_ => ?_) ?_
    · have q17_ := (hs_.old 17 (by kernel_rfl) : A_.tmps[17]?.getD undef = .string (qs K))
      refine Rn.val fun K_ hK_ => ?_
      go_simp
      exact hK_.out _ (Ext.refl _)
    refine RnL.cons (fun g17 A_ W_ hs_ => ?_) ?_
    · have q219_ := hs_.val 17 rfl rfl rfl
      refine Rn.val fun K_ hK_ => ?_
      go_simp
      refine (sin_t K _ (HG.out.ext (HX17.out.drew.trans hs_.1)) HK.out (by decide) (by decide) HKI.out).mono ?_; rintro e W9_ ⟨rfl, e9_⟩; exact hK_.out _ e9_
    refine RnL.cons (fun g17 A_ W_ hs_ => ?_) ?_
    · have q218_ := hs_.val 16 rfl rfl rfl
      have q220_ := hs_.val 18 rfl rfl rfl
      refine Rn.val fun K_ hK_ => ?_
      go_simp
      exact hK_.out _ (Ext.refl _)
    refine RnL.cons (fun g17 A_ W_ hs_ => ?_) ?_
    · have q221_ := hs_.val 19 rfl rfl rfl
      refine Rn.val fun K_ hK_ => ?_
      go_simp
      exact hK_.out _ (Ext.refl _)
    refine RnL.cons (fun g17 A_ W_ hs_ => ?_) ?_
    · have q9_ := (hs_.old 9 (by kernel_rfl) : A_.tmps[9]?.getD undef = .pointer (some ⟨w4.heap.size, 0, none⟩))
      refine Rn.val fun K_ hK_ => ?_
      go_simp
      exact hK_.out _ (Ext.refl _)
    refine RnL.cons (fun g17 A_ W_ hs_ => ?_) ?_
    · have q223_ := hs_.val 21 rfl rfl rfl
      have cB6_0 := (HB6_17.out.drew.ext hs_.1).cell 0 rfl
      refine Rn.val fun K_ hK_ => ?_
      go_simp
      exact hK_.out _ (Ext.refl _)
    refine RnL.cons (fun g17 A_ W_ hs_ => ?_) ?_
    · have q9_ := (hs_.old 9 (by kernel_rfl) : A_.tmps[9]?.getD undef = .pointer (some ⟨w4.heap.size, 0, none⟩))
      refine Rn.val fun K_ hK_ => ?_
      go_simp
      exact hK_.out _ (Ext.refl _)
    refine RnL.cons (fun g17 A_ W_ hs_ => ?_) ?_
    · have q225_ := hs_.val 23 rfl rfl rfl
      have cB6_1 := (HB6_17.out.drew.ext hs_.1).cell 1 rfl
      refine Rn.val fun K_ hK_ => ?_
      go_simp
      exact hK_.out _ (Ext.refl _)
    refine RnL.cons (fun g17 A_ W_ hs_ => ?_) ?_
    · have q9_ := (hs_.old 9 (by kernel_rfl) : A_.tmps[9]?.getD undef = .pointer (some ⟨w4.heap.size, 0, none⟩))
      refine Rn.val fun K_ hK_ => ?_
      go_simp
      exact hK_.out _ (Ext.refl _)
    refine RnL.cons (fun g17 A_ W_ hs_ => ?_) ?_
    · have q227_ := hs_.val 25 rfl rfl rfl
      have cB6_2 := (HB6_17.out.drew.ext hs_.1).cell 2 rfl
      refine Rn.val fun K_ hK_ => ?_
      go_simp
      exact hK_.out _ (Ext.refl _)
    refine RnL.cons (fun g17 A_ W_ hs_ => ?_) ?_
    · have q7_ := (hs_.old 7 (by kernel_rfl) : A_.tmps[7]?.getD undef = .pointer (some ⟨i4, 0, none⟩))
      have cB4_0 := (HB4_17.out.drew.ext hs_.1).cell 0 rfl
      have cB4_1 := (HB4_17.out.drew.ext hs_.1).cell 1 rfl
      refine Rn.val fun K_ hK_ => ?_
      go_simp
      exact hK_.out _ (Ext.refl _)
    refine RnL.cons (fun g17 A_ W_ hs_ => ?_) ?_
    · have q8_ := (hs_.old 8 (by kernel_rfl) : A_.tmps[8]?.getD undef = .pointer (some ⟨i5, 0, none⟩))
      have cB5_0 := (HB5_17.out.drew.ext hs_.1).cell 0 rfl
      have cB5_1 := (HB5_17.out.drew.ext hs_.1).cell 1 rfl
      refine Rn.val fun K_ hK_ => ?_
      go_simp
      exact hK_.out _ (Ext.refl _)
    refine RnL.cons (fun g17 A_ W_ hs_ => ?_) ?_
    · have q17_ := (hs_.old 17 (by kernel_rfl) : A_.tmps[17]?.getD undef = .string (qs K))
      refine Rn.val fun K_ hK_ => ?_
      go_simp
      exact hK_.out _ (Ext.refl _)
    refine RnL.cons (fun g17 A_ W_ hs_ => ?_) ?_
    · have q229_ := hs_.val 27 rfl rfl rfl
      have q230_ := hs_.val 28 rfl rfl rfl
      have q231_ := hs_.val 29 rfl rfl rfl
      refine Rn.val fun K_ hK_ => ?_
      go_simp
      refine (stoward_x c d K _ (HG.out.ext (HX17.out.drew.trans hs_.1)) Hc.out Hd.out HK.out (by omega) (by omega)).mono ?_; rintro e W9_ ⟨rfl, e9_⟩; exact hK_.out _ e9_
    refine RnL.cons (fun g17 A_ W_ hs_ => ?_) ?_
    · have q224_ := hs_.val 22 rfl rfl rfl
      have q226_ := hs_.val 24 rfl rfl rfl
      have q228_ := hs_.val 26 rfl rfl rfl
      have q232_ := hs_.val 30 rfl rfl rfl
      refine Rn.val fun K_ hK_ => ?_
      go_simp
      refine (val_0 L ⟨c.x + K * (d.x - c.x), c.y + K * (d.y - c.y)⟩ _ (HG.out.ext (HX17.out.drew.trans hs_.1)) HKA.out HL.out (⟨((Hc.out.x.add (HK.out.mul (Hd.out.x.sub Hc.out.x))).mono (by decide)), ((Hc.out.y.add (HK.out.mul (Hd.out.y.sub Hc.out.y))).mono (by decide))⟩ : PB 400 _) (by decide) (by decide)).mono ?_; rintro e W9_ ⟨rfl, e9_⟩; exact hK_.out _ e9_
    refine RnL.cons (fun g17 A_ W_ hs_ => ?_) ?_
    · have q233_ := hs_.val 31 rfl rfl rfl
      refine Rn.val fun K_ hK_ => ?_
      go_simp
      exact hK_.out _ (Ext.refl _)
    refine RnL.cons (fun g17 A_ W_ hs_ => ?_) ?_
    · have q222_ := hs_.val 20 rfl rfl rfl
      have q234_ := hs_.val 32 rfl rfl rfl
      refine Rn.val fun K_ hK_ => ?_
      go_simp
      exact hK_.out _ (Ext.refl _)
    refine RnL.cons (fun g17 A_ W_ hs_ => ?_) ?_
    · have q216_ := hs_.val 14 rfl rfl rfl
      have q235_ := hs_.val 33 rfl rfl rfl
      refine Rn.val fun K_ hK_ => ?_
      go_simp
      exact hK_.out _ (Ext.refl _)
    refine RnL.cons (fun g17 A_ W_ hs_ => ?_) ?_
    · have q236_ := hs_.val 34 rfl rfl rfl
      refine Rn.val fun K_ hK_ => ?_
      go_simp
      exact hK_.out _ (Ext.refl _)
    exact RnL.nil
  simp only [fs, Kd.value, puts, Act.put, List.setIfInBounds_toArray, List.set_cons_zero, List.set_cons_succ]
  have HX18 : Hid (Ext w w18) := Lib.hid (HX17.out.drew.trans hx_)
  clear hx_ hm_ hne_
  go_wp2
  go_ret
  exact ⟨rfl, HX18.out⟩
end Go.Proofs.YtglppcmegocphaaGreatDoor
