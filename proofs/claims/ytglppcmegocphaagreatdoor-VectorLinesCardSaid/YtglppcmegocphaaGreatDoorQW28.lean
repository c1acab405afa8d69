/- Part 28 of the proof: L8, L8p. -/
import Derived.Test.YtglppcmegocphaaGreatDoorQW1
import Derived.Test.YtglppcmegocphaaGreatDoorQW2
import Derived.Test.YtglppcmegocphaaGreatDoorQW3
import Derived.Test.YtglppcmegocphaaGreatDoorQW4
import Derived.Test.YtglppcmegocphaaGreatDoorQW5
import Derived.Test.YtglppcmegocphaaGreatDoorQW6
import Derived.Test.YtglppcmegocphaaGreatDoorQW7
import Derived.Test.YtglppcmegocphaaGreatDoorQW8
import Derived.Test.YtglppcmegocphaaGreatDoorQW9
import Derived.Test.YtglppcmegocphaaGreatDoorQW10
import Derived.Test.YtglppcmegocphaaGreatDoorQW11
import Derived.Test.YtglppcmegocphaaGreatDoorQW12
import Derived.Test.YtglppcmegocphaaGreatDoorQW13
import Derived.Test.YtglppcmegocphaaGreatDoorQW14
import Derived.Test.YtglppcmegocphaaGreatDoorQW15
import Derived.Test.YtglppcmegocphaaGreatDoorQW16
import Derived.Test.YtglppcmegocphaaGreatDoorQW17
import Derived.Test.YtglppcmegocphaaGreatDoorQW18
import Derived.Test.YtglppcmegocphaaGreatDoorQW19
import Derived.Test.YtglppcmegocphaaGreatDoorQW20
import Derived.Test.YtglppcmegocphaaGreatDoorQW21
import Derived.Test.YtglppcmegocphaaGreatDoorQW22
import Derived.Test.YtglppcmegocphaaGreatDoorQW23
import Derived.Test.YtglppcmegocphaaGreatDoorQW24
import Derived.Test.YtglppcmegocphaaGreatDoorQW25
import Derived.Test.YtglppcmegocphaaGreatDoorQW26
import Derived.Test.YtglppcmegocphaaGreatDoorQW27
namespace Go.Proofs.YtglppcmegocphaaGreatDoor
open Go Go.RowKit
set_option maxRecDepth 100000 in
set_option maxHeartbeats 16000000 in
theorem lines_walk_ss (p q r s : Pla) (w : World) (g : Gd w) (hp : PlaOk p) (hq : PlaOk q) (hr : PlaOk r) (hs : PlaOk s) (hab : ppt p = ppt q) (hcd : ppt r = ppt s) : Calls Tryz.prog 7 #[.agg #[.int .i16 p.n0, .int .u8 (p.d0 : Int), .int .i16 p.n1, .int .u8 (p.d1 : Int), .int .i16 p.n2, .int .u8 (p.d2 : Int), .int .i16 q.n0, .int .u8 (q.d0 : Int), .int .i16 q.n1, .int .u8 (q.d1 : Int), .int .i16 q.n2, .int .u8 (q.d2 : Int)], .agg #[.int .i16 r.n0, .int .u8 (r.d0 : Int), .int .i16 r.n1, .int .u8 (r.d1 : Int), .int .i16 r.n2, .int .u8 (r.d2 : Int), .int .i16 s.n0, .int .u8 (s.d0 : Int), .int .i16 s.n1, .int .u8 (s.d1 : Int), .int .i16 s.n2, .int .u8 (s.d2 : Int)]] w (Ret w (.bool true)) := by
  have Hp := Lib.hid hp
  have Hq := Lib.hid hq
  have Hr := Lib.hid hr
  have Hs := Lib.hid hs
  have HG := Lib.hid g
  clear hp hq hr hs g
  have HAB0 := Lib.hid hab; have HCD0 := Lib.hid hcd; clear hab hcd
  obtain ⟨a, ea⟩ : ∃ a, ppt p = a := ⟨_, rfl⟩
  have HaE := Lib.hid ea; have Ha : Hid (PB 5 a) := Lib.hid (ea ▸ Hp.out.p); have HaD : Hid (PD 5 3 a) := Lib.hid (ea ▸ Hp.out.pd); clear ea
  have HbE : Hid (ppt q = a) := Lib.hid (HAB0.out.symm.trans HaE.out)
  have Hb : Hid (PB 5 a) := Lib.hid Ha.out
  obtain ⟨c, ec⟩ : ∃ c, ppt r = c := ⟨_, rfl⟩
  have HcE := Lib.hid ec; have Hc : Hid (PB 5 c) := Lib.hid (ec ▸ Hr.out.p); have HcD : Hid (PD 5 3 c) := Lib.hid (ec ▸ Hr.out.pd); clear ec
  have HdE : Hid (ppt s = c) := Lib.hid (HCD0.out.symm.trans HcE.out)
  have Hd : Hid (PB 5 c) := Lib.hid Hc.out
  go_enter Tryz.func7, Tryz.ntmps7
  go_wp2_with fail
  refine (known_c _ (HG.out.ext (((Ext.refl w).alloc _).alloc _))).mono ?_; rintro e w1 ⟨rfl, e1⟩
  have HX1 : Hid (Ext w w1) := Lib.hid ((((Ext.refl w).alloc _).alloc _).trans e1)
  have HB0_1 : Hid (Blk w1 (w.heap.size) #[.int .i16 p.n0, .int .u8 (p.d0 : Int), .int .i16 p.n1, .int .u8 (p.d1 : Int), .int .i16 p.n2, .int .u8 (p.d2 : Int), .int .i16 q.n0, .int .u8 (q.d0 : Int), .int .i16 q.n1, .int .u8 (q.d1 : Int), .int .i16 q.n2, .int .u8 (q.d2 : Int)] 44) := Lib.hid (Blk.ext ((Blk.new' (w := _) (cs := #[.int .i16 p.n0, .int .u8 (p.d0 : Int), .int .i16 p.n1, .int .u8 (p.d1 : Int), .int .i16 p.n2, .int .u8 (p.d2 : Int), .int .i16 q.n0, .int .u8 (q.d0 : Int), .int .i16 q.n1, .int .u8 (q.d1 : Int), .int .i16 q.n2, .int .u8 (q.d2 : Int)]) (t := 44) (by first | rfl | (simp only [World.size_alloc]; done) | (simp only [World.size_alloc]; omega) | simp)).alloc _) e1)
  have HB1_1 : Hid (Blk w1 (w.heap.size + 1) #[.int .i16 r.n0, .int .u8 (r.d0 : Int), .int .i16 r.n1, .int .u8 (r.d1 : Int), .int .i16 r.n2, .int .u8 (r.d2 : Int), .int .i16 s.n0, .int .u8 (s.d0 : Int), .int .i16 s.n1, .int .u8 (s.d1 : Int), .int .i16 s.n2, .int .u8 (s.d2 : Int)] 44) := Lib.hid (Blk.ext (Blk.new' (w := _) (cs := #[.int .i16 r.n0, .int .u8 (r.d0 : Int), .int .i16 r.n1, .int .u8 (r.d1 : Int), .int .i16 r.n2, .int .u8 (r.d2 : Int), .int .i16 s.n0, .int .u8 (s.d0 : Int), .int .i16 s.n1, .int .u8 (s.d1 : Int), .int .i16 s.n2, .int .u8 (s.d2 : Int)]) (t := 44) (by first | rfl | (simp only [World.size_alloc]; done) | (simp only [World.size_alloc]; omega) | simp)) e1)
  have HGEB0 : Hid (w.heap.size ≤ w.heap.size) := Lib.hid (by first | omega | (simp only []; omega) | (simp; omega))
  have HGEB1 : Hid (w.heap.size ≤ w.heap.size + 1) := Lib.hid (by first | omega | (simp only []; omega) | (simp; omega))
  clear e1
  go_wp2_with fail
  refine wp_name (fun W => Ext w W ∧ Blk W (w.heap.size) #[.int .i16 p.n0, .int .u8 (p.d0 : Int), .int .i16 p.n1, .int .u8 (p.d1 : Int), .int .i16 p.n2, .int .u8 (p.d2 : Int), .int .i16 q.n0, .int .u8 (q.d0 : Int), .int .i16 q.n1, .int .u8 (q.d1 : Int), .int .i16 q.n2, .int .u8 (q.d2 : Int)] 44 ∧ Blk W (w.heap.size + 1) #[.int .i16 r.n0, .int .u8 (r.d0 : Int), .int .i16 r.n1, .int .u8 (r.d1 : Int), .int .i16 r.n2, .int .u8 (r.d2 : Int), .int .i16 s.n0, .int .u8 (s.d0 : Int), .int .i16 s.n1, .int .u8 (s.d1 : Int), .int .i16 s.n2, .int .u8 (s.d2 : Int)] 44) ⟨HX1.out, HB0_1.out, HB1_1.out⟩ ?_
  rintro w2 ⟨e2, bB0_2, bB1_2⟩
  have HX2 := Lib.hid e2; have HB0_2 := Lib.hid bB0_2; have HB1_2 := Lib.hid bB1_2
  clear e2 bB0_2 bB1_2
  refine region_lin [.val (.pointer (some ⟨w.heap.size, 0, none⟩)), .val (.agg #[.int .i16 p.n0, .int .u8 (p.d0 : Int), .int .i16 p.n1, .int .u8 (p.d1 : Int), .int .i16 p.n2, .int .u8 (p.d2 : Int)]), .val (.agg #[.string (qs a.x), .string (qs a.y)]), .val (.pointer (some ⟨w.heap.size, 6, none⟩)), .val (.agg #[.int .i16 q.n0, .int .u8 (q.d0 : Int), .int .i16 q.n1, .int .u8 (q.d1 : Int), .int .i16 q.n2, .int .u8 (q.d2 : Int)]), .val (.agg #[.string (qs a.x), .string (qs a.y)]), .val (.pointer (some ⟨w.heap.size + 1, 0, none⟩)), .val (.agg #[.int .i16 r.n0, .int .u8 (r.d0 : Int), .int .i16 r.n1, .int .u8 (r.d1 : Int), .int .i16 r.n2, .int .u8 (r.d2 : Int)]), .val (.agg #[.string (qs c.x), .string (qs c.y)]), .val (.pointer (some ⟨w.heap.size + 1, 6, none⟩)), .val (.agg #[.int .i16 s.n0, .int .u8 (s.d0 : Int), .int .i16 s.n1, .int .u8 (s.d1 : Int), .int .i16 s.n2, .int .u8 (s.d2 : Int)]), .val (.agg #[.string (qs c.x), .string (qs c.y)]), .mem (fun b_ => .pointer (some ⟨b_, 0, none⟩)) #[.string ⟨#[]⟩, .string ⟨#[]⟩] 62 (Option.some 16), .mem (fun b_ => .pointer (some ⟨b_, 0, none⟩)) #[.string ⟨#[]⟩, .string ⟨#[]⟩] 62 (Option.some 17), .mem (fun b_ => .pointer (some ⟨b_, 0, none⟩)) #[.string ⟨#[]⟩, .string ⟨#[]⟩] 62 (Option.some 18), .mem (fun b_ => .pointer (some ⟨b_, 0, none⟩)) #[.string ⟨#[]⟩, .string ⟨#[]⟩] 62 (Option.some 19), .put 12 #[.string (qs a.x), .string (qs a.y)], .put 13 #[.string (qs a.x), .string (qs a.y)], .put 14 #[.string (qs c.x), .string (qs c.y)], .put 15 #[.string (qs c.x), .string (qs c.y)]] (by kernel_rfl) (by kernel_rfl) (by kernel_rfl) ?_ (fun g2 w3 hx_ hm_ hne_ => ?_)
  · skip
    refine RnL.cons (fun g2 A_ W_ hs_ => ?_) ?_
    · have q2_ := (hs_.old 2 (by kernel_rfl) : A_.tmps[2]?.getD undef = .pointer (some ⟨w.heap.size, 0, none⟩))
      refine Rn.val fun K_ hK_ => ?_
      go_simp
      exact hK_.out _ (Ext.refl _)
    refine RnL.cons (fun g2 A_ W_ hs_ => ?_) ?_
    · have q25_ := hs_.val 0 rfl rfl rfl
      have cB0_0 := (HB0_2.out.drew.ext hs_.1).cell 0 rfl
      have cB0_1 := (HB0_2.out.drew.ext hs_.1).cell 1 rfl
      have cB0_2 := (HB0_2.out.drew.ext hs_.1).cell 2 rfl
      have cB0_3 := (HB0_2.out.drew.ext hs_.1).cell 3 rfl
      have cB0_4 := (HB0_2.out.drew.ext hs_.1).cell 4 rfl
      have cB0_5 := (HB0_2.out.drew.ext hs_.1).cell 5 rfl
      refine Rn.val fun K_ hK_ => ?_
      go_simp
      exact hK_.out _ (Ext.refl _)
    refine RnL.cons (fun g2 A_ W_ hs_ => ?_) ?_
    · have q26_ := hs_.val 1 rfl rfl rfl
      refine Rn.val fun K_ hK_ => ?_
      go_simp
      refine ((HaE.out ▸ point_c p _ (HG.out.ext (HX2.out.drew.trans hs_.1)) Hp.out)).mono ?_; rintro e W9_ ⟨rfl, e9_⟩; exact hK_.out _ e9_
    refine RnL.cons (fun g2 A_ W_ hs_ => ?_) ?_
    · have q2_ := (hs_.old 2 (by kernel_rfl) : A_.tmps[2]?.getD undef = .pointer (some ⟨w.heap.size, 0, none⟩))
      refine Rn.val fun K_ hK_ => ?_
      go_simp
      exact hK_.out _ (Ext.refl _)
    refine RnL.cons (fun g2 A_ W_ hs_ => ?_) ?_
    · have q28_ := hs_.val 3 rfl rfl rfl
      have cB0_6 := (HB0_2.out.drew.ext hs_.1).cell 6 rfl
      have cB0_7 := (HB0_2.out.drew.ext hs_.1).cell 7 rfl
      have cB0_8 := (HB0_2.out.drew.ext hs_.1).cell 8 rfl
      have cB0_9 := (HB0_2.out.drew.ext hs_.1).cell 9 rfl
      have cB0_10 := (HB0_2.out.drew.ext hs_.1).cell 10 rfl
      have cB0_11 := (HB0_2.out.drew.ext hs_.1).cell 11 rfl
      refine Rn.val fun K_ hK_ => ?_
      go_simp
      exact hK_.out _ (Ext.refl _)
    refine RnL.cons (fun g2 A_ W_ hs_ => ?_) ?_
    · have q29_ := hs_.val 4 rfl rfl rfl
      refine Rn.val fun K_ hK_ => ?_
      go_simp
      refine ((HbE.out ▸ point_c q _ (HG.out.ext (HX2.out.drew.trans hs_.1)) Hq.out)).mono ?_; rintro e W9_ ⟨rfl, e9_⟩; exact hK_.out _ e9_
    refine RnL.cons (fun g2 A_ W_ hs_ => ?_) ?_
    · have q3_ := (hs_.old 3 (by kernel_rfl) : A_.tmps[3]?.getD undef = .pointer (some ⟨w.heap.size + 1, 0, none⟩))
      refine Rn.val fun K_ hK_ => ?_
      go_simp
      exact hK_.out _ (Ext.refl _)
    refine RnL.cons (fun g2 A_ W_ hs_ => ?_) ?_
    · have q31_ := hs_.val 6 rfl rfl rfl
      have cB1_0 := (HB1_2.out.drew.ext hs_.1).cell 0 rfl
      have cB1_1 := (HB1_2.out.drew.ext hs_.1).cell 1 rfl
      have cB1_2 := (HB1_2.out.drew.ext hs_.1).cell 2 rfl
      have cB1_3 := (HB1_2.out.drew.ext hs_.1).cell 3 rfl
      have cB1_4 := (HB1_2.out.drew.ext hs_.1).cell 4 rfl
      have cB1_5 := (HB1_2.out.drew.ext hs_.1).cell 5 rfl
      refine Rn.val fun K_ hK_ => ?_
      go_simp
      exact hK_.out _ (Ext.refl _)
    refine RnL.cons (fun g2 A_ W_ hs_ => ?_) ?_
    · have q32_ := hs_.val 7 rfl rfl rfl
      refine Rn.val fun K_ hK_ => ?_
      go_simp
      refine ((HcE.out ▸ point_c r _ (HG.out.ext (HX2.out.drew.trans hs_.1)) Hr.out)).mono ?_; rintro e W9_ ⟨rfl, e9_⟩; exact hK_.out _ e9_
    refine RnL.cons (fun g2 A_ W_ hs_ => ?_) ?_
    · have q3_ := (hs_.old 3 (by kernel_rfl) : A_.tmps[3]?.getD undef = .pointer (some ⟨w.heap.size + 1, 0, none⟩))
      refine Rn.val fun K_ hK_ => ?_
      go_simp
      exact hK_.out _ (Ext.refl _)
    refine RnL.cons (fun g2 A_ W_ hs_ => ?_) ?_
    · have q34_ := hs_.val 9 rfl rfl rfl
      have cB1_6 := (HB1_2.out.drew.ext hs_.1).cell 6 rfl
      have cB1_7 := (HB1_2.out.drew.ext hs_.1).cell 7 rfl
      have cB1_8 := (HB1_2.out.drew.ext hs_.1).cell 8 rfl
      have cB1_9 := (HB1_2.out.drew.ext hs_.1).cell 9 rfl
      have cB1_10 := (HB1_2.out.drew.ext hs_.1).cell 10 rfl
      have cB1_11 := (HB1_2.out.drew.ext hs_.1).cell 11 rfl
      refine Rn.val fun K_ hK_ => ?_
      go_simp
      exact hK_.out _ (Ext.refl _)
    refine RnL.cons (fun g2 A_ W_ hs_ => ?_) ?_
    · have q35_ := hs_.val 10 rfl rfl rfl
      refine Rn.val fun K_ hK_ => ?_
      go_simp
      refine ((HdE.out ▸ point_c s _ (HG.out.ext (HX2.out.drew.trans hs_.1)) Hs.out)).mono ?_; rintro e W9_ ⟨rfl, e9_⟩; exact hK_.out _ e9_
    refine RnL.cons (fun g2 A_ W_ hs_ => ?_) ?_
    · refine Rn.mem fun K_ hK_ => ?_
      go_simp
      exact hK_.out
    refine RnL.cons (fun g2 A_ W_ hs_ => ?_) ?_
    · refine Rn.mem fun K_ hK_ => ?_
      go_simp
      exact hK_.out
    refine RnL.cons (fun g2 A_ W_ hs_ => ?_) ?_
    · refine Rn.mem fun K_ hK_ => ?_
      go_simp
      exact hK_.out
    refine RnL.cons (fun g2 A_ W_ hs_ => ?_) ?_
    · refine Rn.mem fun K_ hK_ => ?_
      go_simp
      exact hK_.out
    refine RnL.cons (fun g2 A_ W_ hs_ => ?_) ?_
    · have q5_ := (hs_.mem 12 rfl rfl rfl).1
      have q27_ := hs_.val 2 rfl rfl rfl
      refine Rn.put (z := #[.string ⟨#[]⟩, .string ⟨#[]⟩]) (t := 62) rfl fun hB K_ hK_ => ?_
      have c_0 := hB.cell 0 rfl; have f_0 := hB.free 0
      have c_1 := hB.cell 1 rfl; have f_1 := hB.free 1
      have HB := Lib.hid hB; clear hB
      go_simp
      exact hK_.out _ (((Only.refl _ _).set 0 _).set 1 _) ((HB.out.set 0 _).set 1 _)
    refine RnL.cons (fun g2 A_ W_ hs_ => ?_) ?_
    · have q6_ := (hs_.mem 13 rfl rfl rfl).1
      have q30_ := hs_.val 5 rfl rfl rfl
      refine Rn.put (z := #[.string ⟨#[]⟩, .string ⟨#[]⟩]) (t := 62) rfl fun hB K_ hK_ => ?_
      have c_0 := hB.cell 0 rfl; have f_0 := hB.free 0
      have c_1 := hB.cell 1 rfl; have f_1 := hB.free 1
      have HB := Lib.hid hB; clear hB
      go_simp
      exact hK_.out _ (((Only.refl _ _).set 0 _).set 1 _) ((HB.out.set 0 _).set 1 _)
    refine RnL.cons (fun g2 A_ W_ hs_ => ?_) ?_
    · have q7_ := (hs_.mem 14 rfl rfl rfl).1
      have q33_ := hs_.val 8 rfl rfl rfl
      refine Rn.put (z := #[.string ⟨#[]⟩, .string ⟨#[]⟩]) (t := 62) rfl fun hB K_ hK_ => ?_
      have c_0 := hB.cell 0 rfl; have f_0 := hB.free 0
      have c_1 := hB.cell 1 rfl; have f_1 := hB.free 1
      have HB := Lib.hid hB; clear hB
      go_simp
      exact hK_.out _ (((Only.refl _ _).set 0 _).set 1 _) ((HB.out.set 0 _).set 1 _)
    refine RnL.cons (fun g2 A_ W_ hs_ => ?_) ?_
    · have q8_ := (hs_.mem 15 rfl rfl rfl).1
      have q36_ := hs_.val 11 rfl rfl rfl
      refine Rn.put (z := #[.string ⟨#[]⟩, .string ⟨#[]⟩]) (t := 62) rfl fun hB K_ hK_ => ?_
      have c_0 := hB.cell 0 rfl; have f_0 := hB.free 0
      have c_1 := hB.cell 1 rfl; have f_1 := hB.free 1
      have HB := Lib.hid hB; clear hB
      go_simp
      exact hK_.out _ (((Only.refl _ _).set 0 _).set 1 _) ((HB.out.set 0 _).set 1 _)
    exact RnL.nil
  simp only [fs, Kd.value, puts, Act.put, List.setIfInBounds_toArray, List.set_cons_zero, List.set_cons_succ, Nat.reduceAdd]
  have HX3 : Hid (Ext w w3) := Lib.hid (HX2.out.drew.trans hx_)
  have HB2_3 : Hid (Blk w3 (g2 12) #[.string (qs a.x), .string (qs a.y)] 62) := Lib.hid (hm_ 12 _ _ _ _ rfl).2; have HGEB2 : Hid (w.heap.size ≤ g2 12) := Lib.hid (Nat.le_trans HX2.out.size (hm_ 12 _ _ _ _ rfl).1)
  have HB3_3 : Hid (Blk w3 (g2 13) #[.string (qs a.x), .string (qs a.y)] 62) := Lib.hid (hm_ 13 _ _ _ _ rfl).2; have HGEB3 : Hid (w.heap.size ≤ g2 13) := Lib.hid (Nat.le_trans HX2.out.size (hm_ 13 _ _ _ _ rfl).1)
  have HB4_3 : Hid (Blk w3 (g2 14) #[.string (qs c.x), .string (qs c.y)] 62) := Lib.hid (hm_ 14 _ _ _ _ rfl).2; have HGEB4 : Hid (w.heap.size ≤ g2 14) := Lib.hid (Nat.le_trans HX2.out.size (hm_ 14 _ _ _ _ rfl).1)
  have HB5_3 : Hid (Blk w3 (g2 15) #[.string (qs c.x), .string (qs c.y)] 62) := Lib.hid (hm_ 15 _ _ _ _ rfl).2; have HGEB5 : Hid (w.heap.size ≤ g2 15) := Lib.hid (Nat.le_trans HX2.out.size (hm_ 15 _ _ _ _ rfl).1)
  have HNEB2B3 : Hid (g2 12 ≠ g2 13) := Lib.hid (hne_ 12 13 (by decide) ⟨_, _, _, _, rfl⟩ ⟨_, _, _, _, rfl⟩)
  have HNEB2B4 : Hid (g2 12 ≠ g2 14) := Lib.hid (hne_ 12 14 (by decide) ⟨_, _, _, _, rfl⟩ ⟨_, _, _, _, rfl⟩)
  have HNEB3B4 : Hid (g2 13 ≠ g2 14) := Lib.hid (hne_ 13 14 (by decide) ⟨_, _, _, _, rfl⟩ ⟨_, _, _, _, rfl⟩)
  have HNEB2B5 : Hid (g2 12 ≠ g2 15) := Lib.hid (hne_ 12 15 (by decide) ⟨_, _, _, _, rfl⟩ ⟨_, _, _, _, rfl⟩)
  have HNEB3B5 : Hid (g2 13 ≠ g2 15) := Lib.hid (hne_ 13 15 (by decide) ⟨_, _, _, _, rfl⟩ ⟨_, _, _, _, rfl⟩)
  have HNEB4B5 : Hid (g2 14 ≠ g2 15) := Lib.hid (hne_ 14 15 (by decide) ⟨_, _, _, _, rfl⟩ ⟨_, _, _, _, rfl⟩)
  clear hx_ hm_ hne_
  generalize g2 12 = i2 at *
  generalize g2 13 = i3 at *
  generalize g2 14 = i4 at *
  generalize g2 15 = i5 at *
  clear g2
  have c2_0 := HB2_3.out.cell 0 rfl
  have c2_1 := HB2_3.out.cell 1 rfl
  have c3_0 := HB3_3.out.cell 0 rfl
  have c3_1 := HB3_3.out.cell 1 rfl
  go_wp2_with fail
  refine (thr_s a _ (HG.out.ext HX3.out) Ha.out).mono ?_; rintro e w4 ⟨rfl, e4⟩
  have HX4 : Hid (Ext w w4) := Lib.hid (HX3.out.trans e4)
  have HB2_4 := Lib.hid (Blk.ext HB2_3.out e4)
  have HB3_4 := Lib.hid (Blk.ext HB3_3.out e4)
  have HB4_4 := Lib.hid (Blk.ext HB4_3.out e4)
  have HB5_4 := Lib.hid (Blk.ext HB5_3.out e4)
  clear e4 c2_0 c2_1 c3_0 c3_1
  go_upto_region 5 with fail
  refine wp_name (fun W => Ext w W ∧ Blk W (i2) #[.string (qs a.x), .string (qs a.y)] 62 ∧ Blk W (i3) #[.string (qs a.x), .string (qs a.y)] 62 ∧ Blk W (i4) #[.string (qs c.x), .string (qs c.y)] 62 ∧ Blk W (i5) #[.string (qs c.x), .string (qs c.y)] 62) ⟨(HX4.out.alloc _), (HB2_4.out.alloc _), (HB3_4.out.alloc _), (HB4_4.out.alloc _), (HB5_4.out.alloc _)⟩ ?_
  rintro w5 ⟨e5, bB2_5, bB3_5, bB4_5, bB5_5⟩
  have HX5 := Lib.hid e5; have HB2_5 := Lib.hid bB2_5; have HB3_5 := Lib.hid bB3_5; have HB4_5 := Lib.hid bB4_5; have HB5_5 := Lib.hid bB5_5
  clear e5 bB2_5 bB3_5 bB4_5 bB5_5
  have c4_0 := HB4_5.out.cell 0 rfl
  have c4_1 := HB4_5.out.cell 1 rfl
  have c5_0 := HB5_5.out.cell 0 rfl
  have c5_1 := HB5_5.out.cell 1 rfl
  go_wp2_with fail
  refine (thr_s c _ (HG.out.ext HX5.out) Hc.out).mono ?_; rintro e w6 ⟨rfl, e6⟩
  have HX6 : Hid (Ext w w6) := Lib.hid (HX5.out.trans e6)
  have HB2_6 := Lib.hid (Blk.ext HB2_5.out e6)
  have HB3_6 := Lib.hid (Blk.ext HB3_5.out e6)
  have HB4_6 := Lib.hid (Blk.ext HB4_5.out e6)
  have HB5_6 := Lib.hid (Blk.ext HB5_5.out e6)
  clear e6 c4_0 c4_1 c5_0 c5_1
  go_upto_region 6 with fail
  refine wp_name (fun W => Ext w W ∧ Blk W (i2) #[.string (qs a.x), .string (qs a.y)] 62 ∧ Blk W (i3) #[.string (qs a.x), .string (qs a.y)] 62 ∧ Blk W (i4) #[.string (qs c.x), .string (qs c.y)] 62 ∧ Blk W (i5) #[.string (qs c.x), .string (qs c.y)] 62) ⟨(HX6.out.alloc _), (HB2_6.out.alloc _), (HB3_6.out.alloc _), (HB4_6.out.alloc _), (HB5_6.out.alloc _)⟩ ?_
  rintro w7 ⟨e7, bB2_7, bB3_7, bB4_7, bB5_7⟩
  have HX7 := Lib.hid e7; have HB2_7 := Lib.hid bB2_7; have HB3_7 := Lib.hid bB3_7; have HB4_7 := Lib.hid bB4_7; have HB5_7 := Lib.hid bB5_7
  clear e7 bB2_7 bB3_7 bB4_7 bB5_7
  have c2_0 := HB2_7.out.cell 0 rfl
  have c2_1 := HB2_7.out.cell 1 rfl
  have c3_0 := HB3_7.out.cell 0 rfl
  have c3_1 := HB3_7.out.cell 1 rfl
  have c4_0 := HB4_7.out.cell 0 rfl
  have c4_1 := HB4_7.out.cell 1 rfl
  have c5_0 := HB5_7.out.cell 0 rfl
  have c5_1 := HB5_7.out.cell 1 rfl
  go_wp2
  go_ret
  exact ⟨rfl, HX7.out⟩

set_option maxRecDepth 100000 in
set_option maxHeartbeats 16000000 in
theorem lines_walk_sn (p q r s : Pla) (w : World) (g : Gd w) (hp : PlaOk p) (hq : PlaOk q) (hr : PlaOk r) (hs : PlaOk s) (hab : ppt p = ppt q) (hcd : ppt r ≠ ppt s) : Calls Tryz.prog 7 #[.agg #[.int .i16 p.n0, .int .u8 (p.d0 : Int), .int .i16 p.n1, .int .u8 (p.d1 : Int), .int .i16 p.n2, .int .u8 (p.d2 : Int), .int .i16 q.n0, .int .u8 (q.d0 : Int), .int .i16 q.n1, .int .u8 (q.d1 : Int), .int .i16 q.n2, .int .u8 (q.d2 : Int)], .agg #[.int .i16 r.n0, .int .u8 (r.d0 : Int), .int .i16 r.n1, .int .u8 (r.d1 : Int), .int .i16 r.n2, .int .u8 (r.d2 : Int), .int .i16 s.n0, .int .u8 (s.d0 : Int), .int .i16 s.n1, .int .u8 (s.d1 : Int), .int .i16 s.n2, .int .u8 (s.d2 : Int)]] w (Ret w (.bool true)) := by
  have Hp := Lib.hid hp
  have Hq := Lib.hid hq
  have Hr := Lib.hid hr
  have Hs := Lib.hid hs
  have HG := Lib.hid g
  clear hp hq hr hs g
  have HAB0 := Lib.hid hab; have HCD0 := Lib.hid hcd; clear hab hcd
  obtain ⟨a, ea⟩ : ∃ a, ppt p = a := ⟨_, rfl⟩
  have HaE := Lib.hid ea; have Ha : Hid (PB 5 a) := Lib.hid (ea ▸ Hp.out.p); have HaD : Hid (PD 5 3 a) := Lib.hid (ea ▸ Hp.out.pd); clear ea
  have HbE : Hid (ppt q = a) := Lib.hid (HAB0.out.symm.trans HaE.out)
  have Hb : Hid (PB 5 a) := Lib.hid Ha.out
  obtain ⟨c, ec⟩ : ∃ c, ppt r = c := ⟨_, rfl⟩
  have HcE := Lib.hid ec; have Hc : Hid (PB 5 c) := Lib.hid (ec ▸ Hr.out.p); have HcD : Hid (PD 5 3 c) := Lib.hid (ec ▸ Hr.out.pd); clear ec
  obtain ⟨d, ed⟩ : ∃ d, ppt s = d := ⟨_, rfl⟩
  have HdE := Lib.hid ed; have Hd : Hid (PB 5 d) := Lib.hid (ed ▸ Hs.out.p); have HdD : Hid (PD 5 3 d) := Lib.hid (ed ▸ Hs.out.pd); clear ed
  have HCD : Hid (c ≠ d) := Lib.hid (by have h := HCD0.out; rw [HcE.out, HdE.out] at h; exact h)
  obtain ⟨M, eM⟩ : ∃ M, lthru c d = M := ⟨_, rfl⟩
  have HME := Lib.hid eM; have HMD : Hid (LDd M) := Lib.hid (eM ▸ lthru_d HcD.out HdD.out); have HM : Hid (VB 24 M) := Lib.hid HMD.out.vb; have HMZ : Hid (¬ (M.x = 0 ∧ M.y = 0)) := Lib.hid (eM ▸ lthru_ne HCD.out); clear eM
  go_enter Tryz.func7, Tryz.ntmps7
  go_wp2_with fail
  refine (known_c _ (HG.out.ext (((Ext.refl w).alloc _).alloc _))).mono ?_; rintro e w1 ⟨rfl, e1⟩
  have HX1 : Hid (Ext w w1) := Lib.hid ((((Ext.refl w).alloc _).alloc _).trans e1)
  have HB0_1 : Hid (Blk w1 (w.heap.size) #[.int .i16 p.n0, .int .u8 (p.d0 : Int), .int .i16 p.n1, .int .u8 (p.d1 : Int), .int .i16 p.n2, .int .u8 (p.d2 : Int), .int .i16 q.n0, .int .u8 (q.d0 : Int), .int .i16 q.n1, .int .u8 (q.d1 : Int), .int .i16 q.n2, .int .u8 (q.d2 : Int)] 44) := Lib.hid (Blk.ext ((Blk.new' (w := _) (cs := #[.int .i16 p.n0, .int .u8 (p.d0 : Int), .int .i16 p.n1, .int .u8 (p.d1 : Int), .int .i16 p.n2, .int .u8 (p.d2 : Int), .int .i16 q.n0, .int .u8 (q.d0 : Int), .int .i16 q.n1, .int .u8 (q.d1 : Int), .int .i16 q.n2, .int .u8 (q.d2 : Int)]) (t := 44) (by first | rfl | (simp only [World.size_alloc]; done) | (simp only [World.size_alloc]; omega) | simp)).alloc _) e1)
  have HB1_1 : Hid (Blk w1 (w.heap.size + 1) #[.int .i16 r.n0, .int .u8 (r.d0 : Int), .int .i16 r.n1, .int .u8 (r.d1 : Int), .int .i16 r.n2, .int .u8 (r.d2 : Int), .int .i16 s.n0, .int .u8 (s.d0 : Int), .int .i16 s.n1, .int .u8 (s.d1 : Int), .int .i16 s.n2, .int .u8 (s.d2 : Int)] 44) := Lib.hid (Blk.ext (Blk.new' (w := _) (cs := #[.int .i16 r.n0, .int .u8 (r.d0 : Int), .int .i16 r.n1, .int .u8 (r.d1 : Int), .int .i16 r.n2, .int .u8 (r.d2 : Int), .int .i16 s.n0, .int .u8 (s.d0 : Int), .int .i16 s.n1, .int .u8 (s.d1 : Int), .int .i16 s.n2, .int .u8 (s.d2 : Int)]) (t := 44) (by first | rfl | (simp only [World.size_alloc]; done) | (simp only [World.size_alloc]; omega) | simp)) e1)
  have HGEB0 : Hid (w.heap.size ≤ w.heap.size) := Lib.hid (by first | omega | (simp only []; omega) | (simp; omega))
  have HGEB1 : Hid (w.heap.size ≤ w.heap.size + 1) := Lib.hid (by first | omega | (simp only []; omega) | (simp; omega))
  clear e1
  go_wp2_with fail
  refine wp_name (fun W => Ext w W ∧ Blk W (w.heap.size) #[.int .i16 p.n0, .int .u8 (p.d0 : Int), .int .i16 p.n1, .int .u8 (p.d1 : Int), .int .i16 p.n2, .int .u8 (p.d2 : Int), .int .i16 q.n0, .int .u8 (q.d0 : Int), .int .i16 q.n1, .int .u8 (q.d1 : Int), .int .i16 q.n2, .int .u8 (q.d2 : Int)] 44 ∧ Blk W (w.heap.size + 1) #[.int .i16 r.n0, .int .u8 (r.d0 : Int), .int .i16 r.n1, .int .u8 (r.d1 : Int), .int .i16 r.n2, .int .u8 (r.d2 : Int), .int .i16 s.n0, .int .u8 (s.d0 : Int), .int .i16 s.n1, .int .u8 (s.d1 : Int), .int .i16 s.n2, .int .u8 (s.d2 : Int)] 44) ⟨HX1.out, HB0_1.out, HB1_1.out⟩ ?_
  rintro w2 ⟨e2, bB0_2, bB1_2⟩
  have HX2 := Lib.hid e2; have HB0_2 := Lib.hid bB0_2; have HB1_2 := Lib.hid bB1_2
  clear e2 bB0_2 bB1_2
  refine region_lin [.val (.pointer (some ⟨w.heap.size, 0, none⟩)), .val (.agg #[.int .i16 p.n0, .int .u8 (p.d0 : Int), .int .i16 p.n1, .int .u8 (p.d1 : Int), .int .i16 p.n2, .int .u8 (p.d2 : Int)]), .val (.agg #[.string (qs a.x), .string (qs a.y)]), .val (.pointer (some ⟨w.heap.size, 6, none⟩)), .val (.agg #[.int .i16 q.n0, .int .u8 (q.d0 : Int), .int .i16 q.n1, .int .u8 (q.d1 : Int), .int .i16 q.n2, .int .u8 (q.d2 : Int)]), .val (.agg #[.string (qs a.x), .string (qs a.y)]), .val (.pointer (some ⟨w.heap.size + 1, 0, none⟩)), .val (.agg #[.int .i16 r.n0, .int .u8 (r.d0 : Int), .int .i16 r.n1, .int .u8 (r.d1 : Int), .int .i16 r.n2, .int .u8 (r.d2 : Int)]), .val (.agg #[.string (qs c.x), .string (qs c.y)]), .val (.pointer (some ⟨w.heap.size + 1, 6, none⟩)), .val (.agg #[.int .i16 s.n0, .int .u8 (s.d0 : Int), .int .i16 s.n1, .int .u8 (s.d1 : Int), .int .i16 s.n2, .int .u8 (s.d2 : Int)]), .val (.agg #[.string (qs d.x), .string (qs d.y)]), .mem (fun b_ => .pointer (some ⟨b_, 0, none⟩)) #[.string ⟨#[]⟩, .string ⟨#[]⟩] 62 (Option.some 16), .mem (fun b_ => .pointer (some ⟨b_, 0, none⟩)) #[.string ⟨#[]⟩, .string ⟨#[]⟩] 62 (Option.some 17), .mem (fun b_ => .pointer (some ⟨b_, 0, none⟩)) #[.string ⟨#[]⟩, .string ⟨#[]⟩] 62 (Option.some 18), .mem (fun b_ => .pointer (some ⟨b_, 0, none⟩)) #[.string ⟨#[]⟩, .string ⟨#[]⟩] 62 (Option.some 19), .put 12 #[.string (qs a.x), .string (qs a.y)], .put 13 #[.string (qs a.x), .string (qs a.y)], .put 14 #[.string (qs c.x), .string (qs c.y)], .put 15 #[.string (qs d.x), .string (qs d.y)]] (by kernel_rfl) (by kernel_rfl) (by kernel_rfl) ?_ (fun g2 w3 hx_ hm_ hne_ => ?_)
  · skip
    refine RnL.cons (fun g2 A_ W_ hs_ => ?_) ?_
    · have q2_ := (hs_.old 2 (by kernel_rfl) : A_.tmps[2]?.getD undef = .pointer (some ⟨w.heap.size, 0, none⟩))
      refine Rn.val fun K_ hK_ => ?_
      go_simp
      exact hK_.out _ (Ext.refl _)
    refine RnL.cons (fun g2 A_ W_ hs_ => ?_) ?_
    · have q25_ := hs_.val 0 rfl rfl rfl
      have cB0_0 := (HB0_2.out.drew.ext hs_.1).cell 0 rfl
      have cB0_1 := (HB0_2.out.drew.ext hs_.1).cell 1 rfl
      have cB0_2 := (HB0_2.out.drew.ext hs_.1).cell 2 rfl
      have cB0_3 := (HB0_2.out.drew.ext hs_.1).cell 3 rfl
      have cB0_4 := (HB0_2.out.drew.ext hs_.1).cell 4 rfl
      have cB0_5 := (HB0_2.out.drew.ext hs_.1).cell 5 rfl
      refine Rn.val fun K_ hK_ => ?_
      go_simp
      exact hK_.out _ (Ext.refl _)
    refine RnL.cons (fun g2 A_ W_ hs_ => ?_) ?_
    · have q26_ := hs_.val 1 rfl rfl rfl
      refine Rn.val fun K_ hK_ => ?_
      go_simp
      refine ((HaE.out ▸ point_c p _ (HG.out.ext (HX2.out.drew.trans hs_.1)) Hp.out)).mono ?_; rintro e W9_ ⟨rfl, e9_⟩; exact hK_.out _ e9_
    refine RnL.cons (fun g2 A_ W_ hs_ => ?_) ?_
    · have q2_ := (hs_.old 2 (by kernel_rfl) : A_.tmps[2]?.getD undef = .pointer (some ⟨w.heap.size, 0, none⟩))
      refine Rn.val fun K_ hK_ => ?_
      go_simp
      exact hK_.out _ (Ext.refl _)
    refine RnL.cons (fun g2 A_ W_ hs_ => ?_) ?_
    · have q28_ := hs_.val 3 rfl rfl rfl
      have cB0_6 := (HB0_2.out.drew.ext hs_.1).cell 6 rfl
      have cB0_7 := (HB0_2.out.drew.ext hs_.1).cell 7 rfl
      have cB0_8 := (HB0_2.out.drew.ext hs_.1).cell 8 rfl
      have cB0_9 := (HB0_2.out.drew.ext hs_.1).cell 9 rfl
      have cB0_10 := (HB0_2.out.drew.ext hs_.1).cell 10 rfl
      have cB0_11 := (HB0_2.out.drew.ext hs_.1).cell 11 rfl
      refine Rn.val fun K_ hK_ => ?_
      go_simp
      exact hK_.out _ (Ext.refl _)
    refine RnL.cons (fun g2 A_ W_ hs_ => ?_) ?_
    · have q29_ := hs_.val 4 rfl rfl rfl
      refine Rn.val fun K_ hK_ => ?_
      go_simp
      refine ((HbE.out ▸ point_c q _ (HG.out.ext (HX2.out.drew.trans hs_.1)) Hq.out)).mono ?_; rintro e W9_ ⟨rfl, e9_⟩; exact hK_.out _ e9_
    refine RnL.cons (fun g2 A_ W_ hs_ => ?_) ?_
    · have q3_ := (hs_.old 3 (by kernel_rfl) : A_.tmps[3]?.getD undef = .pointer (some ⟨w.heap.size + 1, 0, none⟩))
      refine Rn.val fun K_ hK_ => ?_
      go_simp
      exact hK_.out _ (Ext.refl _)
    refine RnL.cons (fun g2 A_ W_ hs_ => ?_) ?_
    · have q31_ := hs_.val 6 rfl rfl rfl
      have cB1_0 := (HB1_2.out.drew.ext hs_.1).cell 0 rfl
      have cB1_1 := (HB1_2.out.drew.ext hs_.1).cell 1 rfl
      have cB1_2 := (HB1_2.out.drew.ext hs_.1).cell 2 rfl
      have cB1_3 := (HB1_2.out.drew.ext hs_.1).cell 3 rfl
      have cB1_4 := (HB1_2.out.drew.ext hs_.1).cell 4 rfl
      have cB1_5 := (HB1_2.out.drew.ext hs_.1).cell 5 rfl
      refine Rn.val fun K_ hK_ => ?_
      go_simp
      exact hK_.out _ (Ext.refl _)
    refine RnL.cons (fun g2 A_ W_ hs_ => ?_) ?_
    · have q32_ := hs_.val 7 rfl rfl rfl
      refine Rn.val fun K_ hK_ => ?_
      go_simp
      refine ((HcE.out ▸ point_c r _ (HG.out.ext (HX2.out.drew.trans hs_.1)) Hr.out)).mono ?_; rintro e W9_ ⟨rfl, e9_⟩; exact hK_.out _ e9_
    refine RnL.cons (fun g2 A_ W_ hs_ => ?_) ?_
    · have q3_ := (hs_.old 3 (by kernel_rfl) : A_.tmps[3]?.getD undef = .pointer (some ⟨w.heap.size + 1, 0, none⟩))
      refine Rn.val fun K_ hK_ => ?_
      go_simp
      exact hK_.out _ (Ext.refl _)
    refine RnL.cons (fun g2 A_ W_ hs_ => ?_) ?_
    · have q34_ := hs_.val 9 rfl rfl rfl
      have cB1_6 := (HB1_2.out.drew.ext hs_.1).cell 6 rfl
      have cB1_7 := (HB1_2.out.drew.ext hs_.1).cell 7 rfl
      have cB1_8 := (HB1_2.out.drew.ext hs_.1).cell 8 rfl
      have cB1_9 := (HB1_2.out.drew.ext hs_.1).cell 9 rfl
      have cB1_10 := (HB1_2.out.drew.ext hs_.1).cell 10 rfl
      have cB1_11 := (HB1_2.out.drew.ext hs_.1).cell 11 rfl
      refine Rn.val fun K_ hK_ => ?_
      go_simp
      exact hK_.out _ (Ext.refl _)
    refine RnL.cons (fun g2 A_ W_ hs_ => ?_) ?_
    · have q35_ := hs_.val 10 rfl rfl rfl
      refine Rn.val fun K_ hK_ => ?_
      go_simp
      refine ((HdE.out ▸ point_c s _ (HG.out.ext (HX2.out.drew.trans hs_.1)) Hs.out)).mono ?_; rintro e W9_ ⟨rfl, e9_⟩; exact hK_.out _ e9_
    refine RnL.cons (fun g2 A_ W_ hs_ => ?_) ?_
    · refine Rn.mem fun K_ hK_ => ?_
      go_simp
      exact hK_.out
    refine RnL.cons (fun g2 A_ W_ hs_ => ?_) ?_
    · refine Rn.mem fun K_ hK_ => ?_
      go_simp
      exact hK_.out
    refine RnL.cons (fun g2 A_ W_ hs_ => ?_) ?_
    · refine Rn.mem fun K_ hK_ => ?_
      go_simp
      exact hK_.out
    refine RnL.cons (fun g2 A_ W_ hs_ => ?_) ?_
    · refine Rn.mem fun K_ hK_ => ?_
      go_simp
      exact hK_.out
    refine RnL.cons (fun g2 A_ W_ hs_ => ?_) ?_
    · have q5_ := (hs_.mem 12 rfl rfl rfl).1
      have q27_ := hs_.val 2 rfl rfl rfl
      refine Rn.put (z := #[.string ⟨#[]⟩, .string ⟨#[]⟩]) (t := 62) rfl fun hB K_ hK_ => ?_
      have c_0 := hB.cell 0 rfl; have f_0 := hB.free 0
      have c_1 := hB.cell 1 rfl; have f_1 := hB.free 1
      have HB := Lib.hid hB; clear hB
      go_simp
      exact hK_.out _ (((Only.refl _ _).set 0 _).set 1 _) ((HB.out.set 0 _).set 1 _)
    refine RnL.cons (fun g2 A_ W_ hs_ => ?_) ?_
    · have q6_ := (hs_.mem 13 rfl rfl rfl).1
      have q30_ := hs_.val 5 rfl rfl rfl
      refine Rn.put (z := #[.string ⟨#[]⟩, .string ⟨#[]⟩]) (t := 62) rfl fun hB K_ hK_ => ?_
      have c_0 := hB.cell 0 rfl; have f_0 := hB.free 0
      have c_1 := hB.cell 1 rfl; have f_1 := hB.free 1
      have HB := Lib.hid hB; clear hB
      go_simp
      exact hK_.out _ (((Only.refl _ _).set 0 _).set 1 _) ((HB.out.set 0 _).set 1 _)
    refine RnL.cons (fun g2 A_ W_ hs_ => ?_) ?_
    · have q7_ := (hs_.mem 14 rfl rfl rfl).1
      have q33_ := hs_.val 8 rfl rfl rfl
      refine Rn.put (z := #[.string ⟨#[]⟩, .string ⟨#[]⟩]) (t := 62) rfl fun hB K_ hK_ => ?_
      have c_0 := hB.cell 0 rfl; have f_0 := hB.free 0
      have c_1 := hB.cell 1 rfl; have f_1 := hB.free 1
      have HB := Lib.hid hB; clear hB
      go_simp
      exact hK_.out _ (((Only.refl _ _).set 0 _).set 1 _) ((HB.out.set 0 _).set 1 _)
    refine RnL.cons (fun g2 A_ W_ hs_ => ?_) ?_
    · have q8_ := (hs_.mem 15 rfl rfl rfl).1
      have q36_ := hs_.val 11 rfl rfl rfl
      refine Rn.put (z := #[.string ⟨#[]⟩, .string ⟨#[]⟩]) (t := 62) rfl fun hB K_ hK_ => ?_
      have c_0 := hB.cell 0 rfl; have f_0 := hB.free 0
      have c_1 := hB.cell 1 rfl; have f_1 := hB.free 1
      have HB := Lib.hid hB; clear hB
      go_simp
      exact hK_.out _ (((Only.refl _ _).set 0 _).set 1 _) ((HB.out.set 0 _).set 1 _)
    exact RnL.nil
  simp only [fs, Kd.value, puts, Act.put, List.setIfInBounds_toArray, List.set_cons_zero, List.set_cons_succ, Nat.reduceAdd]
  have HX3 : Hid (Ext w w3) := Lib.hid (HX2.out.drew.trans hx_)
  have HB2_3 : Hid (Blk w3 (g2 12) #[.string (qs a.x), .string (qs a.y)] 62) := Lib.hid (hm_ 12 _ _ _ _ rfl).2; have HGEB2 : Hid (w.heap.size ≤ g2 12) := Lib.hid (Nat.le_trans HX2.out.size (hm_ 12 _ _ _ _ rfl).1)
  have HB3_3 : Hid (Blk w3 (g2 13) #[.string (qs a.x), .string (qs a.y)] 62) := Lib.hid (hm_ 13 _ _ _ _ rfl).2; have HGEB3 : Hid (w.heap.size ≤ g2 13) := Lib.hid (Nat.le_trans HX2.out.size (hm_ 13 _ _ _ _ rfl).1)
  have HB4_3 : Hid (Blk w3 (g2 14) #[.string (qs c.x), .string (qs c.y)] 62) := Lib.hid (hm_ 14 _ _ _ _ rfl).2; have HGEB4 : Hid (w.heap.size ≤ g2 14) := Lib.hid (Nat.le_trans HX2.out.size (hm_ 14 _ _ _ _ rfl).1)
  have HB5_3 : Hid (Blk w3 (g2 15) #[.string (qs d.x), .string (qs d.y)] 62) := Lib.hid (hm_ 15 _ _ _ _ rfl).2; have HGEB5 : Hid (w.heap.size ≤ g2 15) := Lib.hid (Nat.le_trans HX2.out.size (hm_ 15 _ _ _ _ rfl).1)
  have HNEB2B3 : Hid (g2 12 ≠ g2 13) := Lib.hid (hne_ 12 13 (by decide) ⟨_, _, _, _, rfl⟩ ⟨_, _, _, _, rfl⟩)
  have HNEB2B4 : Hid (g2 12 ≠ g2 14) := Lib.hid (hne_ 12 14 (by decide) ⟨_, _, _, _, rfl⟩ ⟨_, _, _, _, rfl⟩)
  have HNEB3B4 : Hid (g2 13 ≠ g2 14) := Lib.hid (hne_ 13 14 (by decide) ⟨_, _, _, _, rfl⟩ ⟨_, _, _, _, rfl⟩)
  have HNEB2B5 : Hid (g2 12 ≠ g2 15) := Lib.hid (hne_ 12 15 (by decide) ⟨_, _, _, _, rfl⟩ ⟨_, _, _, _, rfl⟩)
  have HNEB3B5 : Hid (g2 13 ≠ g2 15) := Lib.hid (hne_ 13 15 (by decide) ⟨_, _, _, _, rfl⟩ ⟨_, _, _, _, rfl⟩)
  have HNEB4B5 : Hid (g2 14 ≠ g2 15) := Lib.hid (hne_ 14 15 (by decide) ⟨_, _, _, _, rfl⟩ ⟨_, _, _, _, rfl⟩)
  clear hx_ hm_ hne_
  generalize g2 12 = i2 at *
  generalize g2 13 = i3 at *
  generalize g2 14 = i4 at *
  generalize g2 15 = i5 at *
  clear g2
  have c2_0 := HB2_3.out.cell 0 rfl
  have c2_1 := HB2_3.out.cell 1 rfl
  have c3_0 := HB3_3.out.cell 0 rfl
  have c3_1 := HB3_3.out.cell 1 rfl
  go_wp2_with fail
  refine (thr_s a _ (HG.out.ext HX3.out) Ha.out).mono ?_; rintro e w4 ⟨rfl, e4⟩
  have HX4 : Hid (Ext w w4) := Lib.hid (HX3.out.trans e4)
  have HB2_4 := Lib.hid (Blk.ext HB2_3.out e4)
  have HB3_4 := Lib.hid (Blk.ext HB3_3.out e4)
  have HB4_4 := Lib.hid (Blk.ext HB4_3.out e4)
  have HB5_4 := Lib.hid (Blk.ext HB5_3.out e4)
  clear e4 c2_0 c2_1 c3_0 c3_1
  go_upto_region 5 with fail
  refine wp_name (fun W => Ext w W ∧ Blk W (i2) #[.string (qs a.x), .string (qs a.y)] 62 ∧ Blk W (i3) #[.string (qs a.x), .string (qs a.y)] 62 ∧ Blk W (i4) #[.string (qs c.x), .string (qs c.y)] 62 ∧ Blk W (i5) #[.string (qs d.x), .string (qs d.y)] 62) ⟨(HX4.out.alloc _), (HB2_4.out.alloc _), (HB3_4.out.alloc _), (HB4_4.out.alloc _), (HB5_4.out.alloc _)⟩ ?_
  rintro w5 ⟨e5, bB2_5, bB3_5, bB4_5, bB5_5⟩
  have HX5 := Lib.hid e5; have HB2_5 := Lib.hid bB2_5; have HB3_5 := Lib.hid bB3_5; have HB4_5 := Lib.hid bB4_5; have HB5_5 := Lib.hid bB5_5
  clear e5 bB2_5 bB3_5 bB4_5 bB5_5
  have c4_0 := HB4_5.out.cell 0 rfl
  have c4_1 := HB4_5.out.cell 1 rfl
  have c5_0 := HB5_5.out.cell 0 rfl
  have c5_1 := HB5_5.out.cell 1 rfl
  go_wp2_with fail
  refine (thr_n c d M _ (HG.out.ext HX5.out) HME.out HCD.out Hc.out Hd.out HM.out).mono ?_; rintro e w6 ⟨rfl, e6⟩
  have HX6 : Hid (Ext w w6) := Lib.hid (HX5.out.trans e6)
  have HB2_6 := Lib.hid (Blk.ext HB2_5.out e6)
  have HB3_6 := Lib.hid (Blk.ext HB3_5.out e6)
  have HB4_6 := Lib.hid (Blk.ext HB4_5.out e6)
  have HB5_6 := Lib.hid (Blk.ext HB5_5.out e6)
  clear e6 c4_0 c4_1 c5_0 c5_1
  go_upto_region 6 with fail
  refine wp_name (fun W => Ext w W ∧ Blk W (i2) #[.string (qs a.x), .string (qs a.y)] 62 ∧ Blk W (i3) #[.string (qs a.x), .string (qs a.y)] 62 ∧ Blk W (i4) #[.string (qs c.x), .string (qs c.y)] 62 ∧ Blk W (i5) #[.string (qs d.x), .string (qs d.y)] 62) ⟨(HX6.out.alloc _), (HB2_6.out.alloc _), (HB3_6.out.alloc _), (HB4_6.out.alloc _), (HB5_6.out.alloc _)⟩ ?_
  rintro w7 ⟨e7, bB2_7, bB3_7, bB4_7, bB5_7⟩
  have HX7 := Lib.hid e7; have HB2_7 := Lib.hid bB2_7; have HB3_7 := Lib.hid bB3_7; have HB4_7 := Lib.hid bB4_7; have HB5_7 := Lib.hid bB5_7
  clear e7 bB2_7 bB3_7 bB4_7 bB5_7
  have c2_0 := HB2_7.out.cell 0 rfl
  have c2_1 := HB2_7.out.cell 1 rfl
  have c3_0 := HB3_7.out.cell 0 rfl
  have c3_1 := HB3_7.out.cell 1 rfl
  go_upto_region 7 with fail
  go_cut [4] from 57 to 72 (fun s_ wx => s_ = .bool true ∧ w7 = wx)
  case first =>
    have cB2_0 := HB2_7.out.cell 0 rfl
    have cB2_1 := HB2_7.out.cell 1 rfl
    have cB3_0 := HB3_7.out.cell 0 rfl
    have cB3_1 := HB3_7.out.cell 1 rfl
    have cB4_0 := HB4_7.out.cell 0 rfl
    have cB4_1 := HB4_7.out.cell 1 rfl
    have cB5_0 := HB5_7.out.cell 0 rfl
    have cB5_1 := HB5_7.out.cell 1 rfl
    go_wp2_with fail
    all_goals first | (go_meet; exact ⟨rfl, rfl⟩) | (exact absurd (p2_ext (by assumption) (by assumption)) HCD.out)
  obtain ⟨rfl, rfl⟩ := hcut
  go_wp2
  go_ret
  exact ⟨rfl, HX7.out⟩

set_option maxRecDepth 100000 in
set_option maxHeartbeats 16000000 in
theorem lines_walk_ns (p q r s : Pla) (w : World) (g : Gd w) (hp : PlaOk p) (hq : PlaOk q) (hr : PlaOk r) (hs : PlaOk s) (hab : ppt p ≠ ppt q) (hcd : ppt r = ppt s) : Calls Tryz.prog 7 #[.agg #[.int .i16 p.n0, .int .u8 (p.d0 : Int), .int .i16 p.n1, .int .u8 (p.d1 : Int), .int .i16 p.n2, .int .u8 (p.d2 : Int), .int .i16 q.n0, .int .u8 (q.d0 : Int), .int .i16 q.n1, .int .u8 (q.d1 : Int), .int .i16 q.n2, .int .u8 (q.d2 : Int)], .agg #[.int .i16 r.n0, .int .u8 (r.d0 : Int), .int .i16 r.n1, .int .u8 (r.d1 : Int), .int .i16 r.n2, .int .u8 (r.d2 : Int), .int .i16 s.n0, .int .u8 (s.d0 : Int), .int .i16 s.n1, .int .u8 (s.d1 : Int), .int .i16 s.n2, .int .u8 (s.d2 : Int)]] w (Ret w (.bool true)) := by
  have Hp := Lib.hid hp
  have Hq := Lib.hid hq
  have Hr := Lib.hid hr
  have Hs := Lib.hid hs
  have HG := Lib.hid g
  clear hp hq hr hs g
  have HAB0 := Lib.hid hab; have HCD0 := Lib.hid hcd; clear hab hcd
  obtain ⟨a, ea⟩ : ∃ a, ppt p = a := ⟨_, rfl⟩
  have HaE := Lib.hid ea; have Ha : Hid (PB 5 a) := Lib.hid (ea ▸ Hp.out.p); have HaD : Hid (PD 5 3 a) := Lib.hid (ea ▸ Hp.out.pd); clear ea
  obtain ⟨b, eb⟩ : ∃ b, ppt q = b := ⟨_, rfl⟩
  have HbE := Lib.hid eb; have Hb : Hid (PB 5 b) := Lib.hid (eb ▸ Hq.out.p); have HbD : Hid (PD 5 3 b) := Lib.hid (eb ▸ Hq.out.pd); clear eb
  obtain ⟨c, ec⟩ : ∃ c, ppt r = c := ⟨_, rfl⟩
  have HcE := Lib.hid ec; have Hc : Hid (PB 5 c) := Lib.hid (ec ▸ Hr.out.p); have HcD : Hid (PD 5 3 c) := Lib.hid (ec ▸ Hr.out.pd); clear ec
  have HdE : Hid (ppt s = c) := Lib.hid (HCD0.out.symm.trans HcE.out)
  have Hd : Hid (PB 5 c) := Lib.hid Hc.out
  have HAB : Hid (a ≠ b) := Lib.hid (by have h := HAB0.out; rw [HaE.out, HbE.out] at h; exact h)
  obtain ⟨L, eL⟩ : ∃ L, lthru a b = L := ⟨_, rfl⟩
  have HLE := Lib.hid eL; have HLD : Hid (LDd L) := Lib.hid (eL ▸ lthru_d HaD.out HbD.out); have HL : Hid (VB 24 L) := Lib.hid HLD.out.vb; have HLZ : Hid (¬ (L.x = 0 ∧ L.y = 0)) := Lib.hid (eL ▸ lthru_ne HAB.out); clear eL
  go_enter Tryz.func7, Tryz.ntmps7
  go_wp2_with fail
  refine (known_c _ (HG.out.ext (((Ext.refl w).alloc _).alloc _))).mono ?_; rintro e w1 ⟨rfl, e1⟩
  have HX1 : Hid (Ext w w1) := Lib.hid ((((Ext.refl w).alloc _).alloc _).trans e1)
  have HB0_1 : Hid (Blk w1 (w.heap.size) #[.int .i16 p.n0, .int .u8 (p.d0 : Int), .int .i16 p.n1, .int .u8 (p.d1 : Int), .int .i16 p.n2, .int .u8 (p.d2 : Int), .int .i16 q.n0, .int .u8 (q.d0 : Int), .int .i16 q.n1, .int .u8 (q.d1 : Int), .int .i16 q.n2, .int .u8 (q.d2 : Int)] 44) := Lib.hid (Blk.ext ((Blk.new' (w := _) (cs := #[.int .i16 p.n0, .int .u8 (p.d0 : Int), .int .i16 p.n1, .int .u8 (p.d1 : Int), .int .i16 p.n2, .int .u8 (p.d2 : Int), .int .i16 q.n0, .int .u8 (q.d0 : Int), .int .i16 q.n1, .int .u8 (q.d1 : Int), .int .i16 q.n2, .int .u8 (q.d2 : Int)]) (t := 44) (by first | rfl | (simp only [World.size_alloc]; done) | (simp only [World.size_alloc]; omega) | simp)).alloc _) e1)
  have HB1_1 : Hid (Blk w1 (w.heap.size + 1) #[.int .i16 r.n0, .int .u8 (r.d0 : Int), .int .i16 r.n1, .int .u8 (r.d1 : Int), .int .i16 r.n2, .int .u8 (r.d2 : Int), .int .i16 s.n0, .int .u8 (s.d0 : Int), .int .i16 s.n1, .int .u8 (s.d1 : Int), .int .i16 s.n2, .int .u8 (s.d2 : Int)] 44) := Lib.hid (Blk.ext (Blk.new' (w := _) (cs := #[.int .i16 r.n0, .int .u8 (r.d0 : Int), .int .i16 r.n1, .int .u8 (r.d1 : Int), .int .i16 r.n2, .int .u8 (r.d2 : Int), .int .i16 s.n0, .int .u8 (s.d0 : Int), .int .i16 s.n1, .int .u8 (s.d1 : Int), .int .i16 s.n2, .int .u8 (s.d2 : Int)]) (t := 44) (by first | rfl | (simp only [World.size_alloc]; done) | (simp only [World.size_alloc]; omega) | simp)) e1)
  have HGEB0 : Hid (w.heap.size ≤ w.heap.size) := Lib.hid (by first | omega | (simp only []; omega) | (simp; omega))
  have HGEB1 : Hid (w.heap.size ≤ w.heap.size + 1) := Lib.hid (by first | omega | (simp only []; omega) | (simp; omega))
  clear e1
  go_wp2_with fail
  refine wp_name (fun W => Ext w W ∧ Blk W (w.heap.size) #[.int .i16 p.n0, .int .u8 (p.d0 : Int), .int .i16 p.n1, .int .u8 (p.d1 : Int), .int .i16 p.n2, .int .u8 (p.d2 : Int), .int .i16 q.n0, .int .u8 (q.d0 : Int), .int .i16 q.n1, .int .u8 (q.d1 : Int), .int .i16 q.n2, .int .u8 (q.d2 : Int)] 44 ∧ Blk W (w.heap.size + 1) #[.int .i16 r.n0, .int .u8 (r.d0 : Int), .int .i16 r.n1, .int .u8 (r.d1 : Int), .int .i16 r.n2, .int .u8 (r.d2 : Int), .int .i16 s.n0, .int .u8 (s.d0 : Int), .int .i16 s.n1, .int .u8 (s.d1 : Int), .int .i16 s.n2, .int .u8 (s.d2 : Int)] 44) ⟨HX1.out, HB0_1.out, HB1_1.out⟩ ?_
  rintro w2 ⟨e2, bB0_2, bB1_2⟩
  have HX2 := Lib.hid e2; have HB0_2 := Lib.hid bB0_2; have HB1_2 := Lib.hid bB1_2
  clear e2 bB0_2 bB1_2
  refine region_lin [.val (.pointer (some ⟨w.heap.size, 0, none⟩)), .val (.agg #[.int .i16 p.n0, .int .u8 (p.d0 : Int), .int .i16 p.n1, .int .u8 (p.d1 : Int), .int .i16 p.n2, .int .u8 (p.d2 : Int)]), .val (.agg #[.string (qs a.x), .string (qs a.y)]), .val (.pointer (some ⟨w.heap.size, 6, none⟩)), .val (.agg #[.int .i16 q.n0, .int .u8 (q.d0 : Int), .int .i16 q.n1, .int .u8 (q.d1 : Int), .int .i16 q.n2, .int .u8 (q.d2 : Int)]), .val (.agg #[.string (qs b.x), .string (qs b.y)]), .val (.pointer (some ⟨w.heap.size + 1, 0, none⟩)), .val (.agg #[.int .i16 r.n0, .int .u8 (r.d0 : Int), .int .i16 r.n1, .int .u8 (r.d1 : Int), .int .i16 r.n2, .int .u8 (r.d2 : Int)]), .val (.agg #[.string (qs c.x), .string (qs c.y)]), .val (.pointer (some ⟨w.heap.size + 1, 6, none⟩)), .val (.agg #[.int .i16 s.n0, .int .u8 (s.d0 : Int), .int .i16 s.n1, .int .u8 (s.d1 : Int), .int .i16 s.n2, .int .u8 (s.d2 : Int)]), .val (.agg #[.string (qs c.x), .string (qs c.y)]), .mem (fun b_ => .pointer (some ⟨b_, 0, none⟩)) #[.string ⟨#[]⟩, .string ⟨#[]⟩] 62 (Option.some 16), .mem (fun b_ => .pointer (some ⟨b_, 0, none⟩)) #[.string ⟨#[]⟩, .string ⟨#[]⟩] 62 (Option.some 17), .mem (fun b_ => .pointer (some ⟨b_, 0, none⟩)) #[.string ⟨#[]⟩, .string ⟨#[]⟩] 62 (Option.some 18), .mem (fun b_ => .pointer (some ⟨b_, 0, none⟩)) #[.string ⟨#[]⟩, .string ⟨#[]⟩] 62 (Option.some 19), .put 12 #[.string (qs a.x), .string (qs a.y)], .put 13 #[.string (qs b.x), .string (qs b.y)], .put 14 #[.string (qs c.x), .string (qs c.y)], .put 15 #[.string (qs c.x), .string (qs c.y)]] (by kernel_rfl) (by kernel_rfl) (by kernel_rfl) ?_ (fun g2 w3 hx_ hm_ hne_ => ?_)
  · skip
    refine RnL.cons (fun g2 A_ W_ hs_ => ?_) ?_
    · have q2_ := (hs_.old 2 (by kernel_rfl) : A_.tmps[2]?.getD undef = .pointer (some ⟨w.heap.size, 0, none⟩))
      refine Rn.val fun K_ hK_ => ?_
      go_simp
      exact hK_.out _ (Ext.refl _)
    refine RnL.cons (fun g2 A_ W_ hs_ => ?_) ?_
    · have q25_ := hs_.val 0 rfl rfl rfl
      have cB0_0 := (HB0_2.out.drew.ext hs_.1).cell 0 rfl
      have cB0_1 := (HB0_2.out.drew.ext hs_.1).cell 1 rfl
      have cB0_2 := (HB0_2.out.drew.ext hs_.1).cell 2 rfl
      have cB0_3 := (HB0_2.out.drew.ext hs_.1).cell 3 rfl
      have cB0_4 := (HB0_2.out.drew.ext hs_.1).cell 4 rfl
      have cB0_5 := (HB0_2.out.drew.ext hs_.1).cell 5 rfl
      refine Rn.val fun K_ hK_ => ?_
      go_simp
      exact hK_.out _ (Ext.refl _)
    refine RnL.cons (fun g2 A_ W_ hs_ => ?_) ?_
    · have q26_ := hs_.val 1 rfl rfl rfl
      refine Rn.val fun K_ hK_ => ?_
      go_simp
      refine ((HaE.out ▸ point_c p _ (HG.out.ext (HX2.out.drew.trans hs_.1)) Hp.out)).mono ?_; rintro e W9_ ⟨rfl, e9_⟩; exact hK_.out _ e9_
    refine RnL.cons (fun g2 A_ W_ hs_ => ?_) ?_
    · have q2_ := (hs_.old 2 (by kernel_rfl) : A_.tmps[2]?.getD undef = .pointer (some ⟨w.heap.size, 0, none⟩))
      refine Rn.val fun K_ hK_ => ?_
      go_simp
      exact hK_.out _ (Ext.refl _)
    refine RnL.cons (fun g2 A_ W_ hs_ => ?_) ?_
    · have q28_ := hs_.val 3 rfl rfl rfl
      have cB0_6 := (HB0_2.out.drew.ext hs_.1).cell 6 rfl
      have cB0_7 := (HB0_2.out.drew.ext hs_.1).cell 7 rfl
      have cB0_8 := (HB0_2.out.drew.ext hs_.1).cell 8 rfl
      have cB0_9 := (HB0_2.out.drew.ext hs_.1).cell 9 rfl
      have cB0_10 := (HB0_2.out.drew.ext hs_.1).cell 10 rfl
      have cB0_11 := (HB0_2.out.drew.ext hs_.1).cell 11 rfl
      refine Rn.val fun K_ hK_ => ?_
      go_simp
      exact hK_.out _ (Ext.refl _)
    refine RnL.cons (fun g2 A_ W_ hs_ => ?_) ?_
    · have q29_ := hs_.val 4 rfl rfl rfl
      refine Rn.val fun K_ hK_ => ?_
      go_simp
      refine ((HbE.out ▸ point_c q _ (HG.out.ext (HX2.out.drew.trans hs_.1)) Hq.out)).mono ?_; rintro e W9_ ⟨rfl, e9_⟩; exact hK_.out _ e9_
    refine RnL.cons (fun g2 A_ W_ hs_ => ?_) ?_
    · have q3_ := (hs_.old 3 (by kernel_rfl) : A_.tmps[3]?.getD undef = .pointer (some ⟨w.heap.size + 1, 0, none⟩))
      refine Rn.val fun K_ hK_ => ?_
      go_simp
      exact hK_.out _ (Ext.refl _)
    refine RnL.cons (fun g2 A_ W_ hs_ => ?_) ?_
    · have q31_ := hs_.val 6 rfl rfl rfl
      have cB1_0 := (HB1_2.out.drew.ext hs_.1).cell 0 rfl
      have cB1_1 := (HB1_2.out.drew.ext hs_.1).cell 1 rfl
      have cB1_2 := (HB1_2.out.drew.ext hs_.1).cell 2 rfl
      have cB1_3 := (HB1_2.out.drew.ext hs_.1).cell 3 rfl
      have cB1_4 := (HB1_2.out.drew.ext hs_.1).cell 4 rfl
      have cB1_5 := (HB1_2.out.drew.ext hs_.1).cell 5 rfl
      refine Rn.val fun K_ hK_ => ?_
      go_simp
      exact hK_.out _ (Ext.refl _)
    refine RnL.cons (fun g2 A_ W_ hs_ => ?_) ?_
    · have q32_ := hs_.val 7 rfl rfl rfl
      refine Rn.val fun K_ hK_ => ?_
      go_simp
      refine ((HcE.out ▸ point_c r _ (HG.out.ext (HX2.out.drew.trans hs_.1)) Hr.out)).mono ?_; rintro e W9_ ⟨rfl, e9_⟩; exact hK_.out _ e9_
    refine RnL.cons (fun g2 A_ W_ hs_ => ?_) ?_
    · have q3_ := (hs_.old 3 (by kernel_rfl) : A_.tmps[3]?.getD undef = .pointer (some ⟨w.heap.size + 1, 0, none⟩))
      refine Rn.val fun K_ hK_ => ?_
      go_simp
      exact hK_.out _ (Ext.refl _)
    refine RnL.cons (fun g2 A_ W_ hs_ => ?_) ?_
    · have q34_ := hs_.val 9 rfl rfl rfl
      have cB1_6 := (HB1_2.out.drew.ext hs_.1).cell 6 rfl
      have cB1_7 := (HB1_2.out.drew.ext hs_.1).cell 7 rfl
      have cB1_8 := (HB1_2.out.drew.ext hs_.1).cell 8 rfl
      have cB1_9 := (HB1_2.out.drew.ext hs_.1).cell 9 rfl
      have cB1_10 := (HB1_2.out.drew.ext hs_.1).cell 10 rfl
      have cB1_11 := (HB1_2.out.drew.ext hs_.1).cell 11 rfl
      refine Rn.val fun K_ hK_ => ?_
      go_simp
      exact hK_.out _ (Ext.refl _)
    refine RnL.cons (fun g2 A_ W_ hs_ => ?_) ?_
    · have q35_ := hs_.val 10 rfl rfl rfl
      refine Rn.val fun K_ hK_ => ?_
      go_simp
      refine ((HdE.out ▸ point_c s _ (HG.out.ext (HX2.out.drew.trans hs_.1)) Hs.out)).mono ?_; rintro e W9_ ⟨rfl, e9_⟩; exact hK_.out _ e9_
    refine RnL.cons (fun g2 A_ W_ hs_ => ?_) ?_
    · refine Rn.mem fun K_ hK_ => ?_
      go_simp
      exact hK_.out
    refine RnL.cons (fun g2 A_ W_ hs_ => ?_) ?_
    · refine Rn.mem fun K_ hK_ => ?_
      go_simp
      exact hK_.out
    refine RnL.cons (fun g2 A_ W_ hs_ => ?_) ?_
    · refine Rn.mem fun K_ hK_ => ?_
      go_simp
      exact hK_.out
    refine RnL.cons (fun g2 A_ W_ hs_ => ?_) ?_
    · refine Rn.mem fun K_ hK_ => ?_
      go_simp
      exact hK_.out
    refine RnL.cons (fun g2 A_ W_ hs_ => ?_) ?_
    · have q5_ := (hs_.mem 12 rfl rfl rfl).1
      have q27_ := hs_.val 2 rfl rfl rfl
      refine Rn.put (z := #[.string ⟨#[]⟩, .string ⟨#[]⟩]) (t := 62) rfl fun hB K_ hK_ => ?_
      have c_0 := hB.cell 0 rfl; have f_0 := hB.free 0
      have c_1 := hB.cell 1 rfl; have f_1 := hB.free 1
      have HB := Lib.hid hB; clear hB
      go_simp
      exact hK_.out _ (((Only.refl _ _).set 0 _).set 1 _) ((HB.out.set 0 _).set 1 _)
    refine RnL.cons (fun g2 A_ W_ hs_ => ?_) ?_
    · have q6_ := (hs_.mem 13 rfl rfl rfl).1
      have q30_ := hs_.val 5 rfl rfl rfl
      refine Rn.put (z := #[.string ⟨#[]⟩, .string ⟨#[]⟩]) (t := 62) rfl fun hB K_ hK_ => ?_
      have c_0 := hB.cell 0 rfl; have f_0 := hB.free 0
      have c_1 := hB.cell 1 rfl; have f_1 := hB.free 1
      have HB := Lib.hid hB; clear hB
      go_simp
      exact hK_.out _ (((Only.refl _ _).set 0 _).set 1 _) ((HB.out.set 0 _).set 1 _)
    refine RnL.cons (fun g2 A_ W_ hs_ => ?_) ?_
    · have q7_ := (hs_.mem 14 rfl rfl rfl).1
      have q33_ := hs_.val 8 rfl rfl rfl
      refine Rn.put (z := #[.string ⟨#[]⟩, .string ⟨#[]⟩]) (t := 62) rfl fun hB K_ hK_ => ?_
      have c_0 := hB.cell 0 rfl; have f_0 := hB.free 0
      have c_1 := hB.cell 1 rfl; have f_1 := hB.free 1
      have HB := Lib.hid hB; clear hB
      go_simp
      exact hK_.out _ (((Only.refl _ _).set 0 _).set 1 _) ((HB.out.set 0 _).set 1 _)
    refine RnL.cons (fun g2 A_ W_ hs_ => ?_) ?_
    · have q8_ := (hs_.mem 15 rfl rfl rfl).1
      have q36_ := hs_.val 11 rfl rfl rfl
      refine Rn.put (z := #[.string ⟨#[]⟩, .string ⟨#[]⟩]) (t := 62) rfl fun hB K_ hK_ => ?_
      have c_0 := hB.cell 0 rfl; have f_0 := hB.free 0
      have c_1 := hB.cell 1 rfl; have f_1 := hB.free 1
      have HB := Lib.hid hB; clear hB
      go_simp
      exact hK_.out _ (((Only.refl _ _).set 0 _).set 1 _) ((HB.out.set 0 _).set 1 _)
    exact RnL.nil
  simp only [fs, Kd.value, puts, Act.put, List.setIfInBounds_toArray, List.set_cons_zero, List.set_cons_succ, Nat.reduceAdd]
  have HX3 : Hid (Ext w w3) := Lib.hid (HX2.out.drew.trans hx_)
  have HB2_3 : Hid (Blk w3 (g2 12) #[.string (qs a.x), .string (qs a.y)] 62) := Lib.hid (hm_ 12 _ _ _ _ rfl).2; have HGEB2 : Hid (w.heap.size ≤ g2 12) := Lib.hid (Nat.le_trans HX2.out.size (hm_ 12 _ _ _ _ rfl).1)
  have HB3_3 : Hid (Blk w3 (g2 13) #[.string (qs b.x), .string (qs b.y)] 62) := Lib.hid (hm_ 13 _ _ _ _ rfl).2; have HGEB3 : Hid (w.heap.size ≤ g2 13) := Lib.hid (Nat.le_trans HX2.out.size (hm_ 13 _ _ _ _ rfl).1)
  have HB4_3 : Hid (Blk w3 (g2 14) #[.string (qs c.x), .string (qs c.y)] 62) := Lib.hid (hm_ 14 _ _ _ _ rfl).2; have HGEB4 : Hid (w.heap.size ≤ g2 14) := Lib.hid (Nat.le_trans HX2.out.size (hm_ 14 _ _ _ _ rfl).1)
  have HB5_3 : Hid (Blk w3 (g2 15) #[.string (qs c.x), .string (qs c.y)] 62) := Lib.hid (hm_ 15 _ _ _ _ rfl).2; have HGEB5 : Hid (w.heap.size ≤ g2 15) := Lib.hid (Nat.le_trans HX2.out.size (hm_ 15 _ _ _ _ rfl).1)
  have HNEB2B3 : Hid (g2 12 ≠ g2 13) := Lib.hid (hne_ 12 13 (by decide) ⟨_, _, _, _, rfl⟩ ⟨_, _, _, _, rfl⟩)
  have HNEB2B4 : Hid (g2 12 ≠ g2 14) := Lib.hid (hne_ 12 14 (by decide) ⟨_, _, _, _, rfl⟩ ⟨_, _, _, _, rfl⟩)
  have HNEB3B4 : Hid (g2 13 ≠ g2 14) := Lib.hid (hne_ 13 14 (by decide) ⟨_, _, _, _, rfl⟩ ⟨_, _, _, _, rfl⟩)
  have HNEB2B5 : Hid (g2 12 ≠ g2 15) := Lib.hid (hne_ 12 15 (by decide) ⟨_, _, _, _, rfl⟩ ⟨_, _, _, _, rfl⟩)
  have HNEB3B5 : Hid (g2 13 ≠ g2 15) := Lib.hid (hne_ 13 15 (by decide) ⟨_, _, _, _, rfl⟩ ⟨_, _, _, _, rfl⟩)
  have HNEB4B5 : Hid (g2 14 ≠ g2 15) := Lib.hid (hne_ 14 15 (by decide) ⟨_, _, _, _, rfl⟩ ⟨_, _, _, _, rfl⟩)
  clear hx_ hm_ hne_
  generalize g2 12 = i2 at *
  generalize g2 13 = i3 at *
  generalize g2 14 = i4 at *
  generalize g2 15 = i5 at *
  clear g2
  have c2_0 := HB2_3.out.cell 0 rfl
  have c2_1 := HB2_3.out.cell 1 rfl
  have c3_0 := HB3_3.out.cell 0 rfl
  have c3_1 := HB3_3.out.cell 1 rfl
  go_wp2_with fail
  refine (thr_n a b L _ (HG.out.ext HX3.out) HLE.out HAB.out Ha.out Hb.out HL.out).mono ?_; rintro e w4 ⟨rfl, e4⟩
  have HX4 : Hid (Ext w w4) := Lib.hid (HX3.out.trans e4)
  have HB2_4 := Lib.hid (Blk.ext HB2_3.out e4)
  have HB3_4 := Lib.hid (Blk.ext HB3_3.out e4)
  have HB4_4 := Lib.hid (Blk.ext HB4_3.out e4)
  have HB5_4 := Lib.hid (Blk.ext HB5_3.out e4)
  clear e4 c2_0 c2_1 c3_0 c3_1
  go_upto_region 5 with fail
  refine wp_name (fun W => Ext w W ∧ Blk W (i2) #[.string (qs a.x), .string (qs a.y)] 62 ∧ Blk W (i3) #[.string (qs b.x), .string (qs b.y)] 62 ∧ Blk W (i4) #[.string (qs c.x), .string (qs c.y)] 62 ∧ Blk W (i5) #[.string (qs c.x), .string (qs c.y)] 62) ⟨(HX4.out.alloc _), (HB2_4.out.alloc _), (HB3_4.out.alloc _), (HB4_4.out.alloc _), (HB5_4.out.alloc _)⟩ ?_
  rintro w5 ⟨e5, bB2_5, bB3_5, bB4_5, bB5_5⟩
  have HX5 := Lib.hid e5; have HB2_5 := Lib.hid bB2_5; have HB3_5 := Lib.hid bB3_5; have HB4_5 := Lib.hid bB4_5; have HB5_5 := Lib.hid bB5_5
  clear e5 bB2_5 bB3_5 bB4_5 bB5_5
  have c4_0 := HB4_5.out.cell 0 rfl
  have c4_1 := HB4_5.out.cell 1 rfl
  have c5_0 := HB5_5.out.cell 0 rfl
  have c5_1 := HB5_5.out.cell 1 rfl
  go_wp2_with fail
  refine (thr_s c _ (HG.out.ext HX5.out) Hc.out).mono ?_; rintro e w6 ⟨rfl, e6⟩
  have HX6 : Hid (Ext w w6) := Lib.hid (HX5.out.trans e6)
  have HB2_6 := Lib.hid (Blk.ext HB2_5.out e6)
  have HB3_6 := Lib.hid (Blk.ext HB3_5.out e6)
  have HB4_6 := Lib.hid (Blk.ext HB4_5.out e6)
  have HB5_6 := Lib.hid (Blk.ext HB5_5.out e6)
  clear e6 c4_0 c4_1 c5_0 c5_1
  go_upto_region 6 with fail
  refine wp_name (fun W => Ext w W ∧ Blk W (i2) #[.string (qs a.x), .string (qs a.y)] 62 ∧ Blk W (i3) #[.string (qs b.x), .string (qs b.y)] 62 ∧ Blk W (i4) #[.string (qs c.x), .string (qs c.y)] 62 ∧ Blk W (i5) #[.string (qs c.x), .string (qs c.y)] 62) ⟨(HX6.out.alloc _), (HB2_6.out.alloc _), (HB3_6.out.alloc _), (HB4_6.out.alloc _), (HB5_6.out.alloc _)⟩ ?_
  rintro w7 ⟨e7, bB2_7, bB3_7, bB4_7, bB5_7⟩
  have HX7 := Lib.hid e7; have HB2_7 := Lib.hid bB2_7; have HB3_7 := Lib.hid bB3_7; have HB4_7 := Lib.hid bB4_7; have HB5_7 := Lib.hid bB5_7
  clear e7 bB2_7 bB3_7 bB4_7 bB5_7
  go_cut [56] from 49 to 56 (fun s_ wx => s_ = .bool true ∧ w7 = wx)
  case first =>
    have cB2_0 := HB2_7.out.cell 0 rfl
    have cB2_1 := HB2_7.out.cell 1 rfl
    have cB3_0 := HB3_7.out.cell 0 rfl
    have cB3_1 := HB3_7.out.cell 1 rfl
    have cB4_0 := HB4_7.out.cell 0 rfl
    have cB4_1 := HB4_7.out.cell 1 rfl
    have cB5_0 := HB5_7.out.cell 0 rfl
    have cB5_1 := HB5_7.out.cell 1 rfl
    go_wp2_with fail
    all_goals first | (go_meet; exact ⟨rfl, rfl⟩) | (exact absurd (p2_ext (by assumption) (by assumption)) HAB.out)
  obtain ⟨rfl, rfl⟩ := hcut
  go_upto_region 7 with fail
  go_cut [4] from 57 to 72 (fun s_ wx => s_ = .bool true ∧ w7 = wx)
  case first =>
    have cB2_0 := HB2_7.out.cell 0 rfl
    have cB2_1 := HB2_7.out.cell 1 rfl
    have cB3_0 := HB3_7.out.cell 0 rfl
    have cB3_1 := HB3_7.out.cell 1 rfl
    have cB4_0 := HB4_7.out.cell 0 rfl
    have cB4_1 := HB4_7.out.cell 1 rfl
    have cB5_0 := HB5_7.out.cell 0 rfl
    have cB5_1 := HB5_7.out.cell 1 rfl
    go_wp2_with fail
    all_goals first | (go_meet; exact ⟨rfl, rfl⟩) | (exact absurd (p2_ext (by assumption) (by assumption)) HAB.out)
  obtain ⟨rfl, rfl⟩ := hcut
  go_wp2
  go_ret
  exact ⟨rfl, HX7.out⟩
end Go.Proofs.YtglppcmegocphaaGreatDoor

namespace Go.Proofs.YtglppcmegocphaaGreatDoor
open Go Go.RowKit
def MeetR (L M : V3) (F : Bool) (px py : ByteArray) : Prop :=
  (F = true ∧ ∃ P : P2, px = qs P.x ∧ py = qs P.y ∧ PB 100 P ∧ (L.x * P.x + L.y * P.y - L.z = 0 ∧ M.x * P.x + M.y * P.y - M.z = 0)) ∨ (F = false ∧ px = ⟨#[]⟩ ∧ py = ⟨#[]⟩)
theorem meet_ex (L M : V3) (hl : LDd L) (hm : LDd M) (hz : ¬ (L.x = 0 ∧ L.y = 0)) (hy : ¬ (M.x = 0 ∧ M.y = 0)) :
    ∃ (F : Bool) (px py : ByteArray), MeetR L M F px py ∧ ((qs (L.x * M.y)).toList == (qs (L.y * M.x)).toList) = !F ∧
      ∀ w, Gd w → Calls Tryz.prog 43 #[vv L, vv M] w (Ret w (.tuple #[.agg #[.string px, .string py], .bool F, .int .i64 0])) := by
  by_cases h : L.x * M.y - L.y * M.x = 0
  · exact ⟨false, ⟨#[]⟩, ⟨#[]⟩, Or.inr ⟨rfl, rfl, rfl⟩, qs_eqL (by grind), fun w g => meet_n L M w g hl.vb hm.vb hz hy h⟩
  · exact ⟨true, _, _, Or.inl ⟨rfl, lmeet L M, rfl, rfl, lmeet_b hl hm, lmeet_on rfl h⟩, qs_neL (fun e => h (by grind)), fun w g => meet_y L M (lmeet L M) w g rfl (lmeet_b hl hm) hl.vb hm.vb hz hy h⟩
theorem mul_m (x y : Rat) (m : ByteArray) (w : World) (g : Gd w) (h : qs (x * y) = m) (hx : QB 24 x) (hy : QB 24 y) : Calls Tryz.prog 44 #[.string (qs x), .string (qs y)] w (Ret w (.string m)) := by
  subst h; exact fqmul_c x y w g hx hy (by decide) (by decide)
end Go.Proofs.YtglppcmegocphaaGreatDoor
