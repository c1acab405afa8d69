/- Part 36 of the proof: L6. -/
import Derived.Test.YtglppcmegocphaaGreatDoorQS28
import Derived.Test.YtglppcmegocphaaGreatDoorQS29
import Derived.Test.YtglppcmegocphaaGreatDoorQS35
namespace Go.Proofs.YtglppcmegocphaaGreatDoor
open Go Go.RowKit
set_option maxRecDepth 100000 in
set_option maxHeartbeats 16000000 in
theorem turns_walkA (p q r : Pla) (n : Int) (d : Nat) (w : World) (g : Gd w) (hp : PlaOk p) (hq : PlaOk q) (hr : PlaOk r) (hn : -32768 ≤ n ∧ n ≤ 32767 ∧ d ≤ 255) (h : ppt p = ppt q) : Calls Tryz.prog 11 #[.agg #[.int .i16 p.n0, .int .u8 (p.d0 : Int), .int .i16 p.n1, .int .u8 (p.d1 : Int), .int .i16 p.n2, .int .u8 (p.d2 : Int), .int .i16 q.n0, .int .u8 (q.d0 : Int), .int .i16 q.n1, .int .u8 (q.d1 : Int), .int .i16 q.n2, .int .u8 (q.d2 : Int)], .agg #[.int .i16 r.n0, .int .u8 (r.d0 : Int), .int .i16 r.n1, .int .u8 (r.d1 : Int), .int .i16 r.n2, .int .u8 (r.d2 : Int)], .agg #[.int .i16 n, .int .u8 (d : Int)]] w (Ret w (.bool true)) := by
  have Hp := Lib.hid hp
  have Hq := Lib.hid hq
  have Hr := Lib.hid hr
  have HG := Lib.hid g
  clear hp hq hr g
  obtain ⟨a, ea⟩ : ∃ a, ppt p = a := ⟨_, rfl⟩
  have HaE := Lib.hid ea; have Ha : Hid (PB 5 a) := Lib.hid (ea ▸ Hp.out.p); clear ea
  have HbE : Hid (ppt q = a) := Lib.hid (h.symm.trans HaE.out); clear h
  have Hb : Hid (PB 5 a) := Lib.hid Ha.out
  obtain ⟨c, ec⟩ : ∃ c, ppt r = c := ⟨_, rfl⟩
  have HcE := Lib.hid ec; have Hc : Hid (PB 5 c) := Lib.hid (ec ▸ Hr.out.p); clear ec
  have Hk0 := Lib.hid hn; clear hn
  obtain ⟨k, ek⟩ : ∃ k, sm n d = k := ⟨_, rfl⟩
  have HkE := Lib.hid ek; have Hk : Hid (QB 5 k) := Lib.hid (ek ▸ sm_qb Hk0.out.1 Hk0.out.2.1 Hk0.out.2.2); clear ek
  go_enter Tryz.func11, Tryz.ntmps11
  go_wp2_with fail
  refine (known_c _ (HG.out.ext ((((Ext.refl w).alloc _).alloc _).alloc _))).mono ?_; rintro e w1 ⟨rfl, e1⟩
  have HX1 : Hid (Ext w w1) := Lib.hid (((((Ext.refl w).alloc _).alloc _).alloc _).trans e1)
  have HB0_1 : Hid (Blk w1 (w.heap.size) #[.int .i16 p.n0, .int .u8 (p.d0 : Int), .int .i16 p.n1, .int .u8 (p.d1 : Int), .int .i16 p.n2, .int .u8 (p.d2 : Int), .int .i16 q.n0, .int .u8 (q.d0 : Int), .int .i16 q.n1, .int .u8 (q.d1 : Int), .int .i16 q.n2, .int .u8 (q.d2 : Int)] 44) := Lib.hid (Blk.ext (((Blk.new' (w := _) (cs := #[.int .i16 p.n0, .int .u8 (p.d0 : Int), .int .i16 p.n1, .int .u8 (p.d1 : Int), .int .i16 p.n2, .int .u8 (p.d2 : Int), .int .i16 q.n0, .int .u8 (q.d0 : Int), .int .i16 q.n1, .int .u8 (q.d1 : Int), .int .i16 q.n2, .int .u8 (q.d2 : Int)]) (t := 44) (by first | rfl | (simp only [World.size_alloc]; done) | (simp only [World.size_alloc]; omega) | simp)).alloc _).alloc _) e1)
  have HB1_1 : Hid (Blk w1 (w.heap.size + 1) #[.int .i16 r.n0, .int .u8 (r.d0 : Int), .int .i16 r.n1, .int .u8 (r.d1 : Int), .int .i16 r.n2, .int .u8 (r.d2 : Int)] 26) := Lib.hid (Blk.ext ((Blk.new' (w := _) (cs := #[.int .i16 r.n0, .int .u8 (r.d0 : Int), .int .i16 r.n1, .int .u8 (r.d1 : Int), .int .i16 r.n2, .int .u8 (r.d2 : Int)]) (t := 26) (by first | rfl | (simp only [World.size_alloc]; done) | (simp only [World.size_alloc]; omega) | simp)).alloc _) e1)
  have HB2_1 : Hid (Blk w1 (w.heap.size + 1 + 1) #[.int .i16 n, .int .u8 (d : Int)] 24) := Lib.hid (Blk.ext (Blk.new' (w := _) (cs := #[.int .i16 n, .int .u8 (d : Int)]) (t := 24) (by first | rfl | (simp only [World.size_alloc]; done) | (simp only [World.size_alloc]; omega) | simp)) e1)
  have HGEB0 : Hid (w.heap.size ≤ w.heap.size) := Lib.hid (by first | omega | (simp only []; omega) | (simp; omega))
  have HGEB1 : Hid (w.heap.size ≤ w.heap.size + 1) := Lib.hid (by first | omega | (simp only []; omega) | (simp; omega))
  have HGEB2 : Hid (w.heap.size ≤ w.heap.size + 1 + 1) := Lib.hid (by first | omega | (simp only []; omega) | (simp; omega))
  clear e1
  go_wp2_with fail
  refine wp_name (fun W => Ext w W ∧ Blk W (w.heap.size) #[.int .i16 p.n0, .int .u8 (p.d0 : Int), .int .i16 p.n1, .int .u8 (p.d1 : Int), .int .i16 p.n2, .int .u8 (p.d2 : Int), .int .i16 q.n0, .int .u8 (q.d0 : Int), .int .i16 q.n1, .int .u8 (q.d1 : Int), .int .i16 q.n2, .int .u8 (q.d2 : Int)] 44 ∧ Blk W (w.heap.size + 1) #[.int .i16 r.n0, .int .u8 (r.d0 : Int), .int .i16 r.n1, .int .u8 (r.d1 : Int), .int .i16 r.n2, .int .u8 (r.d2 : Int)] 26 ∧ Blk W (w.heap.size + 1 + 1) #[.int .i16 n, .int .u8 (d : Int)] 24) ⟨HX1.out, HB0_1.out, HB1_1.out, HB2_1.out⟩ ?_
  rintro w2 ⟨e2, bB0_2, bB1_2, bB2_2⟩
  have HX2 := Lib.hid e2; have HB0_2 := Lib.hid bB0_2; have HB1_2 := Lib.hid bB1_2; have HB2_2 := Lib.hid bB2_2
  clear e2 bB0_2 bB1_2 bB2_2
  refine region_lin [.val (.pointer (some ⟨w.heap.size, 0, none⟩)), .val (.agg #[.int .i16 p.n0, .int .u8 (p.d0 : Int), .int .i16 p.n1, .int .u8 (p.d1 : Int), .int .i16 p.n2, .int .u8 (p.d2 : Int)]), .val (.agg #[.string (qs a.x), .string (qs a.y)]), .val (.pointer (some ⟨w.heap.size, 6, none⟩)), .val (.agg #[.int .i16 q.n0, .int .u8 (q.d0 : Int), .int .i16 q.n1, .int .u8 (q.d1 : Int), .int .i16 q.n2, .int .u8 (q.d2 : Int)]), .val (.agg #[.string (qs a.x), .string (qs a.y)]), .val (.agg #[.int .i16 r.n0, .int .u8 (r.d0 : Int), .int .i16 r.n1, .int .u8 (r.d1 : Int), .int .i16 r.n2, .int .u8 (r.d2 : Int)]), .val (.agg #[.string (qs c.x), .string (qs c.y)]), .val (.agg #[.int .i16 n, .int .u8 (d : Int)]), .val (.string (qs k)), .mem (fun b_ => .pointer (some ⟨b_, 0, none⟩)) #[.string ⟨#[]⟩, .string ⟨#[]⟩] 62 (Option.some 13), .mem (fun b_ => .pointer (some ⟨b_, 0, none⟩)) #[.string ⟨#[]⟩, .string ⟨#[]⟩] 62 (Option.some 14), .mem (fun b_ => .pointer (some ⟨b_, 0, none⟩)) #[.string ⟨#[]⟩, .string ⟨#[]⟩] 62 (Option.some 15), .put 10 #[.string (qs a.x), .string (qs a.y)], .put 11 #[.string (qs a.x), .string (qs a.y)], .put 12 #[.string (qs c.x), .string (qs c.y)], .val (.string (qs k))] (by kernel_rfl) (by kernel_rfl) (by kernel_rfl) ?_ (fun g2 w3 hx_ hm_ hne_ => ?_)
  · skip
    refine RnL.cons (fun g2 A_ W_ hs_ => ?_) ?_
    · have q3_ := (hs_.old 3 (by kernel_rfl) : A_.tmps[3]?.getD undef = .pointer (some ⟨w.heap.size, 0, none⟩))
      refine Rn.val fun K_ hK_ => ?_
      go_simp
      exact hK_.out _ (Ext.refl _)
    refine RnL.cons (fun g2 A_ W_ hs_ => ?_) ?_
    · have q24_ := hs_.val 0 rfl rfl rfl
      have cB0_0 := (HB0_2.out.drew.ext hs_.1).cell 0 rfl
      have cB0_1 := (HB0_2.out.drew.ext hs_.1).cell 1 rfl
      have cB0_2 := (HB0_2.out.drew.ext hs_.1).cell 2 rfl
      have cB0_3 := (HB0_2.out.drew.ext hs_.1).cell 3 rfl
      have cB0_4 := (HB0_2.out.drew.ext hs_.1).cell 4 rfl
      have cB0_5 := (HB0_2.out.drew.ext hs_.1).cell 5 rfl
      refine Rn.val fun K_ hK_ => ?_
      go_simp
      exact hK_.out _ (Ext.refl _)
    refine RnL.cons (fun g2 A_ W_ hs_ => ?_) ?_
    · have q25_ := hs_.val 1 rfl rfl rfl
      refine Rn.val fun K_ hK_ => ?_
      go_simp
      refine ((HaE.out ▸ point_c p _ (HG.out.ext (HX2.out.drew.trans hs_.1)) Hp.out)).mono ?_; rintro e W9_ ⟨rfl, e9_⟩; exact hK_.out _ e9_
    refine RnL.cons (fun g2 A_ W_ hs_ => ?_) ?_
    · have q3_ := (hs_.old 3 (by kernel_rfl) : A_.tmps[3]?.getD undef = .pointer (some ⟨w.heap.size, 0, none⟩))
      refine Rn.val fun K_ hK_ => ?_
      go_simp
      exact hK_.out _ (Ext.refl _)
    refine RnL.cons (fun g2 A_ W_ hs_ => ?_) ?_
    · have q27_ := hs_.val 3 rfl rfl rfl
      have cB0_6 := (HB0_2.out.drew.ext hs_.1).cell 6 rfl
      have cB0_7 := (HB0_2.out.drew.ext hs_.1).cell 7 rfl
      have cB0_8 := (HB0_2.out.drew.ext hs_.1).cell 8 rfl
      have cB0_9 := (HB0_2.out.drew.ext hs_.1).cell 9 rfl
      have cB0_10 := (HB0_2.out.drew.ext hs_.1).cell 10 rfl
      have cB0_11 := (HB0_2.out.drew.ext hs_.1).cell 11 rfl
      refine Rn.val fun K_ hK_ => ?_
      go_simp
      exact hK_.out _ (Ext.refl _)
    refine RnL.cons (fun g2 A_ W_ hs_ => ?_) ?_
    · have q28_ := hs_.val 4 rfl rfl rfl
      refine Rn.val fun K_ hK_ => ?_
      go_simp
      refine ((HbE.out ▸ point_c q _ (HG.out.ext (HX2.out.drew.trans hs_.1)) Hq.out)).mono ?_; rintro e W9_ ⟨rfl, e9_⟩; exact hK_.out _ e9_
    refine RnL.cons (fun g2 A_ W_ hs_ => ?_) ?_
    · have q4_ := (hs_.old 4 (by kernel_rfl) : A_.tmps[4]?.getD undef = .pointer (some ⟨w.heap.size + 1, 0, none⟩))
      have cB1_0 := (HB1_2.out.drew.ext hs_.1).cell 0 rfl
      have cB1_1 := (HB1_2.out.drew.ext hs_.1).cell 1 rfl
      have cB1_2 := (HB1_2.out.drew.ext hs_.1).cell 2 rfl
      have cB1_3 := (HB1_2.out.drew.ext hs_.1).cell 3 rfl
      have cB1_4 := (HB1_2.out.drew.ext hs_.1).cell 4 rfl
      have cB1_5 := (HB1_2.out.drew.ext hs_.1).cell 5 rfl
      refine Rn.val fun K_ hK_ => ?_
      go_simp
      exact hK_.out _ (Ext.refl _)
    refine RnL.cons (fun g2 A_ W_ hs_ => ?_) ?_
    · have q30_ := hs_.val 6 rfl rfl rfl
      refine Rn.val fun K_ hK_ => ?_
      go_simp
      refine ((HcE.out ▸ point_c r _ (HG.out.ext (HX2.out.drew.trans hs_.1)) Hr.out)).mono ?_; rintro e W9_ ⟨rfl, e9_⟩; exact hK_.out _ e9_
    refine RnL.cons (fun g2 A_ W_ hs_ => ?_) ?_
    · have q5_ := (hs_.old 5 (by kernel_rfl) : A_.tmps[5]?.getD undef = .pointer (some ⟨w.heap.size + 1 + 1, 0, none⟩))
      have cB2_0 := (HB2_2.out.drew.ext hs_.1).cell 0 rfl
      have cB2_1 := (HB2_2.out.drew.ext hs_.1).cell 1 rfl
      refine Rn.val fun K_ hK_ => ?_
      go_simp
      exact hK_.out _ (Ext.refl _)
    refine RnL.cons (fun g2 A_ W_ hs_ => ?_) ?_
    · have q32_ := hs_.val 8 rfl rfl rfl
      refine Rn.val fun K_ hK_ => ?_
      go_simp
      refine ((HkE.out ▸ mk2_c n d _ (HG.out.ext (HX2.out.drew.trans hs_.1)) Hk0.out.1 Hk0.out.2.1 Hk0.out.2.2)).mono ?_; rintro e W9_ ⟨rfl, e9_⟩; exact hK_.out _ e9_
    refine RnL.cons (fun g2 A_ W_ hs_ => ?_) ?_
    · refine Rn.mem fun K_ hK_ => ?_
      go_simp
      exact hK_.out
    refine RnL.cons (fun g2 A_ W_ hs_ => ?_) ?_
    · refine Rn.mem fun K_ hK_ => ?_
      go_simp
      exact hK_.out
    refine RnL.cons (fun g2 A_ W_ hs_ => ?_) ?_
    · refine Rn.mem fun K_ hK_ => ?_
      go_simp
      exact hK_.out
    refine RnL.cons (fun g2 A_ W_ hs_ => ?_) ?_
    · have q7_ := (hs_.mem 10 rfl rfl rfl).1
      have q26_ := hs_.val 2 rfl rfl rfl
      refine Rn.put (z := #[.string ⟨#[]⟩, .string ⟨#[]⟩]) (t := 62) rfl fun hB K_ hK_ => ?_
      have c_0 := hB.cell 0 rfl; have f_0 := hB.free 0
      have c_1 := hB.cell 1 rfl; have f_1 := hB.free 1
      have HB := Lib.hid hB; clear hB
      go_simp
      exact hK_.out _ (((Only.refl _ _).set 0 _).set 1 _) ((HB.out.set 0 _).set 1 _)
    refine RnL.cons (fun g2 A_ W_ hs_ => ?_) ?_
    · have q8_ := (hs_.mem 11 rfl rfl rfl).1
      have q29_ := hs_.val 5 rfl rfl rfl
      refine Rn.put (z := #[.string ⟨#[]⟩, .string ⟨#[]⟩]) (t := 62) rfl fun hB K_ hK_ => ?_
      have c_0 := hB.cell 0 rfl; have f_0 := hB.free 0
      have c_1 := hB.cell 1 rfl; have f_1 := hB.free 1
      have HB := Lib.hid hB; clear hB
      go_simp
      exact hK_.out _ (((Only.refl _ _).set 0 _).set 1 _) ((HB.out.set 0 _).set 1 _)
    refine RnL.cons (fun g2 A_ W_ hs_ => ?_) ?_
    · have q9_ := (hs_.mem 12 rfl rfl rfl).1
      have q31_ := hs_.val 7 rfl rfl rfl
      refine Rn.put (z := #[.string ⟨#[]⟩, .string ⟨#[]⟩]) (t := 62) rfl fun hB K_ hK_ => ?_
      have c_0 := hB.cell 0 rfl; have f_0 := hB.free 0
      have c_1 := hB.cell 1 rfl; have f_1 := hB.free 1
      have HB := Lib.hid hB; clear hB
      go_simp
      exact hK_.out _ (((Only.refl _ _).set 0 _).set 1 _) ((HB.out.set 0 _).set 1 _)
    refine RnL.cons (fun g2 A_ W_ hs_ => ?_) ?_
    · have q33_ := hs_.val 9 rfl rfl rfl
      refine Rn.val fun K_ hK_ => ?_
      go_simp
      exact hK_.out _ (Ext.refl _)
    exact RnL.nil
  simp only [fs, Kd.value, puts, Act.put, List.setIfInBounds_toArray, List.set_cons_zero, List.set_cons_succ, Nat.reduceAdd]
  have HX3 : Hid (Ext w w3) := Lib.hid (HX2.out.drew.trans hx_)
  have HB3_3 : Hid (Blk w3 (g2 10) #[.string (qs a.x), .string (qs a.y)] 62) := Lib.hid (hm_ 10 _ _ _ _ rfl).2; have HGEB3 : Hid (w.heap.size ≤ g2 10) := Lib.hid (Nat.le_trans HX2.out.size (hm_ 10 _ _ _ _ rfl).1)
  have HB4_3 : Hid (Blk w3 (g2 11) #[.string (qs a.x), .string (qs a.y)] 62) := Lib.hid (hm_ 11 _ _ _ _ rfl).2; have HGEB4 : Hid (w.heap.size ≤ g2 11) := Lib.hid (Nat.le_trans HX2.out.size (hm_ 11 _ _ _ _ rfl).1)
  have HB5_3 : Hid (Blk w3 (g2 12) #[.string (qs c.x), .string (qs c.y)] 62) := Lib.hid (hm_ 12 _ _ _ _ rfl).2; have HGEB5 : Hid (w.heap.size ≤ g2 12) := Lib.hid (Nat.le_trans HX2.out.size (hm_ 12 _ _ _ _ rfl).1)
  have HNEB3B4 : Hid (g2 10 ≠ g2 11) := Lib.hid (hne_ 10 11 (by decide) ⟨_, _, _, _, rfl⟩ ⟨_, _, _, _, rfl⟩)
  have HNEB3B5 : Hid (g2 10 ≠ g2 12) := Lib.hid (hne_ 10 12 (by decide) ⟨_, _, _, _, rfl⟩ ⟨_, _, _, _, rfl⟩)
  have HNEB4B5 : Hid (g2 11 ≠ g2 12) := Lib.hid (hne_ 11 12 (by decide) ⟨_, _, _, _, rfl⟩ ⟨_, _, _, _, rfl⟩)
  clear hx_ hm_ hne_
  generalize g2 10 = i3 at *
  generalize g2 11 = i4 at *
  generalize g2 12 = i5 at *
  clear g2
  have c3_0 := HB3_3.out.cell 0 rfl
  have c3_1 := HB3_3.out.cell 1 rfl
  have c4_0 := HB4_3.out.cell 0 rfl
  have c4_1 := HB4_3.out.cell 1 rfl
  have c5_0 := HB5_3.out.cell 0 rfl
  have c5_1 := HB5_3.out.cell 1 rfl
  go_wp2_with fail
  refine (vTurn_ok a a c _ (HG.out.ext HX3.out) (Ha.out.mono (by omega)) (Hb.out.mono (by omega)) (Hc.out.mono (by omega))).mono ?_; rintro e w4 ⟨rfl, e4⟩
  have HX4 : Hid (Ext w w4) := Lib.hid (HX3.out.trans e4)
  have HB3_4 : Hid (Blk w4 (i3) #[.string (qs a.x), .string (qs a.y)] 62) := Lib.hid (Blk.ext HB3_3.out e4)
  have HB4_4 : Hid (Blk w4 (i4) #[.string (qs a.x), .string (qs a.y)] 62) := Lib.hid (Blk.ext HB4_3.out e4)
  have HB5_4 : Hid (Blk w4 (i5) #[.string (qs c.x), .string (qs c.y)] 62) := Lib.hid (Blk.ext HB5_3.out e4)
  clear e4 c3_0 c3_1 c4_0 c4_1 c5_0 c5_1
  have c3_0 := HB3_4.out.cell 0 rfl
  have c3_1 := HB3_4.out.cell 1 rfl
  have c4_0 := HB4_4.out.cell 0 rfl
  have c4_1 := HB4_4.out.cell 1 rfl
  have c5_0 := HB5_4.out.cell 0 rfl
  have c5_1 := HB5_4.out.cell 1 rfl
  go_wp2_with fail
  refine (vArea_ok a a c _ (HG.out.ext HX4.out) (Ha.out.mono (by omega)) (Hb.out.mono (by omega)) (Hc.out.mono (by omega)) ((((Hb.out.x.sub Ha.out.x).mul (Hc.out.y.sub Ha.out.y)).sub ((Hb.out.y.sub Ha.out.y).mul (Hc.out.x.sub Ha.out.x))).mono (by omega))).mono ?_; rintro e w5 ⟨rfl, e5⟩
  have HX5 : Hid (Ext w w5) := Lib.hid (HX4.out.trans e5)
  have HB3_5 : Hid (Blk w5 (i3) #[.string (qs a.x), .string (qs a.y)] 62) := Lib.hid (Blk.ext HB3_4.out e5)
  have HB4_5 : Hid (Blk w5 (i4) #[.string (qs a.x), .string (qs a.y)] 62) := Lib.hid (Blk.ext HB4_4.out e5)
  have HB5_5 : Hid (Blk w5 (i5) #[.string (qs c.x), .string (qs c.y)] 62) := Lib.hid (Blk.ext HB5_4.out e5)
  clear e5 c3_0 c3_1 c4_0 c4_1 c5_0 c5_1
  have c3_0 := HB3_5.out.cell 0 rfl
  have c3_1 := HB3_5.out.cell 1 rfl
  have c4_0 := HB4_5.out.cell 0 rfl
  have c4_1 := HB4_5.out.cell 1 rfl
  have c5_0 := HB5_5.out.cell 0 rfl
  have c5_1 := HB5_5.out.cell 1 rfl
  go_wp2_with fail
  refine (vBetween_ok a a c _ (HG.out.ext HX5.out) (Ha.out.mono (by omega)) (Hb.out.mono (by omega)) (Hc.out.mono (by omega))).mono ?_; rintro e w6 ⟨rfl, e6⟩
  have HX6 : Hid (Ext w w6) := Lib.hid (HX5.out.trans e6)
  have HB3_6 : Hid (Blk w6 (i3) #[.string (qs a.x), .string (qs a.y)] 62) := Lib.hid (Blk.ext HB3_5.out e6)
  have HB4_6 : Hid (Blk w6 (i4) #[.string (qs a.x), .string (qs a.y)] 62) := Lib.hid (Blk.ext HB4_5.out e6)
  have HB5_6 : Hid (Blk w6 (i5) #[.string (qs c.x), .string (qs c.y)] 62) := Lib.hid (Blk.ext HB5_5.out e6)
  clear e6 c3_0 c3_1 c4_0 c4_1 c5_0 c5_1
  have c3_0 := HB3_6.out.cell 0 rfl
  have c3_1 := HB3_6.out.cell 1 rfl
  have c4_0 := HB4_6.out.cell 0 rfl
  have c4_1 := HB4_6.out.cell 1 rfl
  go_wp2_with fail
  refine (vToward_ok a a k _ (HG.out.ext HX6.out) (Ha.out.mono (by omega)) (Hb.out.mono (by omega)) (Hk.out.mono (by omega)) ⟨((Ha.out.x.add (Hk.out.mul (Hb.out.x.sub Ha.out.x))).mono (by omega)), ((Ha.out.y.add (Hk.out.mul (Hb.out.y.sub Ha.out.y))).mono (by omega))⟩).mono ?_; rintro e w7 ⟨rfl, e7⟩
  have HX7 : Hid (Ext w w7) := Lib.hid (HX6.out.trans e7)
  have HB3_7 : Hid (Blk w7 (i3) #[.string (qs a.x), .string (qs a.y)] 62) := Lib.hid (Blk.ext HB3_6.out e7)
  have HB4_7 : Hid (Blk w7 (i4) #[.string (qs a.x), .string (qs a.y)] 62) := Lib.hid (Blk.ext HB4_6.out e7)
  have HB5_7 : Hid (Blk w7 (i5) #[.string (qs c.x), .string (qs c.y)] 62) := Lib.hid (Blk.ext HB5_6.out e7)
  clear e7 c3_0 c3_1 c4_0 c4_1
  go_wp2_with fail
  refine wp_name (fun W => Ext w W ∧ Blk W (i3) #[.string (qs a.x), .string (qs a.y)] 62 ∧ Blk W (i4) #[.string (qs a.x), .string (qs a.y)] 62 ∧ Blk W (i5) #[.string (qs c.x), .string (qs c.y)] 62 ∧ Blk W (w7.heap.size) #[.string (qs (a.x + k * (a.x - a.x))), .string (qs (a.y + k * (a.y - a.y)))] 62) ⟨(HX7.out.alloc _), (HB3_7.out.alloc _), (HB4_7.out.alloc _), (HB5_7.out.alloc _), (Blk.new' (w := _) (cs := #[.string (qs (a.x + k * (a.x - a.x))), .string (qs (a.y + k * (a.y - a.y)))]) (t := 62) (by first | rfl | (simp only [World.size_alloc]; done) | (simp only [World.size_alloc]; omega) | simp))⟩ ?_
  rintro w8 ⟨e8, bB3_8, bB4_8, bB5_8, bB6_8⟩
  have HX8 := Lib.hid e8; have HB3_8 := Lib.hid bB3_8; have HB4_8 := Lib.hid bB4_8; have HB5_8 := Lib.hid bB5_8; have HB6_8 := Lib.hid bB6_8
  have HGEB6 : Hid (w.heap.size ≤ w7.heap.size) := Lib.hid (by have := HX7.out.size; first | omega | (simp only []; omega) | (simp; omega))
  clear e8 bB3_8 bB4_8 bB5_8 bB6_8
  refine region_lin [.val (.agg #[.string (qs a.x), .string (qs a.y)]), .val (.agg #[.string (qs a.x), .string (qs a.y)]), .val (.agg #[.string (qs a.x), .string (qs a.y)]), .val (.agg #[.string (qs a.x), .string (qs a.y)]), .val (.string (qs k)), .val (.agg #[.string (qs (a.x + k * (a.x - a.x))), .string (qs (a.y + k * (a.y - a.y)))]), .val (.tuple #[.bool true, .int .i64 0]), .val (.tuple #[.bool true, .int .i64 0]), .val (.bool true), .val (.int .i64 0), .val (.bool true), .val (.int .i64 0)] (by kernel_rfl) (by kernel_rfl) (by kernel_rfl) ?_ (fun g8 w9 hx_ hm_ hne_ => ?_)
  · skip
    refine RnL.cons (fun g8 A_ W_ hs_ => ?_) ?_
    · have q7_ := (hs_.old 7 (by kernel_rfl) : A_.tmps[7]?.getD undef = .pointer (some ⟨i3, 0, none⟩))
      have cB3_0 := (HB3_8.out.drew.ext hs_.1).cell 0 rfl
      have cB3_1 := (HB3_8.out.drew.ext hs_.1).cell 1 rfl
      refine Rn.val fun K_ hK_ => ?_
      go_simp
      exact hK_.out _ (Ext.refl _)
    refine RnL.cons (fun g8 A_ W_ hs_ => ?_) ?_
    · have q8_ := (hs_.old 8 (by kernel_rfl) : A_.tmps[8]?.getD undef = .pointer (some ⟨i4, 0, none⟩))
      have cB4_0 := (HB4_8.out.drew.ext hs_.1).cell 0 rfl
      have cB4_1 := (HB4_8.out.drew.ext hs_.1).cell 1 rfl
      refine Rn.val fun K_ hK_ => ?_
      go_simp
      exact hK_.out _ (Ext.refl _)
    refine RnL.cons (fun g8 A_ W_ hs_ => ?_) ?_
    · have q7_ := (hs_.old 7 (by kernel_rfl) : A_.tmps[7]?.getD undef = .pointer (some ⟨i3, 0, none⟩))
      have cB3_0 := (HB3_8.out.drew.ext hs_.1).cell 0 rfl
      have cB3_1 := (HB3_8.out.drew.ext hs_.1).cell 1 rfl
      refine Rn.val fun K_ hK_ => ?_
      go_simp
      exact hK_.out _ (Ext.refl _)
    refine RnL.cons (fun g8 A_ W_ hs_ => ?_) ?_
    · have q8_ := (hs_.old 8 (by kernel_rfl) : A_.tmps[8]?.getD undef = .pointer (some ⟨i4, 0, none⟩))
      have cB4_0 := (HB4_8.out.drew.ext hs_.1).cell 0 rfl
      have cB4_1 := (HB4_8.out.drew.ext hs_.1).cell 1 rfl
      refine Rn.val fun K_ hK_ => ?_
      go_simp
      exact hK_.out _ (Ext.refl _)
    refine RnL.cons (fun g8 A_ W_ hs_ => ?_) ?_
    · have q10_ := (hs_.old 10 (by kernel_rfl) : A_.tmps[10]?.getD undef = .string (qs k))
      refine Rn.val fun K_ hK_ => ?_
      go_simp
      exact hK_.out _ (Ext.refl _)
    refine RnL.cons (fun g8 A_ W_ hs_ => ?_) ?_
    · have q65_ := hs_.val 2 rfl rfl rfl
      have q66_ := hs_.val 3 rfl rfl rfl
      have q67_ := hs_.val 4 rfl rfl rfl
      refine Rn.val fun K_ hK_ => ?_
      go_simp
      refine (stoward_x a a k _ (HG.out.ext (HX8.out.drew.trans hs_.1)) Ha.out Hb.out Hk.out (by omega) (by omega)).mono ?_; rintro e W9_ ⟨rfl, e9_⟩; exact hK_.out _ e9_
    refine RnL.cons (fun g8 A_ W_ hs_ => ?_) ?_
    · have q63_ := hs_.val 0 rfl rfl rfl
      have q64_ := hs_.val 1 rfl rfl rfl
      have q68_ := hs_.val 5 rfl rfl rfl
      refine Rn.val fun K_ hK_ => ?_
      go_simp
      refine ((btw_same a k ▸ vBetween_ok a a ⟨a.x + k * (a.x - a.x), a.y + k * (a.y - a.y)⟩ _ (HG.out.ext (HX8.out.drew.trans hs_.1)) (Ha.out.mono (by omega)) (Hb.out.mono (by omega)) ⟨((Ha.out.x.add (Hk.out.mul (Hb.out.x.sub Ha.out.x))).mono (by omega)), ((Ha.out.y.add (Hk.out.mul (Hb.out.y.sub Ha.out.y))).mono (by omega))⟩)).mono ?_; rintro e W9_ ⟨rfl, e9_⟩; exact hK_.out _ e9_
    refine RnL.cons (fun g8 A_ W_ hs_ => ?_) ?_
    · have q69_ := hs_.val 6 rfl rfl rfl
      refine Rn.val fun K_ hK_ => ?_
      go_simp
      exact hK_.out _ (Ext.refl _)
    refine RnL.cons (fun g8 A_ W_ hs_ => ?_) ?_
    · have q62_ := hs_.val 7 rfl rfl rfl
      refine Rn.val fun K_ hK_ => ?_
      go_simp
      exact hK_.out _ (Ext.refl _)
    refine RnL.cons (fun g8 A_ W_ hs_ => ?_) ?_
    · have q62_ := hs_.val 7 rfl rfl rfl
      refine Rn.val fun K_ hK_ => ?_
      go_simp
      exact hK_.out _ (Ext.refl _)
    refine RnL.cons (fun g8 A_ W_ hs_ => ?_) ?_
    · have q70_ := hs_.val 8 rfl rfl rfl
      refine Rn.val fun K_ hK_ => ?_
      go_simp
      exact hK_.out _ (Ext.refl _)
    refine RnL.cons (fun g8 A_ W_ hs_ => ?_) ?_
    · have q71_ := hs_.val 9 rfl rfl rfl
      refine Rn.val fun K_ hK_ => ?_
      go_simp
      exact hK_.out _ (Ext.refl _)
    exact RnL.nil
  simp only [fs, Kd.value, puts, Act.put, List.setIfInBounds_toArray, List.set_cons_zero, List.set_cons_succ]
  have HX9 : Hid (Ext w w9) := Lib.hid (HX8.out.drew.trans hx_)
  have HB3_9 := Lib.hid (HB3_8.out.drew.ext hx_)
  have HB4_9 := Lib.hid (HB4_8.out.drew.ext hx_)
  have HB5_9 := Lib.hid (HB5_8.out.drew.ext hx_)
  have HB6_9 := Lib.hid (HB6_8.out.drew.ext hx_)
  clear hx_ hm_ hne_
  have c3_0 := HB3_9.out.cell 0 rfl
  have c3_1 := HB3_9.out.cell 1 rfl
  have c4_0 := HB4_9.out.cell 0 rfl
  have c4_1 := HB4_9.out.cell 1 rfl
  go_wp2_with fail
  refine wp_name (fun W => Ext w W ∧ Blk W (i3) #[.string (qs a.x), .string (qs a.y)] 62 ∧ Blk W (i4) #[.string (qs a.x), .string (qs a.y)] 62 ∧ Blk W (i5) #[.string (qs c.x), .string (qs c.y)] 62 ∧ Blk W (w7.heap.size) #[.string (qs (a.x + k * (a.x - a.x))), .string (qs (a.y + k * (a.y - a.y)))] 62) ⟨HX9.out, HB3_9.out, HB4_9.out, HB5_9.out, HB6_9.out⟩ ?_
  rintro w10 ⟨e10, bB3_10, bB4_10, bB5_10, bB6_10⟩
  have HX10 := Lib.hid e10; have HB3_10 := Lib.hid bB3_10; have HB4_10 := Lib.hid bB4_10; have HB5_10 := Lib.hid bB5_10; have HB6_10 := Lib.hid bB6_10
  clear e10 bB3_10 bB4_10 bB5_10 bB6_10 c3_0 c3_1 c4_0 c4_1
  refine region_lin [.val (.int .i64 0), .val (.int .i64 0), .val (.int .i64 0), .val (.int .i64 0), .val (.int .i64 0), .mem (fun b_ => .slice (some ⟨b_, 0, none⟩) 5 5) #[.int .i64 0, .int .i64 0, .int .i64 0, .int .i64 0, .int .i64 0] 32 Option.none, .val (.int .i64 0), .val (.bool true), .val (.bool true), .val (.int .i64 (((a.x - a.x) * (c.y - a.y) - (a.y - a.y) * (c.x - a.x)).num.sign)), .val (.agg #[.string (qs a.x), .string (qs a.y)]), .val (.agg #[.string (qs a.x), .string (qs a.y)]), .val (.agg #[.string (qs c.x), .string (qs c.y)]), .val (.int .i64 (((a.x - a.x) * (c.y - a.y) - (a.y - a.y) * (c.x - a.x)).num.sign)), .val (.bool true), .val (.bool true), .val (.bool true), .val (.string (qs ((a.x - a.x) * (c.y - a.y) - (a.y - a.y) * (c.x - a.x)))), .val (.agg #[.string (qs a.x), .string (qs a.y)]), .val (.agg #[.string (qs a.x), .string (qs a.y)]), .val (.agg #[.string (qs c.x), .string (qs c.y)]), .val (.string (qs ((a.x - a.x) * (c.y - a.y) - (a.y - a.y) * (c.x - a.x)))), .val (.bool true), .val (.bool true), .val (.bool true), .val (.bool (vbtw a a c)), .val (.agg #[.string (qs a.x), .string (qs a.y)]), .val (.agg #[.string (qs a.x), .string (qs a.y)]), .val (.agg #[.string (qs c.x), .string (qs c.y)]), .val (.bool (vbtw a a c)), .val (.bool true), .val (.bool true), .val (.bool true), .val (.agg #[.string (qs (a.x + k * (a.x - a.x))), .string (qs (a.y + k * (a.y - a.y)))]), .val (.agg #[.string (qs a.x), .string (qs a.y)]), .val (.agg #[.string (qs a.x), .string (qs a.y)]), .val (.string (qs k)), .val (.agg #[.string (qs (a.x + k * (a.x - a.x))), .string (qs (a.y + k * (a.y - a.y)))]), .val (.bool true), .val (.bool true), .val (.bool true), .val (.bool true), .val (.bool true), .val (.bool true), .val (.bool true), .val (.bool true)] (by kernel_rfl) (by kernel_rfl) (by kernel_rfl) ?_ (fun g10 w11 hx_ hm_ hne_ => ?_)
  · skip
    refine RnL.cons (fun g10 A_ W_ hs_ => ?_) ?_
    · have q12_ := (hs_.old 12 (by kernel_rfl) : A_.tmps[12]?.getD undef = .int .i64 0)
      refine Rn.val fun K_ hK_ => ?_
      go_simp
      exact hK_.out _ (Ext.refl _)
    refine RnL.cons (fun g10 A_ W_ hs_ => ?_) ?_
    · have q14_ := (hs_.old 14 (by kernel_rfl) : A_.tmps[14]?.getD undef = .int .i64 0)
      refine Rn.val fun K_ hK_ => ?_
      go_simp
      exact hK_.out _ (Ext.refl _)
    refine RnL.cons (fun g10 A_ W_ hs_ => ?_) ?_
    · have q16_ := (hs_.old 16 (by kernel_rfl) : A_.tmps[16]?.getD undef = .int .i64 0)
      refine Rn.val fun K_ hK_ => ?_
      go_simp
      exact hK_.out _ (Ext.refl _)
    refine RnL.cons (fun g10 A_ W_ hs_ => ?_) ?_
    · have q18_ := (hs_.old 18 (by kernel_rfl) : A_.tmps[18]?.getD undef = .int .i64 0)
      refine Rn.val fun K_ hK_ => ?_
      go_simp
      exact hK_.out _ (Ext.refl _)
    refine RnL.cons (fun g10 A_ W_ hs_ => ?_) ?_
    · have q20_ := (hs_.old 20 (by kernel_rfl) : A_.tmps[20]?.getD undef = .int .i64 0)
      refine Rn.val fun K_ hK_ => ?_
      go_simp
      exact hK_.out _ (Ext.refl _)
    refine RnL.cons (fun g10 A_ W_ hs_ => ?_) ?_
    · have q79_ := hs_.val 0 rfl rfl rfl
      have q80_ := hs_.val 1 rfl rfl rfl
      have q81_ := hs_.val 2 rfl rfl rfl
      have q82_ := hs_.val 3 rfl rfl rfl
      have q83_ := hs_.val 4 rfl rfl rfl
      refine Rn.mem fun K_ hK_ => ?_
      go_simp
      exact hK_.out
    refine RnL.cons (fun g10 A_ W_ hs_ => ?_) ?_
    · have q84_ := (hs_.mem 5 rfl rfl rfl).1
      refine Rn.val fun K_ hK_ => ?_
      go_simp
      refine (((by decide : ferr [0, 0, 0, 0, 0] = 0) ▸ first5_c 0 0 0 0 0 (g10 5) _ ((hs_.mem 5 rfl rfl rfl).2.2 rfl))).mono ?_; rintro e _ ⟨rfl, rfl⟩; exact hK_.out _ (Ext.refl _)
    refine RnL.cons (fun g10 A_ W_ hs_ => ?_) ?_
    · have q85_ := hs_.val 6 rfl rfl rfl
      refine Rn.val fun K_ hK_ => ?_
      go_simp
      exact hK_.out _ (Ext.refl _)
    refine RnL.cons (fun g10 A_ W_ hs_ => ?_) ?_
    · have q86_ := hs_.val 7 rfl rfl rfl
      refine Rn.val fun K_ hK_ => ?_
      go_simp
      exact hK_.out _ (Ext.refl _)
    refine RnL.cons (fun g10 A_ W_ hs_ => ?_) ?_
    · have q11_ := (hs_.old 11 (by kernel_rfl) : A_.tmps[11]?.getD undef = .int .i64 (((a.x - a.x) * (c.y - a.y) - (a.y - a.y) * (c.x - a.x)).num.sign))
      refine Rn.val fun K_ hK_ => ?_
      go_simp
      exact hK_.out _ (Ext.refl _)
    refine RnL.cons (fun g10 A_ W_ hs_ => ?_) ?_
    · have q7_ := (hs_.old 7 (by kernel_rfl) : A_.tmps[7]?.getD undef = .pointer (some ⟨i3, 0, none⟩))
      have cB3_0 := (HB3_10.out.drew.ext hs_.1).cell 0 rfl
      have cB3_1 := (HB3_10.out.drew.ext hs_.1).cell 1 rfl
      refine Rn.val fun K_ hK_ => ?_
      go_simp
      exact hK_.out _ (Ext.refl _)
    refine RnL.cons (fun g10 A_ W_ hs_ => ?_) ?_
    · have q8_ := (hs_.old 8 (by kernel_rfl) : A_.tmps[8]?.getD undef = .pointer (some ⟨i4, 0, none⟩))
      have cB4_0 := (HB4_10.out.drew.ext hs_.1).cell 0 rfl
      have cB4_1 := (HB4_10.out.drew.ext hs_.1).cell 1 rfl
      refine Rn.val fun K_ hK_ => ?_
      go_simp
      exact hK_.out _ (Ext.refl _)
    refine RnL.cons (fun g10 A_ W_ hs_ => ?_) ?_
    · have q9_ := (hs_.old 9 (by kernel_rfl) : A_.tmps[9]?.getD undef = .pointer (some ⟨i5, 0, none⟩))
      have cB5_0 := (HB5_10.out.drew.ext hs_.1).cell 0 rfl
      have cB5_1 := (HB5_10.out.drew.ext hs_.1).cell 1 rfl
      refine Rn.val fun K_ hK_ => ?_
      go_simp
      exact hK_.out _ (Ext.refl _)
    refine RnL.cons (fun g10 A_ W_ hs_ => ?_) ?_
    · have q89_ := hs_.val 10 rfl rfl rfl
      have q90_ := hs_.val 11 rfl rfl rfl
      have q91_ := hs_.val 12 rfl rfl rfl
      refine Rn.val fun K_ hK_ => ?_
      go_simp
      refine (sturn_x a a c _ (HG.out.ext (HX10.out.drew.trans hs_.1)) Ha.out Hb.out Hc.out (by omega)).mono ?_; rintro e W9_ ⟨rfl, e9_⟩; exact hK_.out _ e9_
    refine RnL.cons (fun g10 A_ W_ hs_ => ?_) ?_
    · have q88_ := hs_.val 9 rfl rfl rfl
      have q92_ := hs_.val 13 rfl rfl rfl
      refine Rn.val fun K_ hK_ => ?_
      go_simp
      exact hK_.out _ (Ext.refl _)
    refine RnL.cons (fun g10 A_ W_ hs_ => ?_) ?_
    · have q87_ := hs_.val 8 rfl rfl rfl
      have q93_ := hs_.val 14 rfl rfl rfl
      refine Rn.val fun K_ hK_ => ?_
      go_simp
      exact hK_.out _ (Ext.refl _)
    refine RnL.cons (fun g10 A_ W_ hs_ => ?_) ?_
    · have q94_ := hs_.val 15 rfl rfl rfl
      refine Rn.val fun K_ hK_ => ?_
      go_simp
      exact hK_.out _ (Ext.refl _)
    refine RnL.cons (fun g10 A_ W_ hs_ => ?_) ?_
    · have q13_ := (hs_.old 13 (by kernel_rfl) : A_.tmps[13]?.getD undef = .string (qs ((a.x - a.x) * (c.y - a.y) - (a.y - a.y) * (c.x - a.x))))
      refine Rn.val fun K_ hK_ => ?_
      go_simp
      exact hK_.out _ (Ext.refl _)
    refine RnL.cons (fun g10 A_ W_ hs_ => ?_) ?_
    · have q7_ := (hs_.old 7 (by kernel_rfl) : A_.tmps[7]?.getD undef = .pointer (some ⟨i3, 0, none⟩))
      have cB3_0 := (HB3_10.out.drew.ext hs_.1).cell 0 rfl
      have cB3_1 := (HB3_10.out.drew.ext hs_.1).cell 1 rfl
      refine Rn.val fun K_ hK_ => ?_
      go_simp
      exact hK_.out _ (Ext.refl _)
    refine RnL.cons (fun g10 A_ W_ hs_ => ?_) ?_
    · have q8_ := (hs_.old 8 (by kernel_rfl) : A_.tmps[8]?.getD undef = .pointer (some ⟨i4, 0, none⟩))
      have cB4_0 := (HB4_10.out.drew.ext hs_.1).cell 0 rfl
      have cB4_1 := (HB4_10.out.drew.ext hs_.1).cell 1 rfl
      refine Rn.val fun K_ hK_ => ?_
      go_simp
      exact hK_.out _ (Ext.refl _)
    refine RnL.cons (fun g10 A_ W_ hs_ => ?_) ?_
    · have q9_ := (hs_.old 9 (by kernel_rfl) : A_.tmps[9]?.getD undef = .pointer (some ⟨i5, 0, none⟩))
      have cB5_0 := (HB5_10.out.drew.ext hs_.1).cell 0 rfl
      have cB5_1 := (HB5_10.out.drew.ext hs_.1).cell 1 rfl
      refine Rn.val fun K_ hK_ => ?_
      go_simp
      exact hK_.out _ (Ext.refl _)
    refine RnL.cons (fun g10 A_ W_ hs_ => ?_) ?_
    · have q97_ := hs_.val 18 rfl rfl rfl
      have q98_ := hs_.val 19 rfl rfl rfl
      have q99_ := hs_.val 20 rfl rfl rfl
      refine Rn.val fun K_ hK_ => ?_
      go_simp
      refine (sarea_x a a c _ (HG.out.ext (HX10.out.drew.trans hs_.1)) Ha.out Hb.out Hc.out (by omega)).mono ?_; rintro e W9_ ⟨rfl, e9_⟩; exact hK_.out _ e9_
    refine RnL.cons (fun g10 A_ W_ hs_ => ?_) ?_
    · have q96_ := hs_.val 17 rfl rfl rfl
      have q100_ := hs_.val 21 rfl rfl rfl
      refine Rn.val fun K_ hK_ => ?_
      go_simp
      exact hK_.out _ (Ext.refl _)
    refine RnL.cons (fun g10 A_ W_ hs_ => ?_) ?_
    · have q95_ := hs_.val 16 rfl rfl rfl
      have q101_ := hs_.val 22 rfl rfl rfl
      refine Rn.val fun K_ hK_ => ?_
      go_simp
      exact hK_.out _ (Ext.refl _)
    refine RnL.cons (fun g10 A_ W_ hs_ => ?_) ?_
    · have q102_ := hs_.val 23 rfl rfl rfl
      refine Rn.val fun K_ hK_ => ?_
      go_simp
      exact hK_.out _ (Ext.refl _)
    refine RnL.cons (fun g10 A_ W_ hs_ => ?_) ?_
    · have q15_ := (hs_.old 15 (by kernel_rfl) : A_.tmps[15]?.getD undef = .bool (vbtw a a c))
      refine Rn.val fun K_ hK_ => ?_
      go_simp
      exact hK_.out _ (Ext.refl _)
    refine RnL.cons (fun g10 A_ W_ hs_ => ?_) ?_
    · have q7_ := (hs_.old 7 (by kernel_rfl) : A_.tmps[7]?.getD undef = .pointer (some ⟨i3, 0, none⟩))
      have cB3_0 := (HB3_10.out.drew.ext hs_.1).cell 0 rfl
      have cB3_1 := (HB3_10.out.drew.ext hs_.1).cell 1 rfl
      refine Rn.val fun K_ hK_ => ?_
      go_simp
      exact hK_.out _ (Ext.refl _)
    refine RnL.cons (fun g10 A_ W_ hs_ => ?_) ?_
    · have q8_ := (hs_.old 8 (by kernel_rfl) : A_.tmps[8]?.getD undef = .pointer (some ⟨i4, 0, none⟩))
      have cB4_0 := (HB4_10.out.drew.ext hs_.1).cell 0 rfl
      have cB4_1 := (HB4_10.out.drew.ext hs_.1).cell 1 rfl
      refine Rn.val fun K_ hK_ => ?_
      go_simp
      exact hK_.out _ (Ext.refl _)
    refine RnL.cons (fun g10 A_ W_ hs_ => ?_) ?_
    · have q9_ := (hs_.old 9 (by kernel_rfl) : A_.tmps[9]?.getD undef = .pointer (some ⟨i5, 0, none⟩))
      have cB5_0 := (HB5_10.out.drew.ext hs_.1).cell 0 rfl
      have cB5_1 := (HB5_10.out.drew.ext hs_.1).cell 1 rfl
      refine Rn.val fun K_ hK_ => ?_
      go_simp
      exact hK_.out _ (Ext.refl _)
    refine RnL.cons (fun g10 A_ W_ hs_ => ?_) ?_
    · have q105_ := hs_.val 26 rfl rfl rfl
      have q106_ := hs_.val 27 rfl rfl rfl
      have q107_ := hs_.val 28 rfl rfl rfl
      refine Rn.val fun K_ hK_ => ?_
      go_simp
      refine (sbtw_v a a c _ (HG.out.ext (HX10.out.drew.trans hs_.1)) Ha.out Hb.out Hc.out (by decide)).mono ?_; rintro e W9_ ⟨rfl, e9_⟩; exact hK_.out _ e9_
    refine RnL.cons (fun g10 A_ W_ hs_ => ?_) ?_
    · have q104_ := hs_.val 25 rfl rfl rfl
      have q108_ := hs_.val 29 rfl rfl rfl
      refine Rn.val fun K_ hK_ => ?_
      go_simp
      exact hK_.out _ (Ext.refl _)
    refine RnL.cons (fun g10 A_ W_ hs_ => ?_) ?_
    · have q103_ := hs_.val 24 rfl rfl rfl
      have q109_ := hs_.val 30 rfl rfl rfl
      refine Rn.val fun K_ hK_ => ?_
      go_simp
      exact hK_.out _ (Ext.refl _)
    refine RnL.cons (fun g10 A_ W_ hs_ => ?_) ?_
    · have q110_ := hs_.val 31 rfl rfl rfl
      refine Rn.val fun K_ hK_ => ?_
      go_simp
      exact hK_.out _ (Ext.refl _)
    refine RnL.cons (fun g10 A_ W_ hs_ => ?_) ?_
    · have q17_ := (hs_.old 17 (by kernel_rfl) : A_.tmps[17]?.getD undef = .pointer (some ⟨w7.heap.size, 0, none⟩))
      have cB6_0 := (HB6_10.out.drew.ext hs_.1).cell 0 rfl
      have cB6_1 := (HB6_10.out.drew.ext hs_.1).cell 1 rfl
      refine Rn.val fun K_ hK_ => ?_
      go_simp
      exact hK_.out _ (Ext.refl _)
    refine RnL.cons (fun g10 A_ W_ hs_ => ?_) ?_
    · have q7_ := (hs_.old 7 (by kernel_rfl) : A_.tmps[7]?.getD undef = .pointer (some ⟨i3, 0, none⟩))
      have cB3_0 := (HB3_10.out.drew.ext hs_.1).cell 0 rfl
      have cB3_1 := (HB3_10.out.drew.ext hs_.1).cell 1 rfl
      refine Rn.val fun K_ hK_ => ?_
      go_simp
      exact hK_.out _ (Ext.refl _)
    refine RnL.cons (fun g10 A_ W_ hs_ => ?_) ?_
    · have q8_ := (hs_.old 8 (by kernel_rfl) : A_.tmps[8]?.getD undef = .pointer (some ⟨i4, 0, none⟩))
      have cB4_0 := (HB4_10.out.drew.ext hs_.1).cell 0 rfl
      have cB4_1 := (HB4_10.out.drew.ext hs_.1).cell 1 rfl
      refine Rn.val fun K_ hK_ => ?_
      go_simp
      exact hK_.out _ (Ext.refl _)
    refine RnL.cons (fun g10 A_ W_ hs_ => ?_) ?_
    · have q10_ := (hs_.old 10 (by kernel_rfl) : A_.tmps[10]?.getD undef = .string (qs k))
      refine Rn.val fun K_ hK_ => ?_
      go_simp
      exact hK_.out _ (Ext.refl _)
    refine RnL.cons (fun g10 A_ W_ hs_ => ?_) ?_
    · have q113_ := hs_.val 34 rfl rfl rfl
      have q114_ := hs_.val 35 rfl rfl rfl
      have q115_ := hs_.val 36 rfl rfl rfl
      refine Rn.val fun K_ hK_ => ?_
      go_simp
      refine (stoward_x a a k _ (HG.out.ext (HX10.out.drew.trans hs_.1)) Ha.out Hb.out Hk.out (by omega) (by omega)).mono ?_; rintro e W9_ ⟨rfl, e9_⟩; exact hK_.out _ e9_
    refine RnL.cons (fun g10 A_ W_ hs_ => ?_) ?_
    · have q112_ := hs_.val 33 rfl rfl rfl
      have q116_ := hs_.val 37 rfl rfl rfl
      refine Rn.val fun K_ hK_ => ?_
      go_simp
      exact hK_.out _ (Ext.refl _)
    refine RnL.cons (fun g10 A_ W_ hs_ => ?_) ?_
    · have q111_ := hs_.val 32 rfl rfl rfl
      have q117_ := hs_.val 38 rfl rfl rfl
      refine Rn.val fun K_ hK_ => ?_
      go_simp
      exact hK_.out _ (Ext.refl _)
    refine RnL.cons (fun g10 A_ W_ hs_ => ?_) ?_
    · have q118_ := hs_.val 39 rfl rfl rfl
      refine Rn.val fun K_ hK_ => ?_
      go_simp
      exact hK_.out _ (Ext.refl _)
    refine RnL.cons (fun g10 A_ W_ hs_ => ?_) ?_
    · have q19_ := (hs_.old 19 (by kernel_rfl) : A_.tmps[19]?.getD undef = .bool true)
      refine Rn.val fun K_ hK_ => ?_
      go_simp
      exact hK_.out _ (Ext.refl _)
    refine RnL.cons (fun g10 A_ W_ hs_ => ?_) ?_
    · have q21_ := (hs_.old 21 (by kernel_rfl) : A_.tmps[21]?.getD undef = .bool true)
      refine Rn.val fun K_ hK_ => ?_
      go_simp
      exact hK_.out _ (Ext.refl _)
    refine RnL.cons (fun g10 A_ W_ hs_ => ?_) ?_
    · have q120_ := hs_.val 41 rfl rfl rfl
      have q121_ := hs_.val 42 rfl rfl rfl
      refine Rn.val fun K_ hK_ => ?_
      go_simp
      exact hK_.out _ (Ext.refl _)
    refine RnL.cons (fun g10 A_ W_ hs_ => ?_) ?_
    · have q119_ := hs_.val 40 rfl rfl rfl
      have q122_ := hs_.val 43 rfl rfl rfl
      refine Rn.val fun K_ hK_ => ?_
      go_simp
      exact hK_.out _ (Ext.refl _)
    refine RnL.cons (fun g10 A_ W_ hs_ => ?_) ?_
    · have q123_ := hs_.val 44 rfl rfl rfl
      refine Rn.val fun K_ hK_ => ?_
      go_simp
      exact hK_.out _ (Ext.refl _)
    exact RnL.nil
  simp only [fs, Kd.value, puts, Act.put, List.setIfInBounds_toArray, List.set_cons_zero, List.set_cons_succ, Nat.reduceAdd]
  have HX11 : Hid (Ext w w11) := Lib.hid (HX10.out.drew.trans hx_)
  have HB7_11 : Hid (Blk w11 (g10 5) #[.int .i64 0, .int .i64 0, .int .i64 0, .int .i64 0, .int .i64 0] 32) := Lib.hid (hm_ 5 _ _ _ _ rfl).2; have HGEB7 : Hid (w.heap.size ≤ g10 5) := Lib.hid (Nat.le_trans HX10.out.size (hm_ 5 _ _ _ _ rfl).1)
  clear hx_ hm_ hne_
  generalize g10 5 = i7 at *
  clear g10
  go_wp2
  go_ret
  exact ⟨rfl, HX11.out⟩

set_option maxRecDepth 100000 in
set_option maxHeartbeats 16000000 in
theorem turns_walkB0 (p q r : Pla) (n : Int) (d : Nat) (w : World) (g : Gd w) (hp : PlaOk p) (hq : PlaOk q) (hr : PlaOk r) (hn : -32768 ≤ n ∧ n ≤ 32767 ∧ d ≤ 255) (h : (ppt p).x ≠ (ppt q).x) : Calls Tryz.prog 11 #[.agg #[.int .i16 p.n0, .int .u8 (p.d0 : Int), .int .i16 p.n1, .int .u8 (p.d1 : Int), .int .i16 p.n2, .int .u8 (p.d2 : Int), .int .i16 q.n0, .int .u8 (q.d0 : Int), .int .i16 q.n1, .int .u8 (q.d1 : Int), .int .i16 q.n2, .int .u8 (q.d2 : Int)], .agg #[.int .i16 r.n0, .int .u8 (r.d0 : Int), .int .i16 r.n1, .int .u8 (r.d1 : Int), .int .i16 r.n2, .int .u8 (r.d2 : Int)], .agg #[.int .i16 n, .int .u8 (d : Int)]] w (Ret w (.bool true)) := by
  have Hp := Lib.hid hp
  have Hq := Lib.hid hq
  have Hr := Lib.hid hr
  have HG := Lib.hid g
  clear hp hq hr g
  have HH := Lib.hid h; clear h
  obtain ⟨a, ea⟩ : ∃ a, ppt p = a := ⟨_, rfl⟩
  have HaE := Lib.hid ea; have Ha : Hid (PB 5 a) := Lib.hid (ea ▸ Hp.out.p); clear ea
  obtain ⟨b, eb⟩ : ∃ b, ppt q = b := ⟨_, rfl⟩
  have HbE := Lib.hid eb; have Hb : Hid (PB 5 b) := Lib.hid (eb ▸ Hq.out.p); clear eb
  obtain ⟨c, ec⟩ : ∃ c, ppt r = c := ⟨_, rfl⟩
  have HcE := Lib.hid ec; have Hc : Hid (PB 5 c) := Lib.hid (ec ▸ Hr.out.p); clear ec
  have Hk0 := Lib.hid hn; clear hn
  obtain ⟨k, ek⟩ : ∃ k, sm n d = k := ⟨_, rfl⟩
  have HkE := Lib.hid ek; have Hk : Hid (QB 5 k) := Lib.hid (ek ▸ sm_qb Hk0.out.1 Hk0.out.2.1 Hk0.out.2.2); clear ek
  have hx : a.x ≠ b.x := by have h := HH.out; rw [HaE.out, HbE.out] at h; exact h
  have hx_t := qs_neL hx
  have HAB : Hid (a ≠ b) := Lib.hid (fun e => hx (congrArg P2.x e))
  clear hx
  go_enter Tryz.func11, Tryz.ntmps11
  go_wp2_with fail
  refine (known_c _ (HG.out.ext ((((Ext.refl w).alloc _).alloc _).alloc _))).mono ?_; rintro e w1 ⟨rfl, e1⟩
  have HX1 : Hid (Ext w w1) := Lib.hid (((((Ext.refl w).alloc _).alloc _).alloc _).trans e1)
  have HB0_1 : Hid (Blk w1 (w.heap.size) #[.int .i16 p.n0, .int .u8 (p.d0 : Int), .int .i16 p.n1, .int .u8 (p.d1 : Int), .int .i16 p.n2, .int .u8 (p.d2 : Int), .int .i16 q.n0, .int .u8 (q.d0 : Int), .int .i16 q.n1, .int .u8 (q.d1 : Int), .int .i16 q.n2, .int .u8 (q.d2 : Int)] 44) := Lib.hid (Blk.ext (((Blk.new' (w := _) (cs := #[.int .i16 p.n0, .int .u8 (p.d0 : Int), .int .i16 p.n1, .int .u8 (p.d1 : Int), .int .i16 p.n2, .int .u8 (p.d2 : Int), .int .i16 q.n0, .int .u8 (q.d0 : Int), .int .i16 q.n1, .int .u8 (q.d1 : Int), .int .i16 q.n2, .int .u8 (q.d2 : Int)]) (t := 44) (by first | rfl | (simp only [World.size_alloc]; done) | (simp only [World.size_alloc]; omega) | simp)).alloc _).alloc _) e1)
  have HB1_1 : Hid (Blk w1 (w.heap.size + 1) #[.int .i16 r.n0, .int .u8 (r.d0 : Int), .int .i16 r.n1, .int .u8 (r.d1 : Int), .int .i16 r.n2, .int .u8 (r.d2 : Int)] 26) := Lib.hid (Blk.ext ((Blk.new' (w := _) (cs := #[.int .i16 r.n0, .int .u8 (r.d0 : Int), .int .i16 r.n1, .int .u8 (r.d1 : Int), .int .i16 r.n2, .int .u8 (r.d2 : Int)]) (t := 26) (by first | rfl | (simp only [World.size_alloc]; done) | (simp only [World.size_alloc]; omega) | simp)).alloc _) e1)
  have HB2_1 : Hid (Blk w1 (w.heap.size + 1 + 1) #[.int .i16 n, .int .u8 (d : Int)] 24) := Lib.hid (Blk.ext (Blk.new' (w := _) (cs := #[.int .i16 n, .int .u8 (d : Int)]) (t := 24) (by first | rfl | (simp only [World.size_alloc]; done) | (simp only [World.size_alloc]; omega) | simp)) e1)
  have HGEB0 : Hid (w.heap.size ≤ w.heap.size) := Lib.hid (by first | omega | (simp only []; omega) | (simp; omega))
  have HGEB1 : Hid (w.heap.size ≤ w.heap.size + 1) := Lib.hid (by first | omega | (simp only []; omega) | (simp; omega))
  have HGEB2 : Hid (w.heap.size ≤ w.heap.size + 1 + 1) := Lib.hid (by first | omega | (simp only []; omega) | (simp; omega))
  clear e1
  go_wp2_with fail
  refine wp_name (fun W => Ext w W ∧ Blk W (w.heap.size) #[.int .i16 p.n0, .int .u8 (p.d0 : Int), .int .i16 p.n1, .int .u8 (p.d1 : Int), .int .i16 p.n2, .int .u8 (p.d2 : Int), .int .i16 q.n0, .int .u8 (q.d0 : Int), .int .i16 q.n1, .int .u8 (q.d1 : Int), .int .i16 q.n2, .int .u8 (q.d2 : Int)] 44 ∧ Blk W (w.heap.size + 1) #[.int .i16 r.n0, .int .u8 (r.d0 : Int), .int .i16 r.n1, .int .u8 (r.d1 : Int), .int .i16 r.n2, .int .u8 (r.d2 : Int)] 26 ∧ Blk W (w.heap.size + 1 + 1) #[.int .i16 n, .int .u8 (d : Int)] 24) ⟨HX1.out, HB0_1.out, HB1_1.out, HB2_1.out⟩ ?_
  rintro w2 ⟨e2, bB0_2, bB1_2, bB2_2⟩
  have HX2 := Lib.hid e2; have HB0_2 := Lib.hid bB0_2; have HB1_2 := Lib.hid bB1_2; have HB2_2 := Lib.hid bB2_2
  clear e2 bB0_2 bB1_2 bB2_2
  refine region_lin [.val (.pointer (some ⟨w.heap.size, 0, none⟩)), .val (.agg #[.int .i16 p.n0, .int .u8 (p.d0 : Int), .int .i16 p.n1, .int .u8 (p.d1 : Int), .int .i16 p.n2, .int .u8 (p.d2 : Int)]), .val (.agg #[.string (qs a.x), .string (qs a.y)]), .val (.pointer (some ⟨w.heap.size, 6, none⟩)), .val (.agg #[.int .i16 q.n0, .int .u8 (q.d0 : Int), .int .i16 q.n1, .int .u8 (q.d1 : Int), .int .i16 q.n2, .int .u8 (q.d2 : Int)]), .val (.agg #[.string (qs b.x), .string (qs b.y)]), .val (.agg #[.int .i16 r.n0, .int .u8 (r.d0 : Int), .int .i16 r.n1, .int .u8 (r.d1 : Int), .int .i16 r.n2, .int .u8 (r.d2 : Int)]), .val (.agg #[.string (qs c.x), .string (qs c.y)]), .val (.agg #[.int .i16 n, .int .u8 (d : Int)]), .val (.string (qs k)), .mem (fun b_ => .pointer (some ⟨b_, 0, none⟩)) #[.string ⟨#[]⟩, .string ⟨#[]⟩] 62 (Option.some 13), .mem (fun b_ => .pointer (some ⟨b_, 0, none⟩)) #[.string ⟨#[]⟩, .string ⟨#[]⟩] 62 (Option.some 14), .mem (fun b_ => .pointer (some ⟨b_, 0, none⟩)) #[.string ⟨#[]⟩, .string ⟨#[]⟩] 62 (Option.some 15), .put 10 #[.string (qs a.x), .string (qs a.y)], .put 11 #[.string (qs b.x), .string (qs b.y)], .put 12 #[.string (qs c.x), .string (qs c.y)], .val (.string (qs k))] (by kernel_rfl) (by kernel_rfl) (by kernel_rfl) ?_ (fun g2 w3 hx_ hm_ hne_ => ?_)
  · skip
    refine RnL.cons (fun g2 A_ W_ hs_ => ?_) ?_
    · have q3_ := (hs_.old 3 (by kernel_rfl) : A_.tmps[3]?.getD undef = .pointer (some ⟨w.heap.size, 0, none⟩))
      refine Rn.val fun K_ hK_ => ?_
      go_simp
      exact hK_.out _ (Ext.refl _)
    refine RnL.cons (fun g2 A_ W_ hs_ => ?_) ?_
    · have q24_ := hs_.val 0 rfl rfl rfl
      have cB0_0 := (HB0_2.out.drew.ext hs_.1).cell 0 rfl
      have cB0_1 := (HB0_2.out.drew.ext hs_.1).cell 1 rfl
      have cB0_2 := (HB0_2.out.drew.ext hs_.1).cell 2 rfl
      have cB0_3 := (HB0_2.out.drew.ext hs_.1).cell 3 rfl
      have cB0_4 := (HB0_2.out.drew.ext hs_.1).cell 4 rfl
      have cB0_5 := (HB0_2.out.drew.ext hs_.1).cell 5 rfl
      refine Rn.val fun K_ hK_ => ?_
      go_simp
      exact hK_.out _ (Ext.refl _)
    refine RnL.cons (fun g2 A_ W_ hs_ => ?_) ?_
    · have q25_ := hs_.val 1 rfl rfl rfl
      refine Rn.val fun K_ hK_ => ?_
      go_simp
      refine ((HaE.out ▸ point_c p _ (HG.out.ext (HX2.out.drew.trans hs_.1)) Hp.out)).mono ?_; rintro e W9_ ⟨rfl, e9_⟩; exact hK_.out _ e9_
    refine RnL.cons (fun g2 A_ W_ hs_ => ?_) ?_
    · have q3_ := (hs_.old 3 (by kernel_rfl) : A_.tmps[3]?.getD undef = .pointer (some ⟨w.heap.size, 0, none⟩))
      refine Rn.val fun K_ hK_ => ?_
      go_simp
      exact hK_.out _ (Ext.refl _)
    refine RnL.cons (fun g2 A_ W_ hs_ => ?_) ?_
    · have q27_ := hs_.val 3 rfl rfl rfl
      have cB0_6 := (HB0_2.out.drew.ext hs_.1).cell 6 rfl
      have cB0_7 := (HB0_2.out.drew.ext hs_.1).cell 7 rfl
      have cB0_8 := (HB0_2.out.drew.ext hs_.1).cell 8 rfl
      have cB0_9 := (HB0_2.out.drew.ext hs_.1).cell 9 rfl
      have cB0_10 := (HB0_2.out.drew.ext hs_.1).cell 10 rfl
      have cB0_11 := (HB0_2.out.drew.ext hs_.1).cell 11 rfl
      refine Rn.val fun K_ hK_ => ?_
      go_simp
      exact hK_.out _ (Ext.refl _)
    refine RnL.cons (fun g2 A_ W_ hs_ => ?_) ?_
    · have q28_ := hs_.val 4 rfl rfl rfl
      refine Rn.val fun K_ hK_ => ?_
      go_simp
      refine ((HbE.out ▸ point_c q _ (HG.out.ext (HX2.out.drew.trans hs_.1)) Hq.out)).mono ?_; rintro e W9_ ⟨rfl, e9_⟩; exact hK_.out _ e9_
    refine RnL.cons (fun g2 A_ W_ hs_ => ?_) ?_
    · have q4_ := (hs_.old 4 (by kernel_rfl) : A_.tmps[4]?.getD undef = .pointer (some ⟨w.heap.size + 1, 0, none⟩))
      have cB1_0 := (HB1_2.out.drew.ext hs_.1).cell 0 rfl
      have cB1_1 := (HB1_2.out.drew.ext hs_.1).cell 1 rfl
      have cB1_2 := (HB1_2.out.drew.ext hs_.1).cell 2 rfl
      have cB1_3 := (HB1_2.out.drew.ext hs_.1).cell 3 rfl
      have cB1_4 := (HB1_2.out.drew.ext hs_.1).cell 4 rfl
      have cB1_5 := (HB1_2.out.drew.ext hs_.1).cell 5 rfl
      refine Rn.val fun K_ hK_ => ?_
      go_simp
      exact hK_.out _ (Ext.refl _)
    refine RnL.cons (fun g2 A_ W_ hs_ => ?_) ?_
    · have q30_ := hs_.val 6 rfl rfl rfl
      refine Rn.val fun K_ hK_ => ?_
      go_simp
      refine ((HcE.out ▸ point_c r _ (HG.out.ext (HX2.out.drew.trans hs_.1)) Hr.out)).mono ?_; rintro e W9_ ⟨rfl, e9_⟩; exact hK_.out _ e9_
    refine RnL.cons (fun g2 A_ W_ hs_ => ?_) ?_
    · have q5_ := (hs_.old 5 (by kernel_rfl) : A_.tmps[5]?.getD undef = .pointer (some ⟨w.heap.size + 1 + 1, 0, none⟩))
      have cB2_0 := (HB2_2.out.drew.ext hs_.1).cell 0 rfl
      have cB2_1 := (HB2_2.out.drew.ext hs_.1).cell 1 rfl
      refine Rn.val fun K_ hK_ => ?_
      go_simp
      exact hK_.out _ (Ext.refl _)
    refine RnL.cons (fun g2 A_ W_ hs_ => ?_) ?_
    · have q32_ := hs_.val 8 rfl rfl rfl
      refine Rn.val fun K_ hK_ => ?_
      go_simp
      refine ((HkE.out ▸ mk2_c n d _ (HG.out.ext (HX2.out.drew.trans hs_.1)) Hk0.out.1 Hk0.out.2.1 Hk0.out.2.2)).mono ?_; rintro e W9_ ⟨rfl, e9_⟩; exact hK_.out _ e9_
    refine RnL.cons (fun g2 A_ W_ hs_ => ?_) ?_
    · refine Rn.mem fun K_ hK_ => ?_
      go_simp
      exact hK_.out
    refine RnL.cons (fun g2 A_ W_ hs_ => ?_) ?_
    · refine Rn.mem fun K_ hK_ => ?_
      go_simp
      exact hK_.out
    refine RnL.cons (fun g2 A_ W_ hs_ => ?_) ?_
    · refine Rn.mem fun K_ hK_ => ?_
      go_simp
      exact hK_.out
    refine RnL.cons (fun g2 A_ W_ hs_ => ?_) ?_
    · have q7_ := (hs_.mem 10 rfl rfl rfl).1
      have q26_ := hs_.val 2 rfl rfl rfl
      refine Rn.put (z := #[.string ⟨#[]⟩, .string ⟨#[]⟩]) (t := 62) rfl fun hB K_ hK_ => ?_
      have c_0 := hB.cell 0 rfl; have f_0 := hB.free 0
      have c_1 := hB.cell 1 rfl; have f_1 := hB.free 1
      have HB := Lib.hid hB; clear hB
      go_simp
      exact hK_.out _ (((Only.refl _ _).set 0 _).set 1 _) ((HB.out.set 0 _).set 1 _)
    refine RnL.cons (fun g2 A_ W_ hs_ => ?_) ?_
    · have q8_ := (hs_.mem 11 rfl rfl rfl).1
      have q29_ := hs_.val 5 rfl rfl rfl
      refine Rn.put (z := #[.string ⟨#[]⟩, .string ⟨#[]⟩]) (t := 62) rfl fun hB K_ hK_ => ?_
      have c_0 := hB.cell 0 rfl; have f_0 := hB.free 0
      have c_1 := hB.cell 1 rfl; have f_1 := hB.free 1
      have HB := Lib.hid hB; clear hB
      go_simp
      exact hK_.out _ (((Only.refl _ _).set 0 _).set 1 _) ((HB.out.set 0 _).set 1 _)
    refine RnL.cons (fun g2 A_ W_ hs_ => ?_) ?_
    · have q9_ := (hs_.mem 12 rfl rfl rfl).1
      have q31_ := hs_.val 7 rfl rfl rfl
      refine Rn.put (z := #[.string ⟨#[]⟩, .string ⟨#[]⟩]) (t := 62) rfl fun hB K_ hK_ => ?_
      have c_0 := hB.cell 0 rfl; have f_0 := hB.free 0
      have c_1 := hB.cell 1 rfl; have f_1 := hB.free 1
      have HB := Lib.hid hB; clear hB
      go_simp
      exact hK_.out _ (((Only.refl _ _).set 0 _).set 1 _) ((HB.out.set 0 _).set 1 _)
    refine RnL.cons (fun g2 A_ W_ hs_ => ?_) ?_
    · have q33_ := hs_.val 9 rfl rfl rfl
      refine Rn.val fun K_ hK_ => ?_
      go_simp
      exact hK_.out _ (Ext.refl _)
    exact RnL.nil
  simp only [fs, Kd.value, puts, Act.put, List.setIfInBounds_toArray, List.set_cons_zero, List.set_cons_succ, Nat.reduceAdd]
  have HX3 : Hid (Ext w w3) := Lib.hid (HX2.out.drew.trans hx_)
  have HB3_3 : Hid (Blk w3 (g2 10) #[.string (qs a.x), .string (qs a.y)] 62) := Lib.hid (hm_ 10 _ _ _ _ rfl).2; have HGEB3 : Hid (w.heap.size ≤ g2 10) := Lib.hid (Nat.le_trans HX2.out.size (hm_ 10 _ _ _ _ rfl).1)
  have HB4_3 : Hid (Blk w3 (g2 11) #[.string (qs b.x), .string (qs b.y)] 62) := Lib.hid (hm_ 11 _ _ _ _ rfl).2; have HGEB4 : Hid (w.heap.size ≤ g2 11) := Lib.hid (Nat.le_trans HX2.out.size (hm_ 11 _ _ _ _ rfl).1)
  have HB5_3 : Hid (Blk w3 (g2 12) #[.string (qs c.x), .string (qs c.y)] 62) := Lib.hid (hm_ 12 _ _ _ _ rfl).2; have HGEB5 : Hid (w.heap.size ≤ g2 12) := Lib.hid (Nat.le_trans HX2.out.size (hm_ 12 _ _ _ _ rfl).1)
  have HNEB3B4 : Hid (g2 10 ≠ g2 11) := Lib.hid (hne_ 10 11 (by decide) ⟨_, _, _, _, rfl⟩ ⟨_, _, _, _, rfl⟩)
  have HNEB3B5 : Hid (g2 10 ≠ g2 12) := Lib.hid (hne_ 10 12 (by decide) ⟨_, _, _, _, rfl⟩ ⟨_, _, _, _, rfl⟩)
  have HNEB4B5 : Hid (g2 11 ≠ g2 12) := Lib.hid (hne_ 11 12 (by decide) ⟨_, _, _, _, rfl⟩ ⟨_, _, _, _, rfl⟩)
  clear hx_ hm_ hne_
  generalize g2 10 = i3 at *
  generalize g2 11 = i4 at *
  generalize g2 12 = i5 at *
  clear g2
  have c3_0 := HB3_3.out.cell 0 rfl
  have c3_1 := HB3_3.out.cell 1 rfl
  have c4_0 := HB4_3.out.cell 0 rfl
  have c4_1 := HB4_3.out.cell 1 rfl
  have c5_0 := HB5_3.out.cell 0 rfl
  have c5_1 := HB5_3.out.cell 1 rfl
  go_wp2_with fail
  refine (vTurn_ok a b c _ (HG.out.ext HX3.out) (Ha.out.mono (by omega)) (Hb.out.mono (by omega)) (Hc.out.mono (by omega))).mono ?_; rintro e w4 ⟨rfl, e4⟩
  have HX4 : Hid (Ext w w4) := Lib.hid (HX3.out.trans e4)
  have HB3_4 : Hid (Blk w4 (i3) #[.string (qs a.x), .string (qs a.y)] 62) := Lib.hid (Blk.ext HB3_3.out e4)
  have HB4_4 : Hid (Blk w4 (i4) #[.string (qs b.x), .string (qs b.y)] 62) := Lib.hid (Blk.ext HB4_3.out e4)
  have HB5_4 : Hid (Blk w4 (i5) #[.string (qs c.x), .string (qs c.y)] 62) := Lib.hid (Blk.ext HB5_3.out e4)
  clear e4 c3_0 c3_1 c4_0 c4_1 c5_0 c5_1
  have c3_0 := HB3_4.out.cell 0 rfl
  have c3_1 := HB3_4.out.cell 1 rfl
  have c4_0 := HB4_4.out.cell 0 rfl
  have c4_1 := HB4_4.out.cell 1 rfl
  have c5_0 := HB5_4.out.cell 0 rfl
  have c5_1 := HB5_4.out.cell 1 rfl
  go_wp2_with fail
  refine (vArea_ok a b c _ (HG.out.ext HX4.out) (Ha.out.mono (by omega)) (Hb.out.mono (by omega)) (Hc.out.mono (by omega)) ((((Hb.out.x.sub Ha.out.x).mul (Hc.out.y.sub Ha.out.y)).sub ((Hb.out.y.sub Ha.out.y).mul (Hc.out.x.sub Ha.out.x))).mono (by omega))).mono ?_; rintro e w5 ⟨rfl, e5⟩
  have HX5 : Hid (Ext w w5) := Lib.hid (HX4.out.trans e5)
  have HB3_5 : Hid (Blk w5 (i3) #[.string (qs a.x), .string (qs a.y)] 62) := Lib.hid (Blk.ext HB3_4.out e5)
  have HB4_5 : Hid (Blk w5 (i4) #[.string (qs b.x), .string (qs b.y)] 62) := Lib.hid (Blk.ext HB4_4.out e5)
  have HB5_5 : Hid (Blk w5 (i5) #[.string (qs c.x), .string (qs c.y)] 62) := Lib.hid (Blk.ext HB5_4.out e5)
  clear e5 c3_0 c3_1 c4_0 c4_1 c5_0 c5_1
  have c3_0 := HB3_5.out.cell 0 rfl
  have c3_1 := HB3_5.out.cell 1 rfl
  have c4_0 := HB4_5.out.cell 0 rfl
  have c4_1 := HB4_5.out.cell 1 rfl
  have c5_0 := HB5_5.out.cell 0 rfl
  have c5_1 := HB5_5.out.cell 1 rfl
  go_wp2_with fail
  refine (vBetween_ok a b c _ (HG.out.ext HX5.out) (Ha.out.mono (by omega)) (Hb.out.mono (by omega)) (Hc.out.mono (by omega))).mono ?_; rintro e w6 ⟨rfl, e6⟩
  have HX6 : Hid (Ext w w6) := Lib.hid (HX5.out.trans e6)
  have HB3_6 : Hid (Blk w6 (i3) #[.string (qs a.x), .string (qs a.y)] 62) := Lib.hid (Blk.ext HB3_5.out e6)
  have HB4_6 : Hid (Blk w6 (i4) #[.string (qs b.x), .string (qs b.y)] 62) := Lib.hid (Blk.ext HB4_5.out e6)
  have HB5_6 : Hid (Blk w6 (i5) #[.string (qs c.x), .string (qs c.y)] 62) := Lib.hid (Blk.ext HB5_5.out e6)
  clear e6 c3_0 c3_1 c4_0 c4_1 c5_0 c5_1
  have c3_0 := HB3_6.out.cell 0 rfl
  have c3_1 := HB3_6.out.cell 1 rfl
  have c4_0 := HB4_6.out.cell 0 rfl
  have c4_1 := HB4_6.out.cell 1 rfl
  go_wp2_with fail
  refine (vToward_ok a b k _ (HG.out.ext HX6.out) (Ha.out.mono (by omega)) (Hb.out.mono (by omega)) (Hk.out.mono (by omega)) ⟨((Ha.out.x.add (Hk.out.mul (Hb.out.x.sub Ha.out.x))).mono (by omega)), ((Ha.out.y.add (Hk.out.mul (Hb.out.y.sub Ha.out.y))).mono (by omega))⟩).mono ?_; rintro e w7 ⟨rfl, e7⟩
  have HX7 : Hid (Ext w w7) := Lib.hid (HX6.out.trans e7)
  have HB3_7 : Hid (Blk w7 (i3) #[.string (qs a.x), .string (qs a.y)] 62) := Lib.hid (Blk.ext HB3_6.out e7)
  have HB4_7 : Hid (Blk w7 (i4) #[.string (qs b.x), .string (qs b.y)] 62) := Lib.hid (Blk.ext HB4_6.out e7)
  have HB5_7 : Hid (Blk w7 (i5) #[.string (qs c.x), .string (qs c.y)] 62) := Lib.hid (Blk.ext HB5_6.out e7)
  clear e7 c3_0 c3_1 c4_0 c4_1
  go_wp2_with fail
  refine wp_name (fun W => Ext w W ∧ Blk W (i3) #[.string (qs a.x), .string (qs a.y)] 62 ∧ Blk W (i4) #[.string (qs b.x), .string (qs b.y)] 62 ∧ Blk W (i5) #[.string (qs c.x), .string (qs c.y)] 62 ∧ Blk W (w7.heap.size) #[.string (qs (a.x + k * (b.x - a.x))), .string (qs (a.y + k * (b.y - a.y)))] 62) ⟨(HX7.out.alloc _), (HB3_7.out.alloc _), (HB4_7.out.alloc _), (HB5_7.out.alloc _), (Blk.new' (w := _) (cs := #[.string (qs (a.x + k * (b.x - a.x))), .string (qs (a.y + k * (b.y - a.y)))]) (t := 62) (by first | rfl | (simp only [World.size_alloc]; done) | (simp only [World.size_alloc]; omega) | simp))⟩ ?_
  rintro w8 ⟨e8, bB3_8, bB4_8, bB5_8, bB6_8⟩
  have HX8 := Lib.hid e8; have HB3_8 := Lib.hid bB3_8; have HB4_8 := Lib.hid bB4_8; have HB5_8 := Lib.hid bB5_8; have HB6_8 := Lib.hid bB6_8
  have HGEB6 : Hid (w.heap.size ≤ w7.heap.size) := Lib.hid (by have := HX7.out.size; first | omega | (simp only []; omega) | (simp; omega))
  clear e8 bB3_8 bB4_8 bB5_8 bB6_8
  refine region_lin [.val (.agg #[.string (qs a.x), .string (qs a.y)]), .val (.agg #[.string (qs b.x), .string (qs b.y)]), .val (.agg #[.string (qs a.x), .string (qs a.y)]), .val (.agg #[.string (qs b.x), .string (qs b.y)]), .val (.string (qs k)), .val (.agg #[.string (qs (a.x + k * (b.x - a.x))), .string (qs (a.y + k * (b.y - a.y)))]), .val (.tuple #[.bool (inq 0 1 k), .int .i64 0]), .val (.tuple #[.bool (inq 0 1 k), .int .i64 0]), .val (.bool (inq 0 1 k)), .val (.int .i64 0), .val (.bool (inq 0 1 k)), .val (.int .i64 0)] (by kernel_rfl) (by kernel_rfl) (by kernel_rfl) ?_ (fun g8 w9 hx_ hm_ hne_ => ?_)
  · skip
    refine RnL.cons (fun g8 A_ W_ hs_ => ?_) ?_
    · have q7_ := (hs_.old 7 (by kernel_rfl) : A_.tmps[7]?.getD undef = .pointer (some ⟨i3, 0, none⟩))
      have cB3_0 := (HB3_8.out.drew.ext hs_.1).cell 0 rfl
      have cB3_1 := (HB3_8.out.drew.ext hs_.1).cell 1 rfl
      refine Rn.val fun K_ hK_ => ?_
      go_simp
      exact hK_.out _ (Ext.refl _)
    refine RnL.cons (fun g8 A_ W_ hs_ => ?_) ?_
    · have q8_ := (hs_.old 8 (by kernel_rfl) : A_.tmps[8]?.getD undef = .pointer (some ⟨i4, 0, none⟩))
      have cB4_0 := (HB4_8.out.drew.ext hs_.1).cell 0 rfl
      have cB4_1 := (HB4_8.out.drew.ext hs_.1).cell 1 rfl
      refine Rn.val fun K_ hK_ => ?_
      go_simp
      exact hK_.out _ (Ext.refl _)
    refine RnL.cons (fun g8 A_ W_ hs_ => ?_) ?_
    · have q7_ := (hs_.old 7 (by kernel_rfl) : A_.tmps[7]?.getD undef = .pointer (some ⟨i3, 0, none⟩))
      have cB3_0 := (HB3_8.out.drew.ext hs_.1).cell 0 rfl
      have cB3_1 := (HB3_8.out.drew.ext hs_.1).cell 1 rfl
      refine Rn.val fun K_ hK_ => ?_
      go_simp
      exact hK_.out _ (Ext.refl _)
    refine RnL.cons (fun g8 A_ W_ hs_ => ?_) ?_
    · have q8_ := (hs_.old 8 (by kernel_rfl) : A_.tmps[8]?.getD undef = .pointer (some ⟨i4, 0, none⟩))
      have cB4_0 := (HB4_8.out.drew.ext hs_.1).cell 0 rfl
      have cB4_1 := (HB4_8.out.drew.ext hs_.1).cell 1 rfl
      refine Rn.val fun K_ hK_ => ?_
      go_simp
      exact hK_.out _ (Ext.refl _)
    refine RnL.cons (fun g8 A_ W_ hs_ => ?_) ?_
    · have q10_ := (hs_.old 10 (by kernel_rfl) : A_.tmps[10]?.getD undef = .string (qs k))
      refine Rn.val fun K_ hK_ => ?_
      go_simp
      exact hK_.out _ (Ext.refl _)
    refine RnL.cons (fun g8 A_ W_ hs_ => ?_) ?_
    · have q65_ := hs_.val 2 rfl rfl rfl
      have q66_ := hs_.val 3 rfl rfl rfl
      have q67_ := hs_.val 4 rfl rfl rfl
      refine Rn.val fun K_ hK_ => ?_
      go_simp
      refine (stoward_x a b k _ (HG.out.ext (HX8.out.drew.trans hs_.1)) Ha.out Hb.out Hk.out (by omega) (by omega)).mono ?_; rintro e W9_ ⟨rfl, e9_⟩; exact hK_.out _ e9_
    refine RnL.cons (fun g8 A_ W_ hs_ => ?_) ?_
    · have q63_ := hs_.val 0 rfl rfl rfl
      have q64_ := hs_.val 1 rfl rfl rfl
      have q68_ := hs_.val 5 rfl rfl rfl
      refine Rn.val fun K_ hK_ => ?_
      go_simp
      refine ((btw_step a b k HAB.out ▸ vBetween_ok a b ⟨a.x + k * (b.x - a.x), a.y + k * (b.y - a.y)⟩ _ (HG.out.ext (HX8.out.drew.trans hs_.1)) (Ha.out.mono (by omega)) (Hb.out.mono (by omega)) ⟨((Ha.out.x.add (Hk.out.mul (Hb.out.x.sub Ha.out.x))).mono (by omega)), ((Ha.out.y.add (Hk.out.mul (Hb.out.y.sub Ha.out.y))).mono (by omega))⟩)).mono ?_; rintro e W9_ ⟨rfl, e9_⟩; exact hK_.out _ e9_
    refine RnL.cons (fun g8 A_ W_ hs_ => ?_) ?_
    · have q69_ := hs_.val 6 rfl rfl rfl
      refine Rn.val fun K_ hK_ => ?_
      go_simp
      exact hK_.out _ (Ext.refl _)
    refine RnL.cons (fun g8 A_ W_ hs_ => ?_) ?_
    · have q62_ := hs_.val 7 rfl rfl rfl
      refine Rn.val fun K_ hK_ => ?_
      go_simp
      exact hK_.out _ (Ext.refl _)
    refine RnL.cons (fun g8 A_ W_ hs_ => ?_) ?_
    · have q62_ := hs_.val 7 rfl rfl rfl
      refine Rn.val fun K_ hK_ => ?_
      go_simp
      exact hK_.out _ (Ext.refl _)
    refine RnL.cons (fun g8 A_ W_ hs_ => ?_) ?_
    · have q70_ := hs_.val 8 rfl rfl rfl
      refine Rn.val fun K_ hK_ => ?_
      go_simp
      exact hK_.out _ (Ext.refl _)
    refine RnL.cons (fun g8 A_ W_ hs_ => ?_) ?_
    · have q71_ := hs_.val 9 rfl rfl rfl
      refine Rn.val fun K_ hK_ => ?_
      go_simp
      exact hK_.out _ (Ext.refl _)
    exact RnL.nil
  simp only [fs, Kd.value, puts, Act.put, List.setIfInBounds_toArray, List.set_cons_zero, List.set_cons_succ]
  have HX9 : Hid (Ext w w9) := Lib.hid (HX8.out.drew.trans hx_)
  have HB3_9 := Lib.hid (HB3_8.out.drew.ext hx_)
  have HB4_9 := Lib.hid (HB4_8.out.drew.ext hx_)
  have HB5_9 := Lib.hid (HB5_8.out.drew.ext hx_)
  have HB6_9 := Lib.hid (HB6_8.out.drew.ext hx_)
  clear hx_ hm_ hne_
  have c3_0 := HB3_9.out.cell 0 rfl
  have c3_1 := HB3_9.out.cell 1 rfl
  have c4_0 := HB4_9.out.cell 0 rfl
  have c4_1 := HB4_9.out.cell 1 rfl
  go_wp2_with fail
  refine (sinside_01 k _ (HG.out.ext HX9.out) Hk.out (by decide) (by decide)).mono ?_; rintro e w10 ⟨rfl, e10⟩
  have HX10 : Hid (Ext w w10) := Lib.hid (HX9.out.trans e10)
  have HB3_10 : Hid (Blk w10 (i3) #[.string (qs a.x), .string (qs a.y)] 62) := Lib.hid (Blk.ext HB3_9.out e10)
  have HB4_10 : Hid (Blk w10 (i4) #[.string (qs b.x), .string (qs b.y)] 62) := Lib.hid (Blk.ext HB4_9.out e10)
  have HB5_10 : Hid (Blk w10 (i5) #[.string (qs c.x), .string (qs c.y)] 62) := Lib.hid (Blk.ext HB5_9.out e10)
  have HB6_10 : Hid (Blk w10 (w7.heap.size) #[.string (qs (a.x + k * (b.x - a.x))), .string (qs (a.y + k * (b.y - a.y)))] 62) := Lib.hid (Blk.ext HB6_9.out e10)
  clear e10 c3_0 c3_1 c4_0 c4_1
  go_wp2_with fail
  refine wp_name (fun W => Ext w W ∧ Blk W (i3) #[.string (qs a.x), .string (qs a.y)] 62 ∧ Blk W (i4) #[.string (qs b.x), .string (qs b.y)] 62 ∧ Blk W (i5) #[.string (qs c.x), .string (qs c.y)] 62 ∧ Blk W (w7.heap.size) #[.string (qs (a.x + k * (b.x - a.x))), .string (qs (a.y + k * (b.y - a.y)))] 62) ⟨HX10.out, HB3_10.out, HB4_10.out, HB5_10.out, HB6_10.out⟩ ?_
  rintro w11 ⟨e11, bB3_11, bB4_11, bB5_11, bB6_11⟩
  have HX11 := Lib.hid e11; have HB3_11 := Lib.hid bB3_11; have HB4_11 := Lib.hid bB4_11; have HB5_11 := Lib.hid bB5_11; have HB6_11 := Lib.hid bB6_11
  clear e11 bB3_11 bB4_11 bB5_11 bB6_11
  refine region_lin [.val (.int .i64 0), .val (.int .i64 0), .val (.int .i64 0), .val (.int .i64 0), .val (.int .i64 0), .mem (fun b_ => .slice (some ⟨b_, 0, none⟩) 5 5) #[.int .i64 0, .int .i64 0, .int .i64 0, .int .i64 0, .int .i64 0] 32 Option.none, .val (.int .i64 0), .val (.bool true), .val (.bool true), .val (.int .i64 (((b.x - a.x) * (c.y - a.y) - (b.y - a.y) * (c.x - a.x)).num.sign)), .val (.agg #[.string (qs a.x), .string (qs a.y)]), .val (.agg #[.string (qs b.x), .string (qs b.y)]), .val (.agg #[.string (qs c.x), .string (qs c.y)]), .val (.int .i64 (((b.x - a.x) * (c.y - a.y) - (b.y - a.y) * (c.x - a.x)).num.sign)), .val (.bool true), .val (.bool true), .val (.bool true), .val (.string (qs ((b.x - a.x) * (c.y - a.y) - (b.y - a.y) * (c.x - a.x)))), .val (.agg #[.string (qs a.x), .string (qs a.y)]), .val (.agg #[.string (qs b.x), .string (qs b.y)]), .val (.agg #[.string (qs c.x), .string (qs c.y)]), .val (.string (qs ((b.x - a.x) * (c.y - a.y) - (b.y - a.y) * (c.x - a.x)))), .val (.bool true), .val (.bool true), .val (.bool true), .val (.bool (vbtw a b c)), .val (.agg #[.string (qs a.x), .string (qs a.y)]), .val (.agg #[.string (qs b.x), .string (qs b.y)]), .val (.agg #[.string (qs c.x), .string (qs c.y)]), .val (.bool (vbtw a b c)), .val (.bool true), .val (.bool true), .val (.bool true), .val (.agg #[.string (qs (a.x + k * (b.x - a.x))), .string (qs (a.y + k * (b.y - a.y)))]), .val (.agg #[.string (qs a.x), .string (qs a.y)]), .val (.agg #[.string (qs b.x), .string (qs b.y)]), .val (.string (qs k)), .val (.agg #[.string (qs (a.x + k * (b.x - a.x))), .string (qs (a.y + k * (b.y - a.y)))]), .val (.bool true), .val (.bool true), .val (.bool true), .val (.bool (inq 0 1 k)), .val (.bool (inq 0 1 k)), .val (.bool true), .val (.bool true), .val (.bool true)] (by kernel_rfl) (by kernel_rfl) (by kernel_rfl) ?_ (fun g11 w12 hx_ hm_ hne_ => ?_)
  · skip
    refine RnL.cons (fun g11 A_ W_ hs_ => ?_) ?_
    · have q12_ := (hs_.old 12 (by kernel_rfl) : A_.tmps[12]?.getD undef = .int .i64 0)
      refine Rn.val fun K_ hK_ => ?_
      go_simp
      exact hK_.out _ (Ext.refl _)
    refine RnL.cons (fun g11 A_ W_ hs_ => ?_) ?_
    · have q14_ := (hs_.old 14 (by kernel_rfl) : A_.tmps[14]?.getD undef = .int .i64 0)
      refine Rn.val fun K_ hK_ => ?_
      go_simp
      exact hK_.out _ (Ext.refl _)
    refine RnL.cons (fun g11 A_ W_ hs_ => ?_) ?_
    · have q16_ := (hs_.old 16 (by kernel_rfl) : A_.tmps[16]?.getD undef = .int .i64 0)
      refine Rn.val fun K_ hK_ => ?_
      go_simp
      exact hK_.out _ (Ext.refl _)
    refine RnL.cons (fun g11 A_ W_ hs_ => ?_) ?_
    · have q18_ := (hs_.old 18 (by kernel_rfl) : A_.tmps[18]?.getD undef = .int .i64 0)
      refine Rn.val fun K_ hK_ => ?_
      go_simp
      exact hK_.out _ (Ext.refl _)
    refine RnL.cons (fun g11 A_ W_ hs_ => ?_) ?_
    · have q20_ := (hs_.old 20 (by kernel_rfl) : A_.tmps[20]?.getD undef = .int .i64 0)
      refine Rn.val fun K_ hK_ => ?_
      go_simp
      exact hK_.out _ (Ext.refl _)
    refine RnL.cons (fun g11 A_ W_ hs_ => ?_) ?_
    · have q79_ := hs_.val 0 rfl rfl rfl
      have q80_ := hs_.val 1 rfl rfl rfl
      have q81_ := hs_.val 2 rfl rfl rfl
      have q82_ := hs_.val 3 rfl rfl rfl
      have q83_ := hs_.val 4 rfl rfl rfl
      refine Rn.mem fun K_ hK_ => ?_
      go_simp
      exact hK_.out
    refine RnL.cons (fun g11 A_ W_ hs_ => ?_) ?_
    · have q84_ := (hs_.mem 5 rfl rfl rfl).1
      refine Rn.val fun K_ hK_ => ?_
      go_simp
      refine (((by decide : ferr [0, 0, 0, 0, 0] = 0) ▸ first5_c 0 0 0 0 0 (g11 5) _ ((hs_.mem 5 rfl rfl rfl).2.2 rfl))).mono ?_; rintro e _ ⟨rfl, rfl⟩; exact hK_.out _ (Ext.refl _)
    refine RnL.cons (fun g11 A_ W_ hs_ => ?_) ?_
    · have q85_ := hs_.val 6 rfl rfl rfl
      refine Rn.val fun K_ hK_ => ?_
      go_simp
      exact hK_.out _ (Ext.refl _)
    refine RnL.cons (fun g11 A_ W_ hs_ => ?_) ?_
    · have q86_ := hs_.val 7 rfl rfl rfl
      refine Rn.val fun K_ hK_ => ?_
      go_simp
      exact hK_.out _ (Ext.refl _)
    refine RnL.cons (fun g11 A_ W_ hs_ => ?_) ?_
    · have q11_ := (hs_.old 11 (by kernel_rfl) : A_.tmps[11]?.getD undef = .int .i64 (((b.x - a.x) * (c.y - a.y) - (b.y - a.y) * (c.x - a.x)).num.sign))
      refine Rn.val fun K_ hK_ => ?_
      go_simp
      exact hK_.out _ (Ext.refl _)
    refine RnL.cons (fun g11 A_ W_ hs_ => ?_) ?_
    · have q7_ := (hs_.old 7 (by kernel_rfl) : A_.tmps[7]?.getD undef = .pointer (some ⟨i3, 0, none⟩))
      have cB3_0 := (HB3_11.out.drew.ext hs_.1).cell 0 rfl
      have cB3_1 := (HB3_11.out.drew.ext hs_.1).cell 1 rfl
      refine Rn.val fun K_ hK_ => ?_
      go_simp
      exact hK_.out _ (Ext.refl _)
    refine RnL.cons (fun g11 A_ W_ hs_ => ?_) ?_
    · have q8_ := (hs_.old 8 (by kernel_rfl) : A_.tmps[8]?.getD undef = .pointer (some ⟨i4, 0, none⟩))
      have cB4_0 := (HB4_11.out.drew.ext hs_.1).cell 0 rfl
      have cB4_1 := (HB4_11.out.drew.ext hs_.1).cell 1 rfl
      refine Rn.val fun K_ hK_ => ?_
      go_simp
      exact hK_.out _ (Ext.refl _)
    refine RnL.cons (fun g11 A_ W_ hs_ => ?_) ?_
    · have q9_ := (hs_.old 9 (by kernel_rfl) : A_.tmps[9]?.getD undef = .pointer (some ⟨i5, 0, none⟩))
      have cB5_0 := (HB5_11.out.drew.ext hs_.1).cell 0 rfl
      have cB5_1 := (HB5_11.out.drew.ext hs_.1).cell 1 rfl
      refine Rn.val fun K_ hK_ => ?_
      go_simp
      exact hK_.out _ (Ext.refl _)
    refine RnL.cons (fun g11 A_ W_ hs_ => ?_) ?_
    · have q89_ := hs_.val 10 rfl rfl rfl
      have q90_ := hs_.val 11 rfl rfl rfl
      have q91_ := hs_.val 12 rfl rfl rfl
      refine Rn.val fun K_ hK_ => ?_
      go_simp
      refine (sturn_x a b c _ (HG.out.ext (HX11.out.drew.trans hs_.1)) Ha.out Hb.out Hc.out (by omega)).mono ?_; rintro e W9_ ⟨rfl, e9_⟩; exact hK_.out _ e9_
    refine RnL.cons (fun g11 A_ W_ hs_ => ?_) ?_
    · have q88_ := hs_.val 9 rfl rfl rfl
      have q92_ := hs_.val 13 rfl rfl rfl
      refine Rn.val fun K_ hK_ => ?_
      go_simp
      exact hK_.out _ (Ext.refl _)
    refine RnL.cons (fun g11 A_ W_ hs_ => ?_) ?_
    · have q87_ := hs_.val 8 rfl rfl rfl
      have q93_ := hs_.val 14 rfl rfl rfl
      refine Rn.val fun K_ hK_ => ?_
      go_simp
      exact hK_.out _ (Ext.refl _)
    refine RnL.cons (fun g11 A_ W_ hs_ => ?_) ?_
    · have q94_ := hs_.val 15 rfl rfl rfl
      refine Rn.val fun K_ hK_ => ?_
      go_simp
      exact hK_.out _ (Ext.refl _)
    refine RnL.cons (fun g11 A_ W_ hs_ => ?_) ?_
    · have q13_ := (hs_.old 13 (by kernel_rfl) : A_.tmps[13]?.getD undef = .string (qs ((b.x - a.x) * (c.y - a.y) - (b.y - a.y) * (c.x - a.x))))
      refine Rn.val fun K_ hK_ => ?_
      go_simp
      exact hK_.out _ (Ext.refl _)
    refine RnL.cons (fun g11 A_ W_ hs_ => ?_) ?_
    · have q7_ := (hs_.old 7 (by kernel_rfl) : A_.tmps[7]?.getD undef = .pointer (some ⟨i3, 0, none⟩))
      have cB3_0 := (HB3_11.out.drew.ext hs_.1).cell 0 rfl
      have cB3_1 := (HB3_11.out.drew.ext hs_.1).cell 1 rfl
      refine Rn.val fun K_ hK_ => ?_
      go_simp
      exact hK_.out _ (Ext.refl _)
    refine RnL.cons (fun g11 A_ W_ hs_ => ?_) ?_
    · have q8_ := (hs_.old 8 (by kernel_rfl) : A_.tmps[8]?.getD undef = .pointer (some ⟨i4, 0, none⟩))
      have cB4_0 := (HB4_11.out.drew.ext hs_.1).cell 0 rfl
      have cB4_1 := (HB4_11.out.drew.ext hs_.1).cell 1 rfl
      refine Rn.val fun K_ hK_ => ?_
      go_simp
      exact hK_.out _ (Ext.refl _)
    refine RnL.cons (fun g11 A_ W_ hs_ => ?_) ?_
    · have q9_ := (hs_.old 9 (by kernel_rfl) : A_.tmps[9]?.getD undef = .pointer (some ⟨i5, 0, none⟩))
      have cB5_0 := (HB5_11.out.drew.ext hs_.1).cell 0 rfl
      have cB5_1 := (HB5_11.out.drew.ext hs_.1).cell 1 rfl
      refine Rn.val fun K_ hK_ => ?_
      go_simp
      exact hK_.out _ (Ext.refl _)
    refine RnL.cons (fun g11 A_ W_ hs_ => ?_) ?_
    · have q97_ := hs_.val 18 rfl rfl rfl
      have q98_ := hs_.val 19 rfl rfl rfl
      have q99_ := hs_.val 20 rfl rfl rfl
      refine Rn.val fun K_ hK_ => ?_
      go_simp
      refine (sarea_x a b c _ (HG.out.ext (HX11.out.drew.trans hs_.1)) Ha.out Hb.out Hc.out (by omega)).mono ?_; rintro e W9_ ⟨rfl, e9_⟩; exact hK_.out _ e9_
    refine RnL.cons (fun g11 A_ W_ hs_ => ?_) ?_
    · have q96_ := hs_.val 17 rfl rfl rfl
      have q100_ := hs_.val 21 rfl rfl rfl
      refine Rn.val fun K_ hK_ => ?_
      go_simp
      exact hK_.out _ (Ext.refl _)
    refine RnL.cons (fun g11 A_ W_ hs_ => ?_) ?_
    · have q95_ := hs_.val 16 rfl rfl rfl
      have q101_ := hs_.val 22 rfl rfl rfl
      refine Rn.val fun K_ hK_ => ?_
      go_simp
      exact hK_.out _ (Ext.refl _)
    refine RnL.cons (fun g11 A_ W_ hs_ => ?_) ?_
    · have q102_ := hs_.val 23 rfl rfl rfl
      refine Rn.val fun K_ hK_ => ?_
      go_simp
      exact hK_.out _ (Ext.refl _)
    refine RnL.cons (fun g11 A_ W_ hs_ => ?_) ?_
    · have q15_ := (hs_.old 15 (by kernel_rfl) : A_.tmps[15]?.getD undef = .bool (vbtw a b c))
      refine Rn.val fun K_ hK_ => ?_
      go_simp
      exact hK_.out _ (Ext.refl _)
    refine RnL.cons (fun g11 A_ W_ hs_ => ?_) ?_
    · have q7_ := (hs_.old 7 (by kernel_rfl) : A_.tmps[7]?.getD undef = .pointer (some ⟨i3, 0, none⟩))
      have cB3_0 := (HB3_11.out.drew.ext hs_.1).cell 0 rfl
      have cB3_1 := (HB3_11.out.drew.ext hs_.1).cell 1 rfl
      refine Rn.val fun K_ hK_ => ?_
      go_simp
      exact hK_.out _ (Ext.refl _)
    refine RnL.cons (fun g11 A_ W_ hs_ => ?_) ?_
    · have q8_ := (hs_.old 8 (by kernel_rfl) : A_.tmps[8]?.getD undef = .pointer (some ⟨i4, 0, none⟩))
      have cB4_0 := (HB4_11.out.drew.ext hs_.1).cell 0 rfl
      have cB4_1 := (HB4_11.out.drew.ext hs_.1).cell 1 rfl
      refine Rn.val fun K_ hK_ => ?_
      go_simp
      exact hK_.out _ (Ext.refl _)
    refine RnL.cons (fun g11 A_ W_ hs_ => ?_) ?_
    · have q9_ := (hs_.old 9 (by kernel_rfl) : A_.tmps[9]?.getD undef = .pointer (some ⟨i5, 0, none⟩))
      have cB5_0 := (HB5_11.out.drew.ext hs_.1).cell 0 rfl
      have cB5_1 := (HB5_11.out.drew.ext hs_.1).cell 1 rfl
      refine Rn.val fun K_ hK_ => ?_
      go_simp
      exact hK_.out _ (Ext.refl _)
    refine RnL.cons (fun g11 A_ W_ hs_ => ?_) ?_
    · have q105_ := hs_.val 26 rfl rfl rfl
      have q106_ := hs_.val 27 rfl rfl rfl
      have q107_ := hs_.val 28 rfl rfl rfl
      refine Rn.val fun K_ hK_ => ?_
      go_simp
      refine (sbtw_v a b c _ (HG.out.ext (HX11.out.drew.trans hs_.1)) Ha.out Hb.out Hc.out (by decide)).mono ?_; rintro e W9_ ⟨rfl, e9_⟩; exact hK_.out _ e9_
    refine RnL.cons (fun g11 A_ W_ hs_ => ?_) ?_
    · have q104_ := hs_.val 25 rfl rfl rfl
      have q108_ := hs_.val 29 rfl rfl rfl
      refine Rn.val fun K_ hK_ => ?_
      go_simp
      exact hK_.out _ (Ext.refl _)
    refine RnL.cons (fun g11 A_ W_ hs_ => ?_) ?_
    · have q103_ := hs_.val 24 rfl rfl rfl
      have q109_ := hs_.val 30 rfl rfl rfl
      refine Rn.val fun K_ hK_ => ?_
      go_simp
      exact hK_.out _ (Ext.refl _)
    refine RnL.cons (fun g11 A_ W_ hs_ => ?_) ?_
    · have q110_ := hs_.val 31 rfl rfl rfl
      refine Rn.val fun K_ hK_ => ?_
      go_simp
      exact hK_.out _ (Ext.refl _)
    refine RnL.cons (fun g11 A_ W_ hs_ => ?_) ?_
    · have q17_ := (hs_.old 17 (by kernel_rfl) : A_.tmps[17]?.getD undef = .pointer (some ⟨w7.heap.size, 0, none⟩))
      have cB6_0 := (HB6_11.out.drew.ext hs_.1).cell 0 rfl
      have cB6_1 := (HB6_11.out.drew.ext hs_.1).cell 1 rfl
      refine Rn.val fun K_ hK_ => ?_
      go_simp
      exact hK_.out _ (Ext.refl _)
    refine RnL.cons (fun g11 A_ W_ hs_ => ?_) ?_
    · have q7_ := (hs_.old 7 (by kernel_rfl) : A_.tmps[7]?.getD undef = .pointer (some ⟨i3, 0, none⟩))
      have cB3_0 := (HB3_11.out.drew.ext hs_.1).cell 0 rfl
      have cB3_1 := (HB3_11.out.drew.ext hs_.1).cell 1 rfl
      refine Rn.val fun K_ hK_ => ?_
      go_simp
      exact hK_.out _ (Ext.refl _)
    refine RnL.cons (fun g11 A_ W_ hs_ => ?_) ?_
    · have q8_ := (hs_.old 8 (by kernel_rfl) : A_.tmps[8]?.getD undef = .pointer (some ⟨i4, 0, none⟩))
      have cB4_0 := (HB4_11.out.drew.ext hs_.1).cell 0 rfl
      have cB4_1 := (HB4_11.out.drew.ext hs_.1).cell 1 rfl
      refine Rn.val fun K_ hK_ => ?_
      go_simp
      exact hK_.out _ (Ext.refl _)
    refine RnL.cons (fun g11 A_ W_ hs_ => ?_) ?_
    · have q10_ := (hs_.old 10 (by kernel_rfl) : A_.tmps[10]?.getD undef = .string (qs k))
      refine Rn.val fun K_ hK_ => ?_
      go_simp
      exact hK_.out _ (Ext.refl _)
    refine RnL.cons (fun g11 A_ W_ hs_ => ?_) ?_
    · have q113_ := hs_.val 34 rfl rfl rfl
      have q114_ := hs_.val 35 rfl rfl rfl
      have q115_ := hs_.val 36 rfl rfl rfl
      refine Rn.val fun K_ hK_ => ?_
      go_simp
      refine (stoward_x a b k _ (HG.out.ext (HX11.out.drew.trans hs_.1)) Ha.out Hb.out Hk.out (by omega) (by omega)).mono ?_; rintro e W9_ ⟨rfl, e9_⟩; exact hK_.out _ e9_
    refine RnL.cons (fun g11 A_ W_ hs_ => ?_) ?_
    · have q112_ := hs_.val 33 rfl rfl rfl
      have q116_ := hs_.val 37 rfl rfl rfl
      refine Rn.val fun K_ hK_ => ?_
      go_simp
      exact hK_.out _ (Ext.refl _)
    refine RnL.cons (fun g11 A_ W_ hs_ => ?_) ?_
    · have q111_ := hs_.val 32 rfl rfl rfl
      have q117_ := hs_.val 38 rfl rfl rfl
      refine Rn.val fun K_ hK_ => ?_
      go_simp
      exact hK_.out _ (Ext.refl _)
    refine RnL.cons (fun g11 A_ W_ hs_ => ?_) ?_
    · have q118_ := hs_.val 39 rfl rfl rfl
      refine Rn.val fun K_ hK_ => ?_
      go_simp
      exact hK_.out _ (Ext.refl _)
    refine RnL.cons (fun g11 A_ W_ hs_ => ?_) ?_
    · have q19_ := (hs_.old 19 (by kernel_rfl) : A_.tmps[19]?.getD undef = .bool (inq 0 1 k))
      refine Rn.val fun K_ hK_ => ?_
      go_simp
      exact hK_.out _ (Ext.refl _)
    refine RnL.cons (fun g11 A_ W_ hs_ => ?_) ?_
    · have q21_ := (hs_.old 21 (by kernel_rfl) : A_.tmps[21]?.getD undef = .bool (inq 0 1 k))
      refine Rn.val fun K_ hK_ => ?_
      go_simp
      exact hK_.out _ (Ext.refl _)
    refine RnL.cons (fun g11 A_ W_ hs_ => ?_) ?_
    · have q120_ := hs_.val 41 rfl rfl rfl
      have q121_ := hs_.val 42 rfl rfl rfl
      refine Rn.val fun K_ hK_ => ?_
      go_simp
      exact hK_.out _ (Ext.refl _)
    refine RnL.cons (fun g11 A_ W_ hs_ => ?_) ?_
    · have q119_ := hs_.val 40 rfl rfl rfl
      have q122_ := hs_.val 43 rfl rfl rfl
      refine Rn.val fun K_ hK_ => ?_
      go_simp
      exact hK_.out _ (Ext.refl _)
    refine RnL.cons (fun g11 A_ W_ hs_ => ?_) ?_
    · have q123_ := hs_.val 44 rfl rfl rfl
      refine Rn.val fun K_ hK_ => ?_
      go_simp
      exact hK_.out _ (Ext.refl _)
    exact RnL.nil
  simp only [fs, Kd.value, puts, Act.put, List.setIfInBounds_toArray, List.set_cons_zero, List.set_cons_succ, Nat.reduceAdd]
  have HX12 : Hid (Ext w w12) := Lib.hid (HX11.out.drew.trans hx_)
  have HB7_12 : Hid (Blk w12 (g11 5) #[.int .i64 0, .int .i64 0, .int .i64 0, .int .i64 0, .int .i64 0] 32) := Lib.hid (hm_ 5 _ _ _ _ rfl).2; have HGEB7 : Hid (w.heap.size ≤ g11 5) := Lib.hid (Nat.le_trans HX11.out.size (hm_ 5 _ _ _ _ rfl).1)
  clear hx_ hm_ hne_
  generalize g11 5 = i7 at *
  clear g11
  go_wp2
  go_ret
  exact ⟨rfl, HX12.out⟩

set_option maxRecDepth 100000 in
set_option maxHeartbeats 16000000 in
theorem turns_walkB1 (p q r : Pla) (n : Int) (d : Nat) (w : World) (g : Gd w) (hp : PlaOk p) (hq : PlaOk q) (hr : PlaOk r) (hn : -32768 ≤ n ∧ n ≤ 32767 ∧ d ≤ 255) (h : (ppt p).x = (ppt q).x ∧ (ppt p).y ≠ (ppt q).y) : Calls Tryz.prog 11 #[.agg #[.int .i16 p.n0, .int .u8 (p.d0 : Int), .int .i16 p.n1, .int .u8 (p.d1 : Int), .int .i16 p.n2, .int .u8 (p.d2 : Int), .int .i16 q.n0, .int .u8 (q.d0 : Int), .int .i16 q.n1, .int .u8 (q.d1 : Int), .int .i16 q.n2, .int .u8 (q.d2 : Int)], .agg #[.int .i16 r.n0, .int .u8 (r.d0 : Int), .int .i16 r.n1, .int .u8 (r.d1 : Int), .int .i16 r.n2, .int .u8 (r.d2 : Int)], .agg #[.int .i16 n, .int .u8 (d : Int)]] w (Ret w (.bool true)) := by
  have Hp := Lib.hid hp
  have Hq := Lib.hid hq
  have Hr := Lib.hid hr
  have HG := Lib.hid g
  clear hp hq hr g
  have HH := Lib.hid h; clear h
  obtain ⟨a, ea⟩ : ∃ a, ppt p = a := ⟨_, rfl⟩
  have HaE := Lib.hid ea; have Ha : Hid (PB 5 a) := Lib.hid (ea ▸ Hp.out.p); clear ea
  obtain ⟨b, eb⟩ : ∃ b, ppt q = b := ⟨_, rfl⟩
  have HbE := Lib.hid eb; have Hb : Hid (PB 5 b) := Lib.hid (eb ▸ Hq.out.p); clear eb
  obtain ⟨c, ec⟩ : ∃ c, ppt r = c := ⟨_, rfl⟩
  have HcE := Lib.hid ec; have Hc : Hid (PB 5 c) := Lib.hid (ec ▸ Hr.out.p); clear ec
  have Hk0 := Lib.hid hn; clear hn
  obtain ⟨k, ek⟩ : ∃ k, sm n d = k := ⟨_, rfl⟩
  have HkE := Lib.hid ek; have Hk : Hid (QB 5 k) := Lib.hid (ek ▸ sm_qb Hk0.out.1 Hk0.out.2.1 Hk0.out.2.2); clear ek
  have hxy : a.x = b.x ∧ a.y ≠ b.y := by have h := HH.out; rw [HaE.out, HbE.out] at h; exact h
  have hx := hxy.1; have hy := hxy.2
  have hx_t := qs_eqL hx
  have hy_t := qs_neL hy
  have HAB : Hid (a ≠ b) := Lib.hid (fun e => hy (congrArg P2.y e))
  clear hxy hx hy
  go_enter Tryz.func11, Tryz.ntmps11
  go_wp2_with fail
  refine (known_c _ (HG.out.ext ((((Ext.refl w).alloc _).alloc _).alloc _))).mono ?_; rintro e w1 ⟨rfl, e1⟩
  have HX1 : Hid (Ext w w1) := Lib.hid (((((Ext.refl w).alloc _).alloc _).alloc _).trans e1)
  have HB0_1 : Hid (Blk w1 (w.heap.size) #[.int .i16 p.n0, .int .u8 (p.d0 : Int), .int .i16 p.n1, .int .u8 (p.d1 : Int), .int .i16 p.n2, .int .u8 (p.d2 : Int), .int .i16 q.n0, .int .u8 (q.d0 : Int), .int .i16 q.n1, .int .u8 (q.d1 : Int), .int .i16 q.n2, .int .u8 (q.d2 : Int)] 44) := Lib.hid (Blk.ext (((Blk.new' (w := _) (cs := #[.int .i16 p.n0, .int .u8 (p.d0 : Int), .int .i16 p.n1, .int .u8 (p.d1 : Int), .int .i16 p.n2, .int .u8 (p.d2 : Int), .int .i16 q.n0, .int .u8 (q.d0 : Int), .int .i16 q.n1, .int .u8 (q.d1 : Int), .int .i16 q.n2, .int .u8 (q.d2 : Int)]) (t := 44) (by first | rfl | (simp only [World.size_alloc]; done) | (simp only [World.size_alloc]; omega) | simp)).alloc _).alloc _) e1)
  have HB1_1 : Hid (Blk w1 (w.heap.size + 1) #[.int .i16 r.n0, .int .u8 (r.d0 : Int), .int .i16 r.n1, .int .u8 (r.d1 : Int), .int .i16 r.n2, .int .u8 (r.d2 : Int)] 26) := Lib.hid (Blk.ext ((Blk.new' (w := _) (cs := #[.int .i16 r.n0, .int .u8 (r.d0 : Int), .int .i16 r.n1, .int .u8 (r.d1 : Int), .int .i16 r.n2, .int .u8 (r.d2 : Int)]) (t := 26) (by first | rfl | (simp only [World.size_alloc]; done) | (simp only [World.size_alloc]; omega) | simp)).alloc _) e1)
  have HB2_1 : Hid (Blk w1 (w.heap.size + 1 + 1) #[.int .i16 n, .int .u8 (d : Int)] 24) := Lib.hid (Blk.ext (Blk.new' (w := _) (cs := #[.int .i16 n, .int .u8 (d : Int)]) (t := 24) (by first | rfl | (simp only [World.size_alloc]; done) | (simp only [World.size_alloc]; omega) | simp)) e1)
  have HGEB0 : Hid (w.heap.size ≤ w.heap.size) := Lib.hid (by first | omega | (simp only []; omega) | (simp; omega))
  have HGEB1 : Hid (w.heap.size ≤ w.heap.size + 1) := Lib.hid (by first | omega | (simp only []; omega) | (simp; omega))
  have HGEB2 : Hid (w.heap.size ≤ w.heap.size + 1 + 1) := Lib.hid (by first | omega | (simp only []; omega) | (simp; omega))
  clear e1
  go_wp2_with fail
  refine wp_name (fun W => Ext w W ∧ Blk W (w.heap.size) #[.int .i16 p.n0, .int .u8 (p.d0 : Int), .int .i16 p.n1, .int .u8 (p.d1 : Int), .int .i16 p.n2, .int .u8 (p.d2 : Int), .int .i16 q.n0, .int .u8 (q.d0 : Int), .int .i16 q.n1, .int .u8 (q.d1 : Int), .int .i16 q.n2, .int .u8 (q.d2 : Int)] 44 ∧ Blk W (w.heap.size + 1) #[.int .i16 r.n0, .int .u8 (r.d0 : Int), .int .i16 r.n1, .int .u8 (r.d1 : Int), .int .i16 r.n2, .int .u8 (r.d2 : Int)] 26 ∧ Blk W (w.heap.size + 1 + 1) #[.int .i16 n, .int .u8 (d : Int)] 24) ⟨HX1.out, HB0_1.out, HB1_1.out, HB2_1.out⟩ ?_
  rintro w2 ⟨e2, bB0_2, bB1_2, bB2_2⟩
  have HX2 := Lib.hid e2; have HB0_2 := Lib.hid bB0_2; have HB1_2 := Lib.hid bB1_2; have HB2_2 := Lib.hid bB2_2
  clear e2 bB0_2 bB1_2 bB2_2
  refine region_lin [.val (.pointer (some ⟨w.heap.size, 0, none⟩)), .val (.agg #[.int .i16 p.n0, .int .u8 (p.d0 : Int), .int .i16 p.n1, .int .u8 (p.d1 : Int), .int .i16 p.n2, .int .u8 (p.d2 : Int)]), .val (.agg #[.string (qs a.x), .string (qs a.y)]), .val (.pointer (some ⟨w.heap.size, 6, none⟩)), .val (.agg #[.int .i16 q.n0, .int .u8 (q.d0 : Int), .int .i16 q.n1, .int .u8 (q.d1 : Int), .int .i16 q.n2, .int .u8 (q.d2 : Int)]), .val (.agg #[.string (qs b.x), .string (qs b.y)]), .val (.agg #[.int .i16 r.n0, .int .u8 (r.d0 : Int), .int .i16 r.n1, .int .u8 (r.d1 : Int), .int .i16 r.n2, .int .u8 (r.d2 : Int)]), .val (.agg #[.string (qs c.x), .string (qs c.y)]), .val (.agg #[.int .i16 n, .int .u8 (d : Int)]), .val (.string (qs k)), .mem (fun b_ => .pointer (some ⟨b_, 0, none⟩)) #[.string ⟨#[]⟩, .string ⟨#[]⟩] 62 (Option.some 13), .mem (fun b_ => .pointer (some ⟨b_, 0, none⟩)) #[.string ⟨#[]⟩, .string ⟨#[]⟩] 62 (Option.some 14), .mem (fun b_ => .pointer (some ⟨b_, 0, none⟩)) #[.string ⟨#[]⟩, .string ⟨#[]⟩] 62 (Option.some 15), .put 10 #[.string (qs a.x), .string (qs a.y)], .put 11 #[.string (qs b.x), .string (qs b.y)], .put 12 #[.string (qs c.x), .string (qs c.y)], .val (.string (qs k))] (by kernel_rfl) (by kernel_rfl) (by kernel_rfl) ?_ (fun g2 w3 hx_ hm_ hne_ => ?_)
  · skip
    refine RnL.cons (fun g2 A_ W_ hs_ => ?_) ?_
    · have q3_ := (hs_.old 3 (by kernel_rfl) : A_.tmps[3]?.getD undef = .pointer (some ⟨w.heap.size, 0, none⟩))
      refine Rn.val fun K_ hK_ => ?_
      go_simp
      exact hK_.out _ (Ext.refl _)
    refine RnL.cons (fun g2 A_ W_ hs_ => ?_) ?_
    · have q24_ := hs_.val 0 rfl rfl rfl
      have cB0_0 := (HB0_2.out.drew.ext hs_.1).cell 0 rfl
      have cB0_1 := (HB0_2.out.drew.ext hs_.1).cell 1 rfl
      have cB0_2 := (HB0_2.out.drew.ext hs_.1).cell 2 rfl
      have cB0_3 := (HB0_2.out.drew.ext hs_.1).cell 3 rfl
      have cB0_4 := (HB0_2.out.drew.ext hs_.1).cell 4 rfl
      have cB0_5 := (HB0_2.out.drew.ext hs_.1).cell 5 rfl
      refine Rn.val fun K_ hK_ => ?_
      go_simp
      exact hK_.out _ (Ext.refl _)
    refine RnL.cons (fun g2 A_ W_ hs_ => ?_) ?_
    · have q25_ := hs_.val 1 rfl rfl rfl
      refine Rn.val fun K_ hK_ => ?_
      go_simp
      refine ((HaE.out ▸ point_c p _ (HG.out.ext (HX2.out.drew.trans hs_.1)) Hp.out)).mono ?_; rintro e W9_ ⟨rfl, e9_⟩; exact hK_.out _ e9_
    refine RnL.cons (fun g2 A_ W_ hs_ => ?_) ?_
    · have q3_ := (hs_.old 3 (by kernel_rfl) : A_.tmps[3]?.getD undef = .pointer (some ⟨w.heap.size, 0, none⟩))
      refine Rn.val fun K_ hK_ => ?_
      go_simp
      exact hK_.out _ (Ext.refl _)
    refine RnL.cons (fun g2 A_ W_ hs_ => ?_) ?_
    · have q27_ := hs_.val 3 rfl rfl rfl
      have cB0_6 := (HB0_2.out.drew.ext hs_.1).cell 6 rfl
      have cB0_7 := (HB0_2.out.drew.ext hs_.1).cell 7 rfl
      have cB0_8 := (HB0_2.out.drew.ext hs_.1).cell 8 rfl
      have cB0_9 := (HB0_2.out.drew.ext hs_.1).cell 9 rfl
      have cB0_10 := (HB0_2.out.drew.ext hs_.1).cell 10 rfl
      have cB0_11 := (HB0_2.out.drew.ext hs_.1).cell 11 rfl
      refine Rn.val fun K_ hK_ => ?_
      go_simp
      exact hK_.out _ (Ext.refl _)
    refine RnL.cons (fun g2 A_ W_ hs_ => ?_) ?_
    · have q28_ := hs_.val 4 rfl rfl rfl
      refine Rn.val fun K_ hK_ => ?_
      go_simp
      refine ((HbE.out ▸ point_c q _ (HG.out.ext (HX2.out.drew.trans hs_.1)) Hq.out)).mono ?_; rintro e W9_ ⟨rfl, e9_⟩; exact hK_.out _ e9_
    refine RnL.cons (fun g2 A_ W_ hs_ => ?_) ?_
    · have q4_ := (hs_.old 4 (by kernel_rfl) : A_.tmps[4]?.getD undef = .pointer (some ⟨w.heap.size + 1, 0, none⟩))
      have cB1_0 := (HB1_2.out.drew.ext hs_.1).cell 0 rfl
      have cB1_1 := (HB1_2.out.drew.ext hs_.1).cell 1 rfl
      have cB1_2 := (HB1_2.out.drew.ext hs_.1).cell 2 rfl
      have cB1_3 := (HB1_2.out.drew.ext hs_.1).cell 3 rfl
      have cB1_4 := (HB1_2.out.drew.ext hs_.1).cell 4 rfl
      have cB1_5 := (HB1_2.out.drew.ext hs_.1).cell 5 rfl
      refine Rn.val fun K_ hK_ => ?_
      go_simp
      exact hK_.out _ (Ext.refl _)
    refine RnL.cons (fun g2 A_ W_ hs_ => ?_) ?_
    · have q30_ := hs_.val 6 rfl rfl rfl
      refine Rn.val fun K_ hK_ => ?_
      go_simp
      refine ((HcE.out ▸ point_c r _ (HG.out.ext (HX2.out.drew.trans hs_.1)) Hr.out)).mono ?_; rintro e W9_ ⟨rfl, e9_⟩; exact hK_.out _ e9_
    refine RnL.cons (fun g2 A_ W_ hs_ => ?_) ?_
    · have q5_ := (hs_.old 5 (by kernel_rfl) : A_.tmps[5]?.getD undef = .pointer (some ⟨w.heap.size + 1 + 1, 0, none⟩))
      have cB2_0 := (HB2_2.out.drew.ext hs_.1).cell 0 rfl
      have cB2_1 := (HB2_2.out.drew.ext hs_.1).cell 1 rfl
      refine Rn.val fun K_ hK_ => ?_
      go_simp
      exact hK_.out _ (Ext.refl _)
    refine RnL.cons (fun g2 A_ W_ hs_ => ?_) ?_
    · have q32_ := hs_.val 8 rfl rfl rfl
      refine Rn.val fun K_ hK_ => ?_
      go_simp
      refine ((HkE.out ▸ mk2_c n d _ (HG.out.ext (HX2.out.drew.trans hs_.1)) Hk0.out.1 Hk0.out.2.1 Hk0.out.2.2)).mono ?_; rintro e W9_ ⟨rfl, e9_⟩; exact hK_.out _ e9_
    refine RnL.cons (fun g2 A_ W_ hs_ => ?_) ?_
    · refine Rn.mem fun K_ hK_ => ?_
      go_simp
      exact hK_.out
    refine RnL.cons (fun g2 A_ W_ hs_ => ?_) ?_
    · refine Rn.mem fun K_ hK_ => ?_
      go_simp
      exact hK_.out
    refine RnL.cons (fun g2 A_ W_ hs_ => ?_) ?_
    · refine Rn.mem fun K_ hK_ => ?_
      go_simp
      exact hK_.out
    refine RnL.cons (fun g2 A_ W_ hs_ => ?_) ?_
    · have q7_ := (hs_.mem 10 rfl rfl rfl).1
      have q26_ := hs_.val 2 rfl rfl rfl
      refine Rn.put (z := #[.string ⟨#[]⟩, .string ⟨#[]⟩]) (t := 62) rfl fun hB K_ hK_ => ?_
      have c_0 := hB.cell 0 rfl; have f_0 := hB.free 0
      have c_1 := hB.cell 1 rfl; have f_1 := hB.free 1
      have HB := Lib.hid hB; clear hB
      go_simp
      exact hK_.out _ (((Only.refl _ _).set 0 _).set 1 _) ((HB.out.set 0 _).set 1 _)
    refine RnL.cons (fun g2 A_ W_ hs_ => ?_) ?_
    · have q8_ := (hs_.mem 11 rfl rfl rfl).1
      have q29_ := hs_.val 5 rfl rfl rfl
      refine Rn.put (z := #[.string ⟨#[]⟩, .string ⟨#[]⟩]) (t := 62) rfl fun hB K_ hK_ => ?_
      have c_0 := hB.cell 0 rfl; have f_0 := hB.free 0
      have c_1 := hB.cell 1 rfl; have f_1 := hB.free 1
      have HB := Lib.hid hB; clear hB
      go_simp
      exact hK_.out _ (((Only.refl _ _).set 0 _).set 1 _) ((HB.out.set 0 _).set 1 _)
    refine RnL.cons (fun g2 A_ W_ hs_ => ?_) ?_
    · have q9_ := (hs_.mem 12 rfl rfl rfl).1
      have q31_ := hs_.val 7 rfl rfl rfl
      refine Rn.put (z := #[.string ⟨#[]⟩, .string ⟨#[]⟩]) (t := 62) rfl fun hB K_ hK_ => ?_
      have c_0 := hB.cell 0 rfl; have f_0 := hB.free 0
      have c_1 := hB.cell 1 rfl; have f_1 := hB.free 1
      have HB := Lib.hid hB; clear hB
      go_simp
      exact hK_.out _ (((Only.refl _ _).set 0 _).set 1 _) ((HB.out.set 0 _).set 1 _)
    refine RnL.cons (fun g2 A_ W_ hs_ => ?_) ?_
    · have q33_ := hs_.val 9 rfl rfl rfl
      refine Rn.val fun K_ hK_ => ?_
      go_simp
      exact hK_.out _ (Ext.refl _)
    exact RnL.nil
  simp only [fs, Kd.value, puts, Act.put, List.setIfInBounds_toArray, List.set_cons_zero, List.set_cons_succ, Nat.reduceAdd]
  have HX3 : Hid (Ext w w3) := Lib.hid (HX2.out.drew.trans hx_)
  have HB3_3 : Hid (Blk w3 (g2 10) #[.string (qs a.x), .string (qs a.y)] 62) := Lib.hid (hm_ 10 _ _ _ _ rfl).2; have HGEB3 : Hid (w.heap.size ≤ g2 10) := Lib.hid (Nat.le_trans HX2.out.size (hm_ 10 _ _ _ _ rfl).1)
  have HB4_3 : Hid (Blk w3 (g2 11) #[.string (qs b.x), .string (qs b.y)] 62) := Lib.hid (hm_ 11 _ _ _ _ rfl).2; have HGEB4 : Hid (w.heap.size ≤ g2 11) := Lib.hid (Nat.le_trans HX2.out.size (hm_ 11 _ _ _ _ rfl).1)
  have HB5_3 : Hid (Blk w3 (g2 12) #[.string (qs c.x), .string (qs c.y)] 62) := Lib.hid (hm_ 12 _ _ _ _ rfl).2; have HGEB5 : Hid (w.heap.size ≤ g2 12) := Lib.hid (Nat.le_trans HX2.out.size (hm_ 12 _ _ _ _ rfl).1)
  have HNEB3B4 : Hid (g2 10 ≠ g2 11) := Lib.hid (hne_ 10 11 (by decide) ⟨_, _, _, _, rfl⟩ ⟨_, _, _, _, rfl⟩)
  have HNEB3B5 : Hid (g2 10 ≠ g2 12) := Lib.hid (hne_ 10 12 (by decide) ⟨_, _, _, _, rfl⟩ ⟨_, _, _, _, rfl⟩)
  have HNEB4B5 : Hid (g2 11 ≠ g2 12) := Lib.hid (hne_ 11 12 (by decide) ⟨_, _, _, _, rfl⟩ ⟨_, _, _, _, rfl⟩)
  clear hx_ hm_ hne_
  generalize g2 10 = i3 at *
  generalize g2 11 = i4 at *
  generalize g2 12 = i5 at *
  clear g2
  have c3_0 := HB3_3.out.cell 0 rfl
  have c3_1 := HB3_3.out.cell 1 rfl
  have c4_0 := HB4_3.out.cell 0 rfl
  have c4_1 := HB4_3.out.cell 1 rfl
  have c5_0 := HB5_3.out.cell 0 rfl
  have c5_1 := HB5_3.out.cell 1 rfl
  go_wp2_with fail
  refine (vTurn_ok a b c _ (HG.out.ext HX3.out) (Ha.out.mono (by omega)) (Hb.out.mono (by omega)) (Hc.out.mono (by omega))).mono ?_; rintro e w4 ⟨rfl, e4⟩
  have HX4 : Hid (Ext w w4) := Lib.hid (HX3.out.trans e4)
  have HB3_4 : Hid (Blk w4 (i3) #[.string (qs a.x), .string (qs a.y)] 62) := Lib.hid (Blk.ext HB3_3.out e4)
  have HB4_4 : Hid (Blk w4 (i4) #[.string (qs b.x), .string (qs b.y)] 62) := Lib.hid (Blk.ext HB4_3.out e4)
  have HB5_4 : Hid (Blk w4 (i5) #[.string (qs c.x), .string (qs c.y)] 62) := Lib.hid (Blk.ext HB5_3.out e4)
  clear e4 c3_0 c3_1 c4_0 c4_1 c5_0 c5_1
  have c3_0 := HB3_4.out.cell 0 rfl
  have c3_1 := HB3_4.out.cell 1 rfl
  have c4_0 := HB4_4.out.cell 0 rfl
  have c4_1 := HB4_4.out.cell 1 rfl
  have c5_0 := HB5_4.out.cell 0 rfl
  have c5_1 := HB5_4.out.cell 1 rfl
  go_wp2_with fail
  refine (vArea_ok a b c _ (HG.out.ext HX4.out) (Ha.out.mono (by omega)) (Hb.out.mono (by omega)) (Hc.out.mono (by omega)) ((((Hb.out.x.sub Ha.out.x).mul (Hc.out.y.sub Ha.out.y)).sub ((Hb.out.y.sub Ha.out.y).mul (Hc.out.x.sub Ha.out.x))).mono (by omega))).mono ?_; rintro e w5 ⟨rfl, e5⟩
  have HX5 : Hid (Ext w w5) := Lib.hid (HX4.out.trans e5)
  have HB3_5 : Hid (Blk w5 (i3) #[.string (qs a.x), .string (qs a.y)] 62) := Lib.hid (Blk.ext HB3_4.out e5)
  have HB4_5 : Hid (Blk w5 (i4) #[.string (qs b.x), .string (qs b.y)] 62) := Lib.hid (Blk.ext HB4_4.out e5)
  have HB5_5 : Hid (Blk w5 (i5) #[.string (qs c.x), .string (qs c.y)] 62) := Lib.hid (Blk.ext HB5_4.out e5)
  clear e5 c3_0 c3_1 c4_0 c4_1 c5_0 c5_1
  have c3_0 := HB3_5.out.cell 0 rfl
  have c3_1 := HB3_5.out.cell 1 rfl
  have c4_0 := HB4_5.out.cell 0 rfl
  have c4_1 := HB4_5.out.cell 1 rfl
  have c5_0 := HB5_5.out.cell 0 rfl
  have c5_1 := HB5_5.out.cell 1 rfl
  go_wp2_with fail
  refine (vBetween_ok a b c _ (HG.out.ext HX5.out) (Ha.out.mono (by omega)) (Hb.out.mono (by omega)) (Hc.out.mono (by omega))).mono ?_; rintro e w6 ⟨rfl, e6⟩
  have HX6 : Hid (Ext w w6) := Lib.hid (HX5.out.trans e6)
  have HB3_6 : Hid (Blk w6 (i3) #[.string (qs a.x), .string (qs a.y)] 62) := Lib.hid (Blk.ext HB3_5.out e6)
  have HB4_6 : Hid (Blk w6 (i4) #[.string (qs b.x), .string (qs b.y)] 62) := Lib.hid (Blk.ext HB4_5.out e6)
  have HB5_6 : Hid (Blk w6 (i5) #[.string (qs c.x), .string (qs c.y)] 62) := Lib.hid (Blk.ext HB5_5.out e6)
  clear e6 c3_0 c3_1 c4_0 c4_1 c5_0 c5_1
  have c3_0 := HB3_6.out.cell 0 rfl
  have c3_1 := HB3_6.out.cell 1 rfl
  have c4_0 := HB4_6.out.cell 0 rfl
  have c4_1 := HB4_6.out.cell 1 rfl
  go_wp2_with fail
  refine (vToward_ok a b k _ (HG.out.ext HX6.out) (Ha.out.mono (by omega)) (Hb.out.mono (by omega)) (Hk.out.mono (by omega)) ⟨((Ha.out.x.add (Hk.out.mul (Hb.out.x.sub Ha.out.x))).mono (by omega)), ((Ha.out.y.add (Hk.out.mul (Hb.out.y.sub Ha.out.y))).mono (by omega))⟩).mono ?_; rintro e w7 ⟨rfl, e7⟩
  have HX7 : Hid (Ext w w7) := Lib.hid (HX6.out.trans e7)
  have HB3_7 : Hid (Blk w7 (i3) #[.string (qs a.x), .string (qs a.y)] 62) := Lib.hid (Blk.ext HB3_6.out e7)
  have HB4_7 : Hid (Blk w7 (i4) #[.string (qs b.x), .string (qs b.y)] 62) := Lib.hid (Blk.ext HB4_6.out e7)
  have HB5_7 : Hid (Blk w7 (i5) #[.string (qs c.x), .string (qs c.y)] 62) := Lib.hid (Blk.ext HB5_6.out e7)
  clear e7 c3_0 c3_1 c4_0 c4_1
  go_wp2_with fail
  refine wp_name (fun W => Ext w W ∧ Blk W (i3) #[.string (qs a.x), .string (qs a.y)] 62 ∧ Blk W (i4) #[.string (qs b.x), .string (qs b.y)] 62 ∧ Blk W (i5) #[.string (qs c.x), .string (qs c.y)] 62 ∧ Blk W (w7.heap.size) #[.string (qs (a.x + k * (b.x - a.x))), .string (qs (a.y + k * (b.y - a.y)))] 62) ⟨(HX7.out.alloc _), (HB3_7.out.alloc _), (HB4_7.out.alloc _), (HB5_7.out.alloc _), (Blk.new' (w := _) (cs := #[.string (qs (a.x + k * (b.x - a.x))), .string (qs (a.y + k * (b.y - a.y)))]) (t := 62) (by first | rfl | (simp only [World.size_alloc]; done) | (simp only [World.size_alloc]; omega) | simp))⟩ ?_
  rintro w8 ⟨e8, bB3_8, bB4_8, bB5_8, bB6_8⟩
  have HX8 := Lib.hid e8; have HB3_8 := Lib.hid bB3_8; have HB4_8 := Lib.hid bB4_8; have HB5_8 := Lib.hid bB5_8; have HB6_8 := Lib.hid bB6_8
  have HGEB6 : Hid (w.heap.size ≤ w7.heap.size) := Lib.hid (by have := HX7.out.size; first | omega | (simp only []; omega) | (simp; omega))
  clear e8 bB3_8 bB4_8 bB5_8 bB6_8
  refine region_lin [.val (.agg #[.string (qs a.x), .string (qs a.y)]), .val (.agg #[.string (qs b.x), .string (qs b.y)]), .val (.agg #[.string (qs a.x), .string (qs a.y)]), .val (.agg #[.string (qs b.x), .string (qs b.y)]), .val (.string (qs k)), .val (.agg #[.string (qs (a.x + k * (b.x - a.x))), .string (qs (a.y + k * (b.y - a.y)))]), .val (.tuple #[.bool (inq 0 1 k), .int .i64 0]), .val (.tuple #[.bool (inq 0 1 k), .int .i64 0]), .val (.bool (inq 0 1 k)), .val (.int .i64 0), .val (.bool (inq 0 1 k)), .val (.int .i64 0)] (by kernel_rfl) (by kernel_rfl) (by kernel_rfl) ?_ (fun g8 w9 hx_ hm_ hne_ => ?_)
  · skip
    refine RnL.cons (fun g8 A_ W_ hs_ => ?_) ?_
    · have q7_ := (hs_.old 7 (by kernel_rfl) : A_.tmps[7]?.getD undef = .pointer (some ⟨i3, 0, none⟩))
      have cB3_0 := (HB3_8.out.drew.ext hs_.1).cell 0 rfl
      have cB3_1 := (HB3_8.out.drew.ext hs_.1).cell 1 rfl
      refine Rn.val fun K_ hK_ => ?_
      go_simp
      exact hK_.out _ (Ext.refl _)
    refine RnL.cons (fun g8 A_ W_ hs_ => ?_) ?_
    · have q8_ := (hs_.old 8 (by kernel_rfl) : A_.tmps[8]?.getD undef = .pointer (some ⟨i4, 0, none⟩))
      have cB4_0 := (HB4_8.out.drew.ext hs_.1).cell 0 rfl
      have cB4_1 := (HB4_8.out.drew.ext hs_.1).cell 1 rfl
      refine Rn.val fun K_ hK_ => ?_
      go_simp
      exact hK_.out _ (Ext.refl _)
    refine RnL.cons (fun g8 A_ W_ hs_ => ?_) ?_
    · have q7_ := (hs_.old 7 (by kernel_rfl) : A_.tmps[7]?.getD undef = .pointer (some ⟨i3, 0, none⟩))
      have cB3_0 := (HB3_8.out.drew.ext hs_.1).cell 0 rfl
      have cB3_1 := (HB3_8.out.drew.ext hs_.1).cell 1 rfl
      refine Rn.val fun K_ hK_ => ?_
      go_simp
      exact hK_.out _ (Ext.refl _)
    refine RnL.cons (fun g8 A_ W_ hs_ => ?_) ?_
    · have q8_ := (hs_.old 8 (by kernel_rfl) : A_.tmps[8]?.getD undef = .pointer (some ⟨i4, 0, none⟩))
      have cB4_0 := (HB4_8.out.drew.ext hs_.1).cell 0 rfl
      have cB4_1 := (HB4_8.out.drew.ext hs_.1).cell 1 rfl
      refine Rn.val fun K_ hK_ => ?_
      go_simp
      exact hK_.out _ (Ext.refl _)
    refine RnL.cons (fun g8 A_ W_ hs_ => ?_) ?_
    · have q10_ := (hs_.old 10 (by kernel_rfl) : A_.tmps[10]?.getD undef = .string (qs k))
      refine Rn.val fun K_ hK_ => ?_
      go_simp
      exact hK_.out _ (Ext.refl _)
    refine RnL.cons (fun g8 A_ W_ hs_ => ?_) ?_
    · have q65_ := hs_.val 2 rfl rfl rfl
      have q66_ := hs_.val 3 rfl rfl rfl
      have q67_ := hs_.val 4 rfl rfl rfl
      refine Rn.val fun K_ hK_ => ?_
      go_simp
      refine (stoward_x a b k _ (HG.out.ext (HX8.out.drew.trans hs_.1)) Ha.out Hb.out Hk.out (by omega) (by omega)).mono ?_; rintro e W9_ ⟨rfl, e9_⟩; exact hK_.out _ e9_
    refine RnL.cons (fun g8 A_ W_ hs_ => ?_) ?_
    · have q63_ := hs_.val 0 rfl rfl rfl
      have q64_ := hs_.val 1 rfl rfl rfl
      have q68_ := hs_.val 5 rfl rfl rfl
      refine Rn.val fun K_ hK_ => ?_
      go_simp
      refine ((btw_step a b k HAB.out ▸ vBetween_ok a b ⟨a.x + k * (b.x - a.x), a.y + k * (b.y - a.y)⟩ _ (HG.out.ext (HX8.out.drew.trans hs_.1)) (Ha.out.mono (by omega)) (Hb.out.mono (by omega)) ⟨((Ha.out.x.add (Hk.out.mul (Hb.out.x.sub Ha.out.x))).mono (by omega)), ((Ha.out.y.add (Hk.out.mul (Hb.out.y.sub Ha.out.y))).mono (by omega))⟩)).mono ?_; rintro e W9_ ⟨rfl, e9_⟩; exact hK_.out _ e9_
    refine RnL.cons (fun g8 A_ W_ hs_ => ?_) ?_
    · have q69_ := hs_.val 6 rfl rfl rfl
      refine Rn.val fun K_ hK_ => ?_
      go_simp
      exact hK_.out _ (Ext.refl _)
    refine RnL.cons (fun g8 A_ W_ hs_ => ?_) ?_
    · have q62_ := hs_.val 7 rfl rfl rfl
      refine Rn.val fun K_ hK_ => ?_
      go_simp
      exact hK_.out _ (Ext.refl _)
    refine RnL.cons (fun g8 A_ W_ hs_ => ?_) ?_
    · have q62_ := hs_.val 7 rfl rfl rfl
      refine Rn.val fun K_ hK_ => ?_
      go_simp
      exact hK_.out _ (Ext.refl _)
    refine RnL.cons (fun g8 A_ W_ hs_ => ?_) ?_
    · have q70_ := hs_.val 8 rfl rfl rfl
      refine Rn.val fun K_ hK_ => ?_
      go_simp
      exact hK_.out _ (Ext.refl _)
    refine RnL.cons (fun g8 A_ W_ hs_ => ?_) ?_
    · have q71_ := hs_.val 9 rfl rfl rfl
      refine Rn.val fun K_ hK_ => ?_
      go_simp
      exact hK_.out _ (Ext.refl _)
    exact RnL.nil
  simp only [fs, Kd.value, puts, Act.put, List.setIfInBounds_toArray, List.set_cons_zero, List.set_cons_succ]
  have HX9 : Hid (Ext w w9) := Lib.hid (HX8.out.drew.trans hx_)
  have HB3_9 := Lib.hid (HB3_8.out.drew.ext hx_)
  have HB4_9 := Lib.hid (HB4_8.out.drew.ext hx_)
  have HB5_9 := Lib.hid (HB5_8.out.drew.ext hx_)
  have HB6_9 := Lib.hid (HB6_8.out.drew.ext hx_)
  clear hx_ hm_ hne_
  have c3_0 := HB3_9.out.cell 0 rfl
  have c3_1 := HB3_9.out.cell 1 rfl
  have c4_0 := HB4_9.out.cell 0 rfl
  have c4_1 := HB4_9.out.cell 1 rfl
  go_wp2_with fail
  refine (sinside_01 k _ (HG.out.ext HX9.out) Hk.out (by decide) (by decide)).mono ?_; rintro e w10 ⟨rfl, e10⟩
  have HX10 : Hid (Ext w w10) := Lib.hid (HX9.out.trans e10)
  have HB3_10 : Hid (Blk w10 (i3) #[.string (qs a.x), .string (qs a.y)] 62) := Lib.hid (Blk.ext HB3_9.out e10)
  have HB4_10 : Hid (Blk w10 (i4) #[.string (qs b.x), .string (qs b.y)] 62) := Lib.hid (Blk.ext HB4_9.out e10)
  have HB5_10 : Hid (Blk w10 (i5) #[.string (qs c.x), .string (qs c.y)] 62) := Lib.hid (Blk.ext HB5_9.out e10)
  have HB6_10 : Hid (Blk w10 (w7.heap.size) #[.string (qs (a.x + k * (b.x - a.x))), .string (qs (a.y + k * (b.y - a.y)))] 62) := Lib.hid (Blk.ext HB6_9.out e10)
  clear e10 c3_0 c3_1 c4_0 c4_1
  go_wp2_with fail
  refine wp_name (fun W => Ext w W ∧ Blk W (i3) #[.string (qs a.x), .string (qs a.y)] 62 ∧ Blk W (i4) #[.string (qs b.x), .string (qs b.y)] 62 ∧ Blk W (i5) #[.string (qs c.x), .string (qs c.y)] 62 ∧ Blk W (w7.heap.size) #[.string (qs (a.x + k * (b.x - a.x))), .string (qs (a.y + k * (b.y - a.y)))] 62) ⟨HX10.out, HB3_10.out, HB4_10.out, HB5_10.out, HB6_10.out⟩ ?_
  rintro w11 ⟨e11, bB3_11, bB4_11, bB5_11, bB6_11⟩
  have HX11 := Lib.hid e11; have HB3_11 := Lib.hid bB3_11; have HB4_11 := Lib.hid bB4_11; have HB5_11 := Lib.hid bB5_11; have HB6_11 := Lib.hid bB6_11
  clear e11 bB3_11 bB4_11 bB5_11 bB6_11
  refine region_lin [.val (.int .i64 0), .val (.int .i64 0), .val (.int .i64 0), .val (.int .i64 0), .val (.int .i64 0), .mem (fun b_ => .slice (some ⟨b_, 0, none⟩) 5 5) #[.int .i64 0, .int .i64 0, .int .i64 0, .int .i64 0, .int .i64 0] 32 Option.none, .val (.int .i64 0), .val (.bool true), .val (.bool true), .val (.int .i64 (((b.x - a.x) * (c.y - a.y) - (b.y - a.y) * (c.x - a.x)).num.sign)), .val (.agg #[.string (qs a.x), .string (qs a.y)]), .val (.agg #[.string (qs b.x), .string (qs b.y)]), .val (.agg #[.string (qs c.x), .string (qs c.y)]), .val (.int .i64 (((b.x - a.x) * (c.y - a.y) - (b.y - a.y) * (c.x - a.x)).num.sign)), .val (.bool true), .val (.bool true), .val (.bool true), .val (.string (qs ((b.x - a.x) * (c.y - a.y) - (b.y - a.y) * (c.x - a.x)))), .val (.agg #[.string (qs a.x), .string (qs a.y)]), .val (.agg #[.string (qs b.x), .string (qs b.y)]), .val (.agg #[.string (qs c.x), .string (qs c.y)]), .val (.string (qs ((b.x - a.x) * (c.y - a.y) - (b.y - a.y) * (c.x - a.x)))), .val (.bool true), .val (.bool true), .val (.bool true), .val (.bool (vbtw a b c)), .val (.agg #[.string (qs a.x), .string (qs a.y)]), .val (.agg #[.string (qs b.x), .string (qs b.y)]), .val (.agg #[.string (qs c.x), .string (qs c.y)]), .val (.bool (vbtw a b c)), .val (.bool true), .val (.bool true), .val (.bool true), .val (.agg #[.string (qs (a.x + k * (b.x - a.x))), .string (qs (a.y + k * (b.y - a.y)))]), .val (.agg #[.string (qs a.x), .string (qs a.y)]), .val (.agg #[.string (qs b.x), .string (qs b.y)]), .val (.string (qs k)), .val (.agg #[.string (qs (a.x + k * (b.x - a.x))), .string (qs (a.y + k * (b.y - a.y)))]), .val (.bool true), .val (.bool true), .val (.bool true), .val (.bool (inq 0 1 k)), .val (.bool (inq 0 1 k)), .val (.bool true), .val (.bool true), .val (.bool true)] (by kernel_rfl) (by kernel_rfl) (by kernel_rfl) ?_ (fun g11 w12 hx_ hm_ hne_ => ?_)
  · skip
    refine RnL.cons (fun g11 A_ W_ hs_ => ?_) ?_
    · have q12_ := (hs_.old 12 (by kernel_rfl) : A_.tmps[12]?.getD undef = .int .i64 0)
      refine Rn.val fun K_ hK_ => ?_
      go_simp
      exact hK_.out _ (Ext.refl _)
    refine RnL.cons (fun g11 A_ W_ hs_ => ?_) ?_
    · have q14_ := (hs_.old 14 (by kernel_rfl) : A_.tmps[14]?.getD undef = .int .i64 0)
      refine Rn.val fun K_ hK_ => ?_
      go_simp
      exact hK_.out _ (Ext.refl _)
    refine RnL.cons (fun g11 A_ W_ hs_ => ?_) ?_
    · have q16_ := (hs_.old 16 (by kernel_rfl) : A_.tmps[16]?.getD undef = .int .i64 0)
      refine Rn.val fun K_ hK_ => ?_
      go_simp
      exact hK_.out _ (Ext.refl _)
    refine RnL.cons (fun g11 A_ W_ hs_ => ?_) ?_
    · have q18_ := (hs_.old 18 (by kernel_rfl) : A_.tmps[18]?.getD undef = .int .i64 0)
      refine Rn.val fun K_ hK_ => ?_
      go_simp
      exact hK_.out _ (Ext.refl _)
    refine RnL.cons (fun g11 A_ W_ hs_ => ?_) ?_
    · have q20_ := (hs_.old 20 (by kernel_rfl) : A_.tmps[20]?.getD undef = .int .i64 0)
      refine Rn.val fun K_ hK_ => ?_
      go_simp
      exact hK_.out _ (Ext.refl _)
    refine RnL.cons (fun g11 A_ W_ hs_ => ?_) ?_
    · have q79_ := hs_.val 0 rfl rfl rfl
      have q80_ := hs_.val 1 rfl rfl rfl
      have q81_ := hs_.val 2 rfl rfl rfl
      have q82_ := hs_.val 3 rfl rfl rfl
      have q83_ := hs_.val 4 rfl rfl rfl
      refine Rn.mem fun K_ hK_ => ?_
      go_simp
      exact hK_.out
    refine RnL.cons (fun g11 A_ W_ hs_ => ?_) ?_
    · have q84_ := (hs_.mem 5 rfl rfl rfl).1
      refine Rn.val fun K_ hK_ => ?_
      go_simp
      refine (((by decide : ferr [0, 0, 0, 0, 0] = 0) ▸ first5_c 0 0 0 0 0 (g11 5) _ ((hs_.mem 5 rfl rfl rfl).2.2 rfl))).mono ?_; rintro e _ ⟨rfl, rfl⟩; exact hK_.out _ (Ext.refl _)
    refine RnL.cons (fun g11 A_ W_ hs_ => ?_) ?_
    · have q85_ := hs_.val 6 rfl rfl rfl
      refine Rn.val fun K_ hK_ => ?_
      go_simp
      exact hK_.out _ (Ext.refl _)
    refine RnL.cons (fun g11 A_ W_ hs_ => ?_) ?_
    · have q86_ := hs_.val 7 rfl rfl rfl
      refine Rn.val fun K_ hK_ => ?_
      go_simp
      exact hK_.out _ (Ext.refl _)
    refine RnL.cons (fun g11 A_ W_ hs_ => ?_) ?_
    · have q11_ := (hs_.old 11 (by kernel_rfl) : A_.tmps[11]?.getD undef = .int .i64 (((b.x - a.x) * (c.y - a.y) - (b.y - a.y) * (c.x - a.x)).num.sign))
      refine Rn.val fun K_ hK_ => ?_
      go_simp
      exact hK_.out _ (Ext.refl _)
    refine RnL.cons (fun g11 A_ W_ hs_ => ?_) ?_
    · have q7_ := (hs_.old 7 (by kernel_rfl) : A_.tmps[7]?.getD undef = .pointer (some ⟨i3, 0, none⟩))
      have cB3_0 := (HB3_11.out.drew.ext hs_.1).cell 0 rfl
      have cB3_1 := (HB3_11.out.drew.ext hs_.1).cell 1 rfl
      refine Rn.val fun K_ hK_ => ?_
      go_simp
      exact hK_.out _ (Ext.refl _)
    refine RnL.cons (fun g11 A_ W_ hs_ => ?_) ?_
    · have q8_ := (hs_.old 8 (by kernel_rfl) : A_.tmps[8]?.getD undef = .pointer (some ⟨i4, 0, none⟩))
      have cB4_0 := (HB4_11.out.drew.ext hs_.1).cell 0 rfl
      have cB4_1 := (HB4_11.out.drew.ext hs_.1).cell 1 rfl
      refine Rn.val fun K_ hK_ => ?_
      go_simp
      exact hK_.out _ (Ext.refl _)
    refine RnL.cons (fun g11 A_ W_ hs_ => ?_) ?_
    · have q9_ := (hs_.old 9 (by kernel_rfl) : A_.tmps[9]?.getD undef = .pointer (some ⟨i5, 0, none⟩))
      have cB5_0 := (HB5_11.out.drew.ext hs_.1).cell 0 rfl
      have cB5_1 := (HB5_11.out.drew.ext hs_.1).cell 1 rfl
      refine Rn.val fun K_ hK_ => ?_
      go_simp
      exact hK_.out _ (Ext.refl _)
    refine RnL.cons (fun g11 A_ W_ hs_ => ?_) ?_
    · have q89_ := hs_.val 10 rfl rfl rfl
      have q90_ := hs_.val 11 rfl rfl rfl
      have q91_ := hs_.val 12 rfl rfl rfl
      refine Rn.val fun K_ hK_ => ?_
      go_simp
      refine (sturn_x a b c _ (HG.out.ext (HX11.out.drew.trans hs_.1)) Ha.out Hb.out Hc.out (by omega)).mono ?_; rintro e W9_ ⟨rfl, e9_⟩; exact hK_.out _ e9_
    refine RnL.cons (fun g11 A_ W_ hs_ => ?_) ?_
    · have q88_ := hs_.val 9 rfl rfl rfl
      have q92_ := hs_.val 13 rfl rfl rfl
      refine Rn.val fun K_ hK_ => ?_
      go_simp
      exact hK_.out _ (Ext.refl _)
    refine RnL.cons (fun g11 A_ W_ hs_ => ?_) ?_
    · have q87_ := hs_.val 8 rfl rfl rfl
      have q93_ := hs_.val 14 rfl rfl rfl
      refine Rn.val fun K_ hK_ => ?_
      go_simp
      exact hK_.out _ (Ext.refl _)
    refine RnL.cons (fun g11 A_ W_ hs_ => ?_) ?_
    · have q94_ := hs_.val 15 rfl rfl rfl
      refine Rn.val fun K_ hK_ => ?_
      go_simp
      exact hK_.out _ (Ext.refl _)
    refine RnL.cons (fun g11 A_ W_ hs_ => ?_) ?_
    · have q13_ := (hs_.old 13 (by kernel_rfl) : A_.tmps[13]?.getD undef = .string (qs ((b.x - a.x) * (c.y - a.y) - (b.y - a.y) * (c.x - a.x))))
      refine Rn.val fun K_ hK_ => ?_
      go_simp
      exact hK_.out _ (Ext.refl _)
    refine RnL.cons (fun g11 A_ W_ hs_ => ?_) ?_
    · have q7_ := (hs_.old 7 (by kernel_rfl) : A_.tmps[7]?.getD undef = .pointer (some ⟨i3, 0, none⟩))
      have cB3_0 := (HB3_11.out.drew.ext hs_.1).cell 0 rfl
      have cB3_1 := (HB3_11.out.drew.ext hs_.1).cell 1 rfl
      refine Rn.val fun K_ hK_ => ?_
      go_simp
      exact hK_.out _ (Ext.refl _)
    refine RnL.cons (fun g11 A_ W_ hs_ => ?_) ?_
    · have q8_ := (hs_.old 8 (by kernel_rfl) : A_.tmps[8]?.getD undef = .pointer (some ⟨i4, 0, none⟩))
      have cB4_0 := (HB4_11.out.drew.ext hs_.1).cell 0 rfl
      have cB4_1 := (HB4_11.out.drew.ext hs_.1).cell 1 rfl
      refine Rn.val fun K_ hK_ => ?_
      go_simp
      exact hK_.out _ (Ext.refl _)
    refine RnL.cons (fun g11 A_ W_ hs_ => ?_) ?_
    · have q9_ := (hs_.old 9 (by kernel_rfl) : A_.tmps[9]?.getD undef = .pointer (some ⟨i5, 0, none⟩))
      have cB5_0 := (HB5_11.out.drew.ext hs_.1).cell 0 rfl
      have cB5_1 := (HB5_11.out.drew.ext hs_.1).cell 1 rfl
      refine Rn.val fun K_ hK_ => ?_
      go_simp
      exact hK_.out _ (Ext.refl _)
    refine RnL.cons (fun g11 A_ W_ hs_ => ?_) ?_
    · have q97_ := hs_.val 18 rfl rfl rfl
      have q98_ := hs_.val 19 rfl rfl rfl
      have q99_ := hs_.val 20 rfl rfl rfl
      refine Rn.val fun K_ hK_ => ?_
      go_simp
      refine (sarea_x a b c _ (HG.out.ext (HX11.out.drew.trans hs_.1)) Ha.out Hb.out Hc.out (by omega)).mono ?_; rintro e W9_ ⟨rfl, e9_⟩; exact hK_.out _ e9_
    refine RnL.cons (fun g11 A_ W_ hs_ => ?_) ?_
    · have q96_ := hs_.val 17 rfl rfl rfl
      have q100_ := hs_.val 21 rfl rfl rfl
      refine Rn.val fun K_ hK_ => ?_
      go_simp
      exact hK_.out _ (Ext.refl _)
    refine RnL.cons (fun g11 A_ W_ hs_ => ?_) ?_
    · have q95_ := hs_.val 16 rfl rfl rfl
      have q101_ := hs_.val 22 rfl rfl rfl
      refine Rn.val fun K_ hK_ => ?_
      go_simp
      exact hK_.out _ (Ext.refl _)
    refine RnL.cons (fun g11 A_ W_ hs_ => ?_) ?_
    · have q102_ := hs_.val 23 rfl rfl rfl
      refine Rn.val fun K_ hK_ => ?_
      go_simp
      exact hK_.out _ (Ext.refl _)
    refine RnL.cons (fun g11 A_ W_ hs_ => ?_) ?_
    · have q15_ := (hs_.old 15 (by kernel_rfl) : A_.tmps[15]?.getD undef = .bool (vbtw a b c))
      refine Rn.val fun K_ hK_ => ?_
      go_simp
      exact hK_.out _ (Ext.refl _)
    refine RnL.cons (fun g11 A_ W_ hs_ => ?_) ?_
    · have q7_ := (hs_.old 7 (by kernel_rfl) : A_.tmps[7]?.getD undef = .pointer (some ⟨i3, 0, none⟩))
      have cB3_0 := (HB3_11.out.drew.ext hs_.1).cell 0 rfl
      have cB3_1 := (HB3_11.out.drew.ext hs_.1).cell 1 rfl
      refine Rn.val fun K_ hK_ => ?_
      go_simp
      exact hK_.out _ (Ext.refl _)
    refine RnL.cons (fun g11 A_ W_ hs_ => ?_) ?_
    · have q8_ := (hs_.old 8 (by kernel_rfl) : A_.tmps[8]?.getD undef = .pointer (some ⟨i4, 0, none⟩))
      have cB4_0 := (HB4_11.out.drew.ext hs_.1).cell 0 rfl
      have cB4_1 := (HB4_11.out.drew.ext hs_.1).cell 1 rfl
      refine Rn.val fun K_ hK_ => ?_
      go_simp
      exact hK_.out _ (Ext.refl _)
    refine RnL.cons (fun g11 A_ W_ hs_ => ?_) ?_
    · have q9_ := (hs_.old 9 (by kernel_rfl) : A_.tmps[9]?.getD undef = .pointer (some ⟨i5, 0, none⟩))
      have cB5_0 := (HB5_11.out.drew.ext hs_.1).cell 0 rfl
      have cB5_1 := (HB5_11.out.drew.ext hs_.1).cell 1 rfl
      refine Rn.val fun K_ hK_ => ?_
      go_simp
      exact hK_.out _ (Ext.refl _)
    refine RnL.cons (fun g11 A_ W_ hs_ => ?_) ?_
    · have q105_ := hs_.val 26 rfl rfl rfl
      have q106_ := hs_.val 27 rfl rfl rfl
      have q107_ := hs_.val 28 rfl rfl rfl
      refine Rn.val fun K_ hK_ => ?_
      go_simp
      refine (sbtw_v a b c _ (HG.out.ext (HX11.out.drew.trans hs_.1)) Ha.out Hb.out Hc.out (by decide)).mono ?_; rintro e W9_ ⟨rfl, e9_⟩; exact hK_.out _ e9_
    refine RnL.cons (fun g11 A_ W_ hs_ => ?_) ?_
    · have q104_ := hs_.val 25 rfl rfl rfl
      have q108_ := hs_.val 29 rfl rfl rfl
      refine Rn.val fun K_ hK_ => ?_
      go_simp
      exact hK_.out _ (Ext.refl _)
    refine RnL.cons (fun g11 A_ W_ hs_ => ?_) ?_
    · have q103_ := hs_.val 24 rfl rfl rfl
      have q109_ := hs_.val 30 rfl rfl rfl
      refine Rn.val fun K_ hK_ => ?_
      go_simp
      exact hK_.out _ (Ext.refl _)
    refine RnL.cons (fun g11 A_ W_ hs_ => ?_) ?_
    · have q110_ := hs_.val 31 rfl rfl rfl
      refine Rn.val fun K_ hK_ => ?_
      go_simp
      exact hK_.out _ (Ext.refl _)
    refine RnL.cons (fun g11 A_ W_ hs_ => ?_) ?_
    · have q17_ := (hs_.old 17 (by kernel_rfl) : A_.tmps[17]?.getD undef = .pointer (some ⟨w7.heap.size, 0, none⟩))
      have cB6_0 := (HB6_11.out.drew.ext hs_.1).cell 0 rfl
      have cB6_1 := (HB6_11.out.drew.ext hs_.1).cell 1 rfl
      refine Rn.val fun K_ hK_ => ?_
      go_simp
      exact hK_.out _ (Ext.refl _)
    refine RnL.cons (fun g11 A_ W_ hs_ => ?_) ?_
    · have q7_ := (hs_.old 7 (by kernel_rfl) : A_.tmps[7]?.getD undef = .pointer (some ⟨i3, 0, none⟩))
      have cB3_0 := (HB3_11.out.drew.ext hs_.1).cell 0 rfl
      have cB3_1 := (HB3_11.out.drew.ext hs_.1).cell 1 rfl
      refine Rn.val fun K_ hK_ => ?_
      go_simp
      exact hK_.out _ (Ext.refl _)
    refine RnL.cons (fun g11 A_ W_ hs_ => ?_) ?_
    · have q8_ := (hs_.old 8 (by kernel_rfl) : A_.tmps[8]?.getD undef = .pointer (some ⟨i4, 0, none⟩))
      have cB4_0 := (HB4_11.out.drew.ext hs_.1).cell 0 rfl
      have cB4_1 := (HB4_11.out.drew.ext hs_.1).cell 1 rfl
      refine Rn.val fun K_ hK_ => ?_
      go_simp
      exact hK_.out _ (Ext.refl _)
    refine RnL.cons (fun g11 A_ W_ hs_ => ?_) ?_
    · have q10_ := (hs_.old 10 (by kernel_rfl) : A_.tmps[10]?.getD undef = .string (qs k))
      refine Rn.val fun K_ hK_ => ?_
      go_simp
      exact hK_.out _ (Ext.refl _)
    refine RnL.cons (fun g11 A_ W_ hs_ => ?_) ?_
    · have q113_ := hs_.val 34 rfl rfl rfl
      have q114_ := hs_.val 35 rfl rfl rfl
      have q115_ := hs_.val 36 rfl rfl rfl
      refine Rn.val fun K_ hK_ => ?_
      go_simp
      refine (stoward_x a b k _ (HG.out.ext (HX11.out.drew.trans hs_.1)) Ha.out Hb.out Hk.out (by omega) (by omega)).mono ?_; rintro e W9_ ⟨rfl, e9_⟩; exact hK_.out _ e9_
    refine RnL.cons (fun g11 A_ W_ hs_ => ?_) ?_
    · have q112_ := hs_.val 33 rfl rfl rfl
      have q116_ := hs_.val 37 rfl rfl rfl
      refine Rn.val fun K_ hK_ => ?_
      go_simp
      exact hK_.out _ (Ext.refl _)
    refine RnL.cons (fun g11 A_ W_ hs_ => ?_) ?_
    · have q111_ := hs_.val 32 rfl rfl rfl
      have q117_ := hs_.val 38 rfl rfl rfl
      refine Rn.val fun K_ hK_ => ?_
      go_simp
      exact hK_.out _ (Ext.refl _)
    refine RnL.cons (fun g11 A_ W_ hs_ => ?_) ?_
    · have q118_ := hs_.val 39 rfl rfl rfl
      refine Rn.val fun K_ hK_ => ?_
      go_simp
      exact hK_.out _ (Ext.refl _)
    refine RnL.cons (fun g11 A_ W_ hs_ => ?_) ?_
    · have q19_ := (hs_.old 19 (by kernel_rfl) : A_.tmps[19]?.getD undef = .bool (inq 0 1 k))
      refine Rn.val fun K_ hK_ => ?_
      go_simp
      exact hK_.out _ (Ext.refl _)
    refine RnL.cons (fun g11 A_ W_ hs_ => ?_) ?_
    · have q21_ := (hs_.old 21 (by kernel_rfl) : A_.tmps[21]?.getD undef = .bool (inq 0 1 k))
      refine Rn.val fun K_ hK_ => ?_
      go_simp
      exact hK_.out _ (Ext.refl _)
    refine RnL.cons (fun g11 A_ W_ hs_ => ?_) ?_
    · have q120_ := hs_.val 41 rfl rfl rfl
      have q121_ := hs_.val 42 rfl rfl rfl
      refine Rn.val fun K_ hK_ => ?_
      go_simp
      exact hK_.out _ (Ext.refl _)
    refine RnL.cons (fun g11 A_ W_ hs_ => ?_) ?_
    · have q119_ := hs_.val 40 rfl rfl rfl
      have q122_ := hs_.val 43 rfl rfl rfl
      refine Rn.val fun K_ hK_ => ?_
      go_simp
      exact hK_.out _ (Ext.refl _)
    refine RnL.cons (fun g11 A_ W_ hs_ => ?_) ?_
    · have q123_ := hs_.val 44 rfl rfl rfl
      refine Rn.val fun K_ hK_ => ?_
      go_simp
      exact hK_.out _ (Ext.refl _)
    exact RnL.nil
  simp only [fs, Kd.value, puts, Act.put, List.setIfInBounds_toArray, List.set_cons_zero, List.set_cons_succ, Nat.reduceAdd]
  have HX12 : Hid (Ext w w12) := Lib.hid (HX11.out.drew.trans hx_)
  have HB7_12 : Hid (Blk w12 (g11 5) #[.int .i64 0, .int .i64 0, .int .i64 0, .int .i64 0, .int .i64 0] 32) := Lib.hid (hm_ 5 _ _ _ _ rfl).2; have HGEB7 : Hid (w.heap.size ≤ g11 5) := Lib.hid (Nat.le_trans HX11.out.size (hm_ 5 _ _ _ _ rfl).1)
  clear hx_ hm_ hne_
  generalize g11 5 = i7 at *
  clear g11
  go_wp2
  go_ret
  exact ⟨rfl, HX12.out⟩

theorem turns_walk (p q r : Pla) (n : Int) (d : Nat) (w : World) (g : Gd w) (hp : PlaOk p) (hq : PlaOk q) (hr : PlaOk r) (hn : -32768 ≤ n ∧ n ≤ 32767 ∧ d ≤ 255) : Calls Tryz.prog 11 #[.agg #[.int .i16 p.n0, .int .u8 (p.d0 : Int), .int .i16 p.n1, .int .u8 (p.d1 : Int), .int .i16 p.n2, .int .u8 (p.d2 : Int), .int .i16 q.n0, .int .u8 (q.d0 : Int), .int .i16 q.n1, .int .u8 (q.d1 : Int), .int .i16 q.n2, .int .u8 (q.d2 : Int)], .agg #[.int .i16 r.n0, .int .u8 (r.d0 : Int), .int .i16 r.n1, .int .u8 (r.d1 : Int), .int .i16 r.n2, .int .u8 (r.d2 : Int)], .agg #[.int .i16 n, .int .u8 (d : Int)]] w (Ret w (.bool true)) := by
  by_cases h : (ppt p).x = (ppt q).x
  · by_cases h2 : (ppt p).y = (ppt q).y
    · exact turns_walkA p q r n d w g hp hq hr hn (by cases e1 : ppt p; cases e2 : ppt q; rw [e1, e2] at h h2; simp only at h h2; rw [h, h2])
    · exact turns_walkB1 p q r n d w g hp hq hr hn ⟨h, h2⟩
  · exact turns_walkB0 p q r n d w g hp hq hr hn h
end Go.Proofs.YtglppcmegocphaaGreatDoor
