/- Part 30 of the proof: L5. -/
import Derived.Test.YtglppcmegocphaaGreatDoorQS28
import Derived.Test.YtglppcmegocphaaGreatDoorQS29
namespace Go.Proofs.YtglppcmegocphaaGreatDoor
open Go Go.RowKit
set_option maxRecDepth 100000 in
set_option maxHeartbeats 8000000 in
theorem planes_walk0 (p q r s : Pla) (w : World) (g : Gd w) (hp : PlaOk p) (hq : PlaOk q) (hr : PlaOk r) (hs : PlaOk s) (hz : (vnorm (pvec p) (pvec q) (pvec r)).x = 0 ∧ (vnorm (pvec p) (pvec q) (pvec r)).y = 0 ∧ (vnorm (pvec p) (pvec q) (pvec r)).z = 0) : Calls Tryz.prog 9 #[.agg #[.int .i16 p.n0, .int .u8 (p.d0 : Int), .int .i16 p.n1, .int .u8 (p.d1 : Int), .int .i16 p.n2, .int .u8 (p.d2 : Int), .int .i16 q.n0, .int .u8 (q.d0 : Int), .int .i16 q.n1, .int .u8 (q.d1 : Int), .int .i16 q.n2, .int .u8 (q.d2 : Int)], .agg #[.int .i16 r.n0, .int .u8 (r.d0 : Int), .int .i16 r.n1, .int .u8 (r.d1 : Int), .int .i16 r.n2, .int .u8 (r.d2 : Int), .int .i16 s.n0, .int .u8 (s.d0 : Int), .int .i16 s.n1, .int .u8 (s.d1 : Int), .int .i16 s.n2, .int .u8 (s.d2 : Int)]] w (Ret w (.bool true)) := by
  have Hp := Lib.hid hp
  have Hq := Lib.hid hq
  have Hr := Lib.hid hr
  have Hs := Lib.hid hs
  have HG := Lib.hid g
  clear hp hq hr hs g
  have HZ0 := Lib.hid hz; clear hz
  obtain ⟨a, ea⟩ : ∃ a, pvec p = a := ⟨_, rfl⟩
  have HaE := Lib.hid ea; have Ha : Hid (VB 5 a) := Lib.hid (ea ▸ Hp.out.v); have HaD : Hid (VD 5 3 a) := Lib.hid (ea ▸ Hp.out.vd); clear ea
  obtain ⟨b, eb⟩ : ∃ b, pvec q = b := ⟨_, rfl⟩
  have HbE := Lib.hid eb; have Hb : Hid (VB 5 b) := Lib.hid (eb ▸ Hq.out.v); have HbD : Hid (VD 5 3 b) := Lib.hid (eb ▸ Hq.out.vd); clear eb
  obtain ⟨c, ec⟩ : ∃ c, pvec r = c := ⟨_, rfl⟩
  have HcE := Lib.hid ec; have Hc : Hid (VB 5 c) := Lib.hid (ec ▸ Hr.out.v); have HcD : Hid (VD 5 3 c) := Lib.hid (ec ▸ Hr.out.vd); clear ec
  obtain ⟨d, ed⟩ : ∃ d, pvec s = d := ⟨_, rfl⟩
  have HdE := Lib.hid ed; have Hd : Hid (VB 5 d) := Lib.hid (ed ▸ Hs.out.v); have HdD : Hid (VD 5 3 d) := Lib.hid (ed ▸ Hs.out.vd); clear ed
  obtain ⟨N, eN⟩ : ∃ N, vnorm a b c = N := ⟨_, rfl⟩
  have HNE := Lib.hid eN; have HND : Hid (VD 31 24 N) := Lib.hid (eN ▸ vnorm_d HaD.out HbD.out HcD.out); have HN : Hid (VB 31 N) := Lib.hid (HND.out.vb (by decide) (by decide)); clear eN
  have HZ : Hid ((N.x = 0 ∧ N.y = 0 ∧ N.z = 0)) := Lib.hid (by have h := HZ0.out; rw [HaE.out, HbE.out, HcE.out, HNE.out] at h; exact h)
  go_enter Tryz.func9, Tryz.ntmps9
  go_wp2_with fail
  refine (known_c _ (HG.out.ext (((Ext.refl w).alloc _).alloc _))).mono ?_; rintro e w1 ⟨rfl, e1⟩
  have HX1 : Hid (Ext w w1) := Lib.hid ((((Ext.refl w).alloc _).alloc _).trans e1)
  have HB0_1 : Hid (Blk w1 (w.heap.size) #[.int .i16 p.n0, .int .u8 (p.d0 : Int), .int .i16 p.n1, .int .u8 (p.d1 : Int), .int .i16 p.n2, .int .u8 (p.d2 : Int), .int .i16 q.n0, .int .u8 (q.d0 : Int), .int .i16 q.n1, .int .u8 (q.d1 : Int), .int .i16 q.n2, .int .u8 (q.d2 : Int)] 44) := Lib.hid (Blk.ext ((Blk.new' (w := _) (cs := #[.int .i16 p.n0, .int .u8 (p.d0 : Int), .int .i16 p.n1, .int .u8 (p.d1 : Int), .int .i16 p.n2, .int .u8 (p.d2 : Int), .int .i16 q.n0, .int .u8 (q.d0 : Int), .int .i16 q.n1, .int .u8 (q.d1 : Int), .int .i16 q.n2, .int .u8 (q.d2 : Int)]) (t := 44) (by first | rfl | (simp only [World.size_alloc]; done) | (simp only [World.size_alloc]; omega) | simp)).alloc _) e1)
  have HB1_1 : Hid (Blk w1 (w.heap.size + 1) #[.int .i16 r.n0, .int .u8 (r.d0 : Int), .int .i16 r.n1, .int .u8 (r.d1 : Int), .int .i16 r.n2, .int .u8 (r.d2 : Int), .int .i16 s.n0, .int .u8 (s.d0 : Int), .int .i16 s.n1, .int .u8 (s.d1 : Int), .int .i16 s.n2, .int .u8 (s.d2 : Int)] 44) := Lib.hid (Blk.ext (Blk.new' (w := _) (cs := #[.int .i16 r.n0, .int .u8 (r.d0 : Int), .int .i16 r.n1, .int .u8 (r.d1 : Int), .int .i16 r.n2, .int .u8 (r.d2 : Int), .int .i16 s.n0, .int .u8 (s.d0 : Int), .int .i16 s.n1, .int .u8 (s.d1 : Int), .int .i16 s.n2, .int .u8 (s.d2 : Int)]) (t := 44) (by first | rfl | (simp only [World.size_alloc]; done) | (simp only [World.size_alloc]; omega) | simp)) e1)
  have HGEB0 : Hid (w.heap.size ≤ w.heap.size) := Lib.hid (by first | omega | (simp only []; omega) | (simp; omega))
  have HGEB1 : Hid (w.heap.size ≤ w.heap.size + 1) := Lib.hid (by first | omega | (simp only []; omega) | (simp; omega))
  clear e1
  go_wp2_with fail
  refine wp_name (fun W => Ext w W ∧ Blk W (w.heap.size) #[.int .i16 p.n0, .int .u8 (p.d0 : Int), .int .i16 p.n1, .int .u8 (p.d1 : Int), .int .i16 p.n2, .int .u8 (p.d2 : Int), .int .i16 q.n0, .int .u8 (q.d0 : Int), .int .i16 q.n1, .int .u8 (q.d1 : Int), .int .i16 q.n2, .int .u8 (q.d2 : Int)] 44 ∧ Blk W (w.heap.size + 1) #[.int .i16 r.n0, .int .u8 (r.d0 : Int), .int .i16 r.n1, .int .u8 (r.d1 : Int), .int .i16 r.n2, .int .u8 (r.d2 : Int), .int .i16 s.n0, .int .u8 (s.d0 : Int), .int .i16 s.n1, .int .u8 (s.d1 : Int), .int .i16 s.n2, .int .u8 (s.d2 : Int)] 44) ⟨HX1.out, HB0_1.out, HB1_1.out⟩ ?_
  rintro w2 ⟨e2, bB0_2, bB1_2⟩
  have HX2 := Lib.hid e2; have HB0_2 := Lib.hid bB0_2; have HB1_2 := Lib.hid bB1_2
  clear e2 bB0_2 bB1_2
  refine region_lin [.val (.pointer (some ⟨w.heap.size, 0, none⟩)), .val (.agg #[.int .i16 p.n0, .int .u8 (p.d0 : Int), .int .i16 p.n1, .int .u8 (p.d1 : Int), .int .i16 p.n2, .int .u8 (p.d2 : Int)]), .val (.agg #[.string (qs a.x), .string (qs a.y), .string (qs a.z)]), .val (.pointer (some ⟨w.heap.size, 6, none⟩)), .val (.agg #[.int .i16 q.n0, .int .u8 (q.d0 : Int), .int .i16 q.n1, .int .u8 (q.d1 : Int), .int .i16 q.n2, .int .u8 (q.d2 : Int)]), .val (.agg #[.string (qs b.x), .string (qs b.y), .string (qs b.z)]), .val (.pointer (some ⟨w.heap.size + 1, 0, none⟩)), .val (.agg #[.int .i16 r.n0, .int .u8 (r.d0 : Int), .int .i16 r.n1, .int .u8 (r.d1 : Int), .int .i16 r.n2, .int .u8 (r.d2 : Int)]), .val (.agg #[.string (qs c.x), .string (qs c.y), .string (qs c.z)]), .val (.pointer (some ⟨w.heap.size + 1, 6, none⟩)), .val (.agg #[.int .i16 s.n0, .int .u8 (s.d0 : Int), .int .i16 s.n1, .int .u8 (s.d1 : Int), .int .i16 s.n2, .int .u8 (s.d2 : Int)]), .val (.agg #[.string (qs d.x), .string (qs d.y), .string (qs d.z)]), .mem (fun b_ => .pointer (some ⟨b_, 0, none⟩)) #[.string ⟨#[]⟩, .string ⟨#[]⟩, .string ⟨#[]⟩] 30 (Option.some 16), .mem (fun b_ => .pointer (some ⟨b_, 0, none⟩)) #[.string ⟨#[]⟩, .string ⟨#[]⟩, .string ⟨#[]⟩] 30 (Option.some 17), .mem (fun b_ => .pointer (some ⟨b_, 0, none⟩)) #[.string ⟨#[]⟩, .string ⟨#[]⟩, .string ⟨#[]⟩] 30 (Option.some 18), .mem (fun b_ => .pointer (some ⟨b_, 0, none⟩)) #[.string ⟨#[]⟩, .string ⟨#[]⟩, .string ⟨#[]⟩] 30 (Option.some 19), .put 12 #[.string (qs a.x), .string (qs a.y), .string (qs a.z)], .put 13 #[.string (qs b.x), .string (qs b.y), .string (qs b.z)], .put 14 #[.string (qs c.x), .string (qs c.y), .string (qs c.z)], .put 15 #[.string (qs d.x), .string (qs d.y), .string (qs d.z)]] (by kernel_rfl) (by kernel_rfl) (by kernel_rfl) ?_ (fun g2 w3 hx_ hm_ hne_ => ?_)
  · skip
    refine RnL.cons (fun g2 A_ W_ hs_ => ?_) ?_
    · have q2_ := (hs_.old 2 (by kernel_rfl) : A_.tmps[2]?.getD undef = .pointer (some ⟨w.heap.size, 0, none⟩))
      refine Rn.val fun K_ hK_ => ?_
      go_simp
      exact hK_.out _ (Ext.refl _)
    refine RnL.cons (fun g2 A_ W_ hs_ => ?_) ?_
    · have q18_ := hs_.val 0 rfl rfl rfl
      have cB0_0 := (HB0_2.out.drew.ext hs_.1).cell 0 rfl
      have cB0_1 := (HB0_2.out.drew.ext hs_.1).cell 1 rfl
      have cB0_2 := (HB0_2.out.drew.ext hs_.1).cell 2 rfl
      have cB0_3 := (HB0_2.out.drew.ext hs_.1).cell 3 rfl
      have cB0_4 := (HB0_2.out.drew.ext hs_.1).cell 4 rfl
      have cB0_5 := (HB0_2.out.drew.ext hs_.1).cell 5 rfl
      refine Rn.val fun K_ hK_ => ?_
      go_simp
      exact hK_.out _ (Ext.refl _)
    refine RnL.cons (fun g2 A_ W_ hs_ => ?_) ?_
    · have q19_ := hs_.val 1 rfl rfl rfl
      refine Rn.val fun K_ hK_ => ?_
      go_simp
      refine ((HaE.out ▸ make_c p _ (HG.out.ext (HX2.out.drew.trans hs_.1)) Hp.out)).mono ?_; rintro e W9_ ⟨rfl, e9_⟩; exact hK_.out _ e9_
    refine RnL.cons (fun g2 A_ W_ hs_ => ?_) ?_
    · have q2_ := (hs_.old 2 (by kernel_rfl) : A_.tmps[2]?.getD undef = .pointer (some ⟨w.heap.size, 0, none⟩))
      refine Rn.val fun K_ hK_ => ?_
      go_simp
      exact hK_.out _ (Ext.refl _)
    refine RnL.cons (fun g2 A_ W_ hs_ => ?_) ?_
    · have q21_ := hs_.val 3 rfl rfl rfl
      have cB0_6 := (HB0_2.out.drew.ext hs_.1).cell 6 rfl
      have cB0_7 := (HB0_2.out.drew.ext hs_.1).cell 7 rfl
      have cB0_8 := (HB0_2.out.drew.ext hs_.1).cell 8 rfl
      have cB0_9 := (HB0_2.out.drew.ext hs_.1).cell 9 rfl
      have cB0_10 := (HB0_2.out.drew.ext hs_.1).cell 10 rfl
      have cB0_11 := (HB0_2.out.drew.ext hs_.1).cell 11 rfl
      refine Rn.val fun K_ hK_ => ?_
      go_simp
      exact hK_.out _ (Ext.refl _)
    refine RnL.cons (fun g2 A_ W_ hs_ => ?_) ?_
    · have q22_ := hs_.val 4 rfl rfl rfl
      refine Rn.val fun K_ hK_ => ?_
      go_simp
      refine ((HbE.out ▸ make_c q _ (HG.out.ext (HX2.out.drew.trans hs_.1)) Hq.out)).mono ?_; rintro e W9_ ⟨rfl, e9_⟩; exact hK_.out _ e9_
    refine RnL.cons (fun g2 A_ W_ hs_ => ?_) ?_
    · have q3_ := (hs_.old 3 (by kernel_rfl) : A_.tmps[3]?.getD undef = .pointer (some ⟨w.heap.size + 1, 0, none⟩))
      refine Rn.val fun K_ hK_ => ?_
      go_simp
      exact hK_.out _ (Ext.refl _)
    refine RnL.cons (fun g2 A_ W_ hs_ => ?_) ?_
    · have q24_ := hs_.val 6 rfl rfl rfl
      have cB1_0 := (HB1_2.out.drew.ext hs_.1).cell 0 rfl
      have cB1_1 := (HB1_2.out.drew.ext hs_.1).cell 1 rfl
      have cB1_2 := (HB1_2.out.drew.ext hs_.1).cell 2 rfl
      have cB1_3 := (HB1_2.out.drew.ext hs_.1).cell 3 rfl
      have cB1_4 := (HB1_2.out.drew.ext hs_.1).cell 4 rfl
      have cB1_5 := (HB1_2.out.drew.ext hs_.1).cell 5 rfl
      refine Rn.val fun K_ hK_ => ?_
      go_simp
      exact hK_.out _ (Ext.refl _)
    refine RnL.cons (fun g2 A_ W_ hs_ => ?_) ?_
    · have q25_ := hs_.val 7 rfl rfl rfl
      refine Rn.val fun K_ hK_ => ?_
      go_simp
      refine ((HcE.out ▸ make_c r _ (HG.out.ext (HX2.out.drew.trans hs_.1)) Hr.out)).mono ?_; rintro e W9_ ⟨rfl, e9_⟩; exact hK_.out _ e9_
    refine RnL.cons (fun g2 A_ W_ hs_ => ?_) ?_
    · have q3_ := (hs_.old 3 (by kernel_rfl) : A_.tmps[3]?.getD undef = .pointer (some ⟨w.heap.size + 1, 0, none⟩))
      refine Rn.val fun K_ hK_ => ?_
      go_simp
      exact hK_.out _ (Ext.refl _)
    refine RnL.cons (fun g2 A_ W_ hs_ => ?_) ?_
    · have q27_ := hs_.val 9 rfl rfl rfl
      have cB1_6 := (HB1_2.out.drew.ext hs_.1).cell 6 rfl
      have cB1_7 := (HB1_2.out.drew.ext hs_.1).cell 7 rfl
      have cB1_8 := (HB1_2.out.drew.ext hs_.1).cell 8 rfl
      have cB1_9 := (HB1_2.out.drew.ext hs_.1).cell 9 rfl
      have cB1_10 := (HB1_2.out.drew.ext hs_.1).cell 10 rfl
      have cB1_11 := (HB1_2.out.drew.ext hs_.1).cell 11 rfl
      refine Rn.val fun K_ hK_ => ?_
      go_simp
      exact hK_.out _ (Ext.refl _)
    refine RnL.cons (fun g2 A_ W_ hs_ => ?_) ?_
    · have q28_ := hs_.val 10 rfl rfl rfl
      refine Rn.val fun K_ hK_ => ?_
      go_simp
      refine ((HdE.out ▸ make_c s _ (HG.out.ext (HX2.out.drew.trans hs_.1)) Hs.out)).mono ?_; rintro e W9_ ⟨rfl, e9_⟩; exact hK_.out _ e9_
    refine RnL.cons (fun g2 A_ W_ hs_ => ?_) ?_
    · refine Rn.mem fun K_ hK_ => ?_
      go_simp
      exact hK_.out
    refine RnL.cons (fun g2 A_ W_ hs_ => ?_) ?_
    · refine Rn.mem fun K_ hK_ => ?_
      go_simp
      exact hK_.out
    refine RnL.cons (fun g2 A_ W_ hs_ => ?_) ?_
    · refine Rn.mem fun K_ hK_ => ?_
      go_simp
      exact hK_.out
    refine RnL.cons (fun g2 A_ W_ hs_ => ?_) ?_
    · refine Rn.mem fun K_ hK_ => ?_
      go_simp
      exact hK_.out
    refine RnL.cons (fun g2 A_ W_ hs_ => ?_) ?_
    · have q5_ := (hs_.mem 12 rfl rfl rfl).1
      have q20_ := hs_.val 2 rfl rfl rfl
      refine Rn.put (z := #[.string ⟨#[]⟩, .string ⟨#[]⟩, .string ⟨#[]⟩]) (t := 30) rfl fun hB K_ hK_ => ?_
      have c_0 := hB.cell 0 rfl; have f_0 := hB.free 0
      have c_1 := hB.cell 1 rfl; have f_1 := hB.free 1
      have c_2 := hB.cell 2 rfl; have f_2 := hB.free 2
      have HB := Lib.hid hB; clear hB
      go_simp
      exact hK_.out _ ((((Only.refl _ _).set 0 _).set 1 _).set 2 _) (((HB.out.set 0 _).set 1 _).set 2 _)
    refine RnL.cons (fun g2 A_ W_ hs_ => ?_) ?_
    · have q6_ := (hs_.mem 13 rfl rfl rfl).1
      have q23_ := hs_.val 5 rfl rfl rfl
      refine Rn.put (z := #[.string ⟨#[]⟩, .string ⟨#[]⟩, .string ⟨#[]⟩]) (t := 30) rfl fun hB K_ hK_ => ?_
      have c_0 := hB.cell 0 rfl; have f_0 := hB.free 0
      have c_1 := hB.cell 1 rfl; have f_1 := hB.free 1
      have c_2 := hB.cell 2 rfl; have f_2 := hB.free 2
      have HB := Lib.hid hB; clear hB
      go_simp
      exact hK_.out _ ((((Only.refl _ _).set 0 _).set 1 _).set 2 _) (((HB.out.set 0 _).set 1 _).set 2 _)
    refine RnL.cons (fun g2 A_ W_ hs_ => ?_) ?_
    · have q7_ := (hs_.mem 14 rfl rfl rfl).1
      have q26_ := hs_.val 8 rfl rfl rfl
      refine Rn.put (z := #[.string ⟨#[]⟩, .string ⟨#[]⟩, .string ⟨#[]⟩]) (t := 30) rfl fun hB K_ hK_ => ?_
      have c_0 := hB.cell 0 rfl; have f_0 := hB.free 0
      have c_1 := hB.cell 1 rfl; have f_1 := hB.free 1
      have c_2 := hB.cell 2 rfl; have f_2 := hB.free 2
      have HB := Lib.hid hB; clear hB
      go_simp
      exact hK_.out _ ((((Only.refl _ _).set 0 _).set 1 _).set 2 _) (((HB.out.set 0 _).set 1 _).set 2 _)
    refine RnL.cons (fun g2 A_ W_ hs_ => ?_) ?_
    · have q8_ := (hs_.mem 15 rfl rfl rfl).1
      have q29_ := hs_.val 11 rfl rfl rfl
      refine Rn.put (z := #[.string ⟨#[]⟩, .string ⟨#[]⟩, .string ⟨#[]⟩]) (t := 30) rfl fun hB K_ hK_ => ?_
      have c_0 := hB.cell 0 rfl; have f_0 := hB.free 0
      have c_1 := hB.cell 1 rfl; have f_1 := hB.free 1
      have c_2 := hB.cell 2 rfl; have f_2 := hB.free 2
      have HB := Lib.hid hB; clear hB
      go_simp
      exact hK_.out _ ((((Only.refl _ _).set 0 _).set 1 _).set 2 _) (((HB.out.set 0 _).set 1 _).set 2 _)
    exact RnL.nil
  simp only [fs, Kd.value, puts, Act.put, List.setIfInBounds_toArray, List.set_cons_zero, List.set_cons_succ, Nat.reduceAdd]
  have HX3 : Hid (Ext w w3) := Lib.hid (HX2.out.drew.trans hx_)
  have HB2_3 : Hid (Blk w3 (g2 12) #[.string (qs a.x), .string (qs a.y), .string (qs a.z)] 30) := Lib.hid (hm_ 12 _ _ _ _ rfl).2; have HGEB2 : Hid (w.heap.size ≤ g2 12) := Lib.hid (Nat.le_trans HX2.out.size (hm_ 12 _ _ _ _ rfl).1)
  have HB3_3 : Hid (Blk w3 (g2 13) #[.string (qs b.x), .string (qs b.y), .string (qs b.z)] 30) := Lib.hid (hm_ 13 _ _ _ _ rfl).2; have HGEB3 : Hid (w.heap.size ≤ g2 13) := Lib.hid (Nat.le_trans HX2.out.size (hm_ 13 _ _ _ _ rfl).1)
  have HB4_3 : Hid (Blk w3 (g2 14) #[.string (qs c.x), .string (qs c.y), .string (qs c.z)] 30) := Lib.hid (hm_ 14 _ _ _ _ rfl).2; have HGEB4 : Hid (w.heap.size ≤ g2 14) := Lib.hid (Nat.le_trans HX2.out.size (hm_ 14 _ _ _ _ rfl).1)
  have HB5_3 : Hid (Blk w3 (g2 15) #[.string (qs d.x), .string (qs d.y), .string (qs d.z)] 30) := Lib.hid (hm_ 15 _ _ _ _ rfl).2; have HGEB5 : Hid (w.heap.size ≤ g2 15) := Lib.hid (Nat.le_trans HX2.out.size (hm_ 15 _ _ _ _ rfl).1)
  have HNEB2B3 : Hid (g2 12 ≠ g2 13) := Lib.hid (hne_ 12 13 (by decide) ⟨_, _, _, _, rfl⟩ ⟨_, _, _, _, rfl⟩)
  have HNEB2B4 : Hid (g2 12 ≠ g2 14) := Lib.hid (hne_ 12 14 (by decide) ⟨_, _, _, _, rfl⟩ ⟨_, _, _, _, rfl⟩)
  have HNEB3B4 : Hid (g2 13 ≠ g2 14) := Lib.hid (hne_ 13 14 (by decide) ⟨_, _, _, _, rfl⟩ ⟨_, _, _, _, rfl⟩)
  have HNEB2B5 : Hid (g2 12 ≠ g2 15) := Lib.hid (hne_ 12 15 (by decide) ⟨_, _, _, _, rfl⟩ ⟨_, _, _, _, rfl⟩)
  have HNEB3B5 : Hid (g2 13 ≠ g2 15) := Lib.hid (hne_ 13 15 (by decide) ⟨_, _, _, _, rfl⟩ ⟨_, _, _, _, rfl⟩)
  have HNEB4B5 : Hid (g2 14 ≠ g2 15) := Lib.hid (hne_ 14 15 (by decide) ⟨_, _, _, _, rfl⟩ ⟨_, _, _, _, rfl⟩)
  clear hx_ hm_ hne_
  generalize g2 12 = i2 at *
  generalize g2 13 = i3 at *
  generalize g2 14 = i4 at *
  generalize g2 15 = i5 at *
  clear g2
  have c2_0 := HB2_3.out.cell 0 rfl
  have c2_1 := HB2_3.out.cell 1 rfl
  have c2_2 := HB2_3.out.cell 2 rfl
  have c3_0 := HB3_3.out.cell 0 rfl
  have c3_1 := HB3_3.out.cell 1 rfl
  have c3_2 := HB3_3.out.cell 2 rfl
  have c4_0 := HB4_3.out.cell 0 rfl
  have c4_1 := HB4_3.out.cell 1 rfl
  have c4_2 := HB4_3.out.cell 2 rfl
  go_wp2_with fail
  refine (spn_flat a b c _ (HG.out.ext HX3.out) Ha.out Hb.out Hc.out (HNE.out.symm ▸ HZ.out)).mono ?_; rintro e w4 ⟨rfl, e4⟩
  have HX4 : Hid (Ext w w4) := Lib.hid (HX3.out.trans e4)
  have HB2_4 : Hid (Blk w4 (i2) #[.string (qs a.x), .string (qs a.y), .string (qs a.z)] 30) := Lib.hid (Blk.ext HB2_3.out e4)
  have HB3_4 : Hid (Blk w4 (i3) #[.string (qs b.x), .string (qs b.y), .string (qs b.z)] 30) := Lib.hid (Blk.ext HB3_3.out e4)
  have HB4_4 : Hid (Blk w4 (i4) #[.string (qs c.x), .string (qs c.y), .string (qs c.z)] 30) := Lib.hid (Blk.ext HB4_3.out e4)
  clear e4 c2_0 c2_1 c2_2 c3_0 c3_1 c3_2 c4_0 c4_1 c4_2
  go_wp2_with fail
  refine wp_name (fun W => Ext w W ∧ Blk W (i2) #[.string (qs a.x), .string (qs a.y), .string (qs a.z)] 30 ∧ Blk W (i3) #[.string (qs b.x), .string (qs b.y), .string (qs b.z)] 30 ∧ Blk W (i4) #[.string (qs c.x), .string (qs c.y), .string (qs c.z)] 30 ∧ Blk W (w4.heap.size) #[.string ⟨#[]⟩, .string ⟨#[]⟩, .string ⟨#[]⟩, .string ⟨#[]⟩] 48) ⟨(HX4.out.alloc _), (HB2_4.out.alloc _), (HB3_4.out.alloc _), (HB4_4.out.alloc _), (Blk.new' (w := _) (cs := #[.string ⟨#[]⟩, .string ⟨#[]⟩, .string ⟨#[]⟩, .string ⟨#[]⟩]) (t := 48) (by first | rfl | (simp only [World.size_alloc]; done) | (simp only [World.size_alloc]; omega) | simp))⟩ ?_
  rintro w5 ⟨e5, bB2_5, bB3_5, bB4_5, bB6_5⟩
  have HX5 := Lib.hid e5; have HB2_5 := Lib.hid bB2_5; have HB3_5 := Lib.hid bB3_5; have HB4_5 := Lib.hid bB4_5; have HB6_5 := Lib.hid bB6_5
  have HGEB6 : Hid (w.heap.size ≤ w4.heap.size) := Lib.hid (by have := HX4.out.size; first | omega | (simp only []; omega) | (simp; omega))
  clear e5 bB2_5 bB3_5 bB4_5 bB6_5
  refine region_lin [.val (.agg #[.string (qs b.x), .string (qs b.y), .string (qs b.z)]), .val (.agg #[.string (qs a.x), .string (qs a.y), .string (qs a.z)]), .val (.agg #[.string (qs (b.x - a.x)), .string (qs (b.y - a.y)), .string (qs (b.z - a.z))]), .val (.agg #[.string (qs c.x), .string (qs c.y), .string (qs c.z)]), .val (.agg #[.string (qs a.x), .string (qs a.y), .string (qs a.z)]), .val (.agg #[.string (qs (c.x - a.x)), .string (qs (c.y - a.y)), .string (qs (c.z - a.z))]), .val (.agg #[.string (qs N.x), .string (qs N.y), .string (qs N.z)]), .mem (fun b_ => .pointer (some ⟨b_, 0, none⟩)) #[.string ⟨#[]⟩, .string ⟨#[]⟩, .string ⟨#[]⟩] 30 (Option.some 8), .put 7 #[.string (qs N.x), .string (qs N.y), .string (qs N.z)]] (by kernel_rfl) (by kernel_rfl) (by kernel_rfl) ?_ (fun g5 w6 hx_ hm_ hne_ => ?_)
  · skip
    refine RnL.cons (fun g5 A_ W_ hs_ => ?_) ?_
    · have q6_ := (hs_.old 6 (by kernel_rfl) : A_.tmps[6]?.getD undef = .pointer (some ⟨i3, 0, none⟩))
      have cB3_0 := (HB3_5.out.drew.ext hs_.1).cell 0 rfl
      have cB3_1 := (HB3_5.out.drew.ext hs_.1).cell 1 rfl
      have cB3_2 := (HB3_5.out.drew.ext hs_.1).cell 2 rfl
      refine Rn.val fun K_ hK_ => ?_
      go_simp
      exact hK_.out _ (Ext.refl _)
    refine RnL.cons (fun g5 A_ W_ hs_ => ?_) ?_
    · have q5_ := (hs_.old 5 (by kernel_rfl) : A_.tmps[5]?.getD undef = .pointer (some ⟨i2, 0, none⟩))
      have cB2_0 := (HB2_5.out.drew.ext hs_.1).cell 0 rfl
      have cB2_1 := (HB2_5.out.drew.ext hs_.1).cell 1 rfl
      have cB2_2 := (HB2_5.out.drew.ext hs_.1).cell 2 rfl
      refine Rn.val fun K_ hK_ => ?_
      go_simp
      exact hK_.out _ (Ext.refl _)
    refine RnL.cons (fun g5 A_ W_ hs_ => ?_) ?_
    · have q37_ := hs_.val 0 rfl rfl rfl
      have q38_ := hs_.val 1 rfl rfl rfl
      refine Rn.val fun K_ hK_ => ?_
      go_simp
      refine (ssub_x b a _ (HG.out.ext (HX5.out.drew.trans hs_.1)) Hb.out Ha.out (by omega) (by omega)).mono ?_; rintro e W9_ ⟨rfl, e9_⟩; exact hK_.out _ e9_
    refine RnL.cons (fun g5 A_ W_ hs_ => ?_) ?_
    · have q7_ := (hs_.old 7 (by kernel_rfl) : A_.tmps[7]?.getD undef = .pointer (some ⟨i4, 0, none⟩))
      have cB4_0 := (HB4_5.out.drew.ext hs_.1).cell 0 rfl
      have cB4_1 := (HB4_5.out.drew.ext hs_.1).cell 1 rfl
      have cB4_2 := (HB4_5.out.drew.ext hs_.1).cell 2 rfl
      refine Rn.val fun K_ hK_ => ?_
      go_simp
      exact hK_.out _ (Ext.refl _)
    refine RnL.cons (fun g5 A_ W_ hs_ => ?_) ?_
    · have q5_ := (hs_.old 5 (by kernel_rfl) : A_.tmps[5]?.getD undef = .pointer (some ⟨i2, 0, none⟩))
      have cB2_0 := (HB2_5.out.drew.ext hs_.1).cell 0 rfl
      have cB2_1 := (HB2_5.out.drew.ext hs_.1).cell 1 rfl
      have cB2_2 := (HB2_5.out.drew.ext hs_.1).cell 2 rfl
      refine Rn.val fun K_ hK_ => ?_
      go_simp
      exact hK_.out _ (Ext.refl _)
    refine RnL.cons (fun g5 A_ W_ hs_ => ?_) ?_
    · have q40_ := hs_.val 3 rfl rfl rfl
      have q41_ := hs_.val 4 rfl rfl rfl
      refine Rn.val fun K_ hK_ => ?_
      go_simp
      refine (ssub_x c a _ (HG.out.ext (HX5.out.drew.trans hs_.1)) Hc.out Ha.out (by omega) (by omega)).mono ?_; rintro e W9_ ⟨rfl, e9_⟩; exact hK_.out _ e9_
    refine RnL.cons (fun g5 A_ W_ hs_ => ?_) ?_
    · have q39_ := hs_.val 2 rfl rfl rfl
      have q42_ := hs_.val 5 rfl rfl rfl
      refine Rn.val fun K_ hK_ => ?_
      go_simp
      refine (snorm a b c N _ (HG.out.ext (HX5.out.drew.trans hs_.1)) HNE.out Ha.out Hb.out Hc.out).mono ?_; rintro e W9_ ⟨rfl, e9_⟩; exact hK_.out _ e9_
    refine RnL.cons (fun g5 A_ W_ hs_ => ?_) ?_
    · refine Rn.mem fun K_ hK_ => ?_
      go_simp
      exact hK_.out
    refine RnL.cons (fun g5 A_ W_ hs_ => ?_) ?_
    · have q11_ := (hs_.mem 7 rfl rfl rfl).1
      have q43_ := hs_.val 6 rfl rfl rfl
      refine Rn.put (z := #[.string ⟨#[]⟩, .string ⟨#[]⟩, .string ⟨#[]⟩]) (t := 30) rfl fun hB K_ hK_ => ?_
      have c_0 := hB.cell 0 rfl; have f_0 := hB.free 0
      have c_1 := hB.cell 1 rfl; have f_1 := hB.free 1
      have c_2 := hB.cell 2 rfl; have f_2 := hB.free 2
      have HB := Lib.hid hB; clear hB
      go_simp
      exact hK_.out _ ((((Only.refl _ _).set 0 _).set 1 _).set 2 _) (((HB.out.set 0 _).set 1 _).set 2 _)
    exact RnL.nil
  simp only [fs, Kd.value, puts, Act.put, List.setIfInBounds_toArray, List.set_cons_zero, List.set_cons_succ, Nat.reduceAdd]
  have HX6 : Hid (Ext w w6) := Lib.hid (HX5.out.drew.trans hx_)
  have HB6_6 := Lib.hid (HB6_5.out.drew.ext hx_)
  have HB7_6 : Hid (Blk w6 (g5 7) #[.string (qs N.x), .string (qs N.y), .string (qs N.z)] 30) := Lib.hid (hm_ 7 _ _ _ _ rfl).2; have HGEB7 : Hid (w.heap.size ≤ g5 7) := Lib.hid (Nat.le_trans HX5.out.size (hm_ 7 _ _ _ _ rfl).1)
  have HNEB6B7 : Hid (w4.heap.size ≠ g5 7) := Lib.hid (Nat.ne_of_lt (Nat.lt_of_lt_of_le HB6_5.out.lt (hm_ 7 _ _ _ _ rfl).1))
  clear hx_ hm_ hne_
  generalize g5 7 = i7 at *
  clear g5
  have c7_0 := HB7_6.out.cell 0 rfl
  have c7_1 := HB7_6.out.cell 1 rfl
  have c7_2 := HB7_6.out.cell 2 rfl
  go_wp2_with fail
  refine (szero_t N _ HZ.out).mono ?_; rintro e w7 ⟨rfl, e7⟩
  have HX7 : Hid (Ext w w7) := Lib.hid (HX6.out.trans e7)
  have HB6_7 : Hid (Blk w7 (w4.heap.size) #[.string ⟨#[]⟩, .string ⟨#[]⟩, .string ⟨#[]⟩, .string ⟨#[]⟩] 48) := Lib.hid (Blk.ext HB6_6.out e7)
  clear e7 c7_0 c7_1 c7_2
  have c6_0 := HB6_7.out.cell 0 rfl
  have c6_1 := HB6_7.out.cell 1 rfl
  have c6_2 := HB6_7.out.cell 2 rfl
  have c6_3 := HB6_7.out.cell 3 rfl
  go_wp2
  go_ret
  exact ⟨rfl, HX7.out⟩

set_option maxRecDepth 100000 in
set_option maxHeartbeats 16000000 in
theorem planes_walk1 (p q r s : Pla) (w : World) (g : Gd w) (hp : PlaOk p) (hq : PlaOk q) (hr : PlaOk r) (hs : PlaOk s) (hz : ¬ ((vnorm (pvec p) (pvec q) (pvec r)).x = 0 ∧ (vnorm (pvec p) (pvec q) (pvec r)).y = 0 ∧ (vnorm (pvec p) (pvec q) (pvec r)).z = 0)) (ho : dotl (vnorm (pvec p) (pvec q) (pvec r)) (pvec p) = 0) : Calls Tryz.prog 9 #[.agg #[.int .i16 p.n0, .int .u8 (p.d0 : Int), .int .i16 p.n1, .int .u8 (p.d1 : Int), .int .i16 p.n2, .int .u8 (p.d2 : Int), .int .i16 q.n0, .int .u8 (q.d0 : Int), .int .i16 q.n1, .int .u8 (q.d1 : Int), .int .i16 q.n2, .int .u8 (q.d2 : Int)], .agg #[.int .i16 r.n0, .int .u8 (r.d0 : Int), .int .i16 r.n1, .int .u8 (r.d1 : Int), .int .i16 r.n2, .int .u8 (r.d2 : Int), .int .i16 s.n0, .int .u8 (s.d0 : Int), .int .i16 s.n1, .int .u8 (s.d1 : Int), .int .i16 s.n2, .int .u8 (s.d2 : Int)]] w (Ret w (.bool true)) := by
  have Hp := Lib.hid hp
  have Hq := Lib.hid hq
  have Hr := Lib.hid hr
  have Hs := Lib.hid hs
  have HG := Lib.hid g
  clear hp hq hr hs g
  have HH0 := Lib.hid ho; clear ho
  have HZ0 := Lib.hid hz; clear hz
  obtain ⟨a, ea⟩ : ∃ a, pvec p = a := ⟨_, rfl⟩
  have HaE := Lib.hid ea; have Ha : Hid (VB 5 a) := Lib.hid (ea ▸ Hp.out.v); have HaD : Hid (VD 5 3 a) := Lib.hid (ea ▸ Hp.out.vd); clear ea
  obtain ⟨b, eb⟩ : ∃ b, pvec q = b := ⟨_, rfl⟩
  have HbE := Lib.hid eb; have Hb : Hid (VB 5 b) := Lib.hid (eb ▸ Hq.out.v); have HbD : Hid (VD 5 3 b) := Lib.hid (eb ▸ Hq.out.vd); clear eb
  obtain ⟨c, ec⟩ : ∃ c, pvec r = c := ⟨_, rfl⟩
  have HcE := Lib.hid ec; have Hc : Hid (VB 5 c) := Lib.hid (ec ▸ Hr.out.v); have HcD : Hid (VD 5 3 c) := Lib.hid (ec ▸ Hr.out.vd); clear ec
  obtain ⟨d, ed⟩ : ∃ d, pvec s = d := ⟨_, rfl⟩
  have HdE := Lib.hid ed; have Hd : Hid (VB 5 d) := Lib.hid (ed ▸ Hs.out.v); have HdD : Hid (VD 5 3 d) := Lib.hid (ed ▸ Hs.out.vd); clear ed
  obtain ⟨N, eN⟩ : ∃ N, vnorm a b c = N := ⟨_, rfl⟩
  have HNE := Lib.hid eN; have HND : Hid (VD 31 24 N) := Lib.hid (eN ▸ vnorm_d HaD.out HbD.out HcD.out); have HN : Hid (VB 31 N) := Lib.hid (HND.out.vb (by decide) (by decide)); clear eN
  have HZ : Hid (¬ (N.x = 0 ∧ N.y = 0 ∧ N.z = 0)) := Lib.hid (by have h := HZ0.out; rw [HaE.out, HbE.out, HcE.out, HNE.out] at h; exact h)
  obtain ⟨O, eO⟩ : ∃ O, dotl N a = O := ⟨_, rfl⟩
  have HOE := Lib.hid eO; have HOD : Hid (QD 92 81 O) := Lib.hid (eO ▸ dotl_d HND.out HaD.out); have HO : Hid (QB 92 O) := Lib.hid (HOD.out.qb (by decide) (by decide)); clear eO
  obtain ⟨B, eB⟩ : ∃ B, dotl N d - O = B := ⟨_, rfl⟩
  have HBE := Lib.hid eB; clear eB
  have ho : O = 0 := by have h := HH0.out; rw [HaE.out, HbE.out, HcE.out, HNE.out, HOE.out] at h; exact h
  have ho_t := qs_is0 ho
  have HO0 := Lib.hid ho; clear ho
  go_enter Tryz.func9, Tryz.ntmps9
  go_wp2_with fail
  refine (known_c _ (HG.out.ext (((Ext.refl w).alloc _).alloc _))).mono ?_; rintro e w1 ⟨rfl, e1⟩
  have HX1 : Hid (Ext w w1) := Lib.hid ((((Ext.refl w).alloc _).alloc _).trans e1)
  have HB0_1 : Hid (Blk w1 (w.heap.size) #[.int .i16 p.n0, .int .u8 (p.d0 : Int), .int .i16 p.n1, .int .u8 (p.d1 : Int), .int .i16 p.n2, .int .u8 (p.d2 : Int), .int .i16 q.n0, .int .u8 (q.d0 : Int), .int .i16 q.n1, .int .u8 (q.d1 : Int), .int .i16 q.n2, .int .u8 (q.d2 : Int)] 44) := Lib.hid (Blk.ext ((Blk.new' (w := _) (cs := #[.int .i16 p.n0, .int .u8 (p.d0 : Int), .int .i16 p.n1, .int .u8 (p.d1 : Int), .int .i16 p.n2, .int .u8 (p.d2 : Int), .int .i16 q.n0, .int .u8 (q.d0 : Int), .int .i16 q.n1, .int .u8 (q.d1 : Int), .int .i16 q.n2, .int .u8 (q.d2 : Int)]) (t := 44) (by first | rfl | (simp only [World.size_alloc]; done) | (simp only [World.size_alloc]; omega) | simp)).alloc _) e1)
  have HB1_1 : Hid (Blk w1 (w.heap.size + 1) #[.int .i16 r.n0, .int .u8 (r.d0 : Int), .int .i16 r.n1, .int .u8 (r.d1 : Int), .int .i16 r.n2, .int .u8 (r.d2 : Int), .int .i16 s.n0, .int .u8 (s.d0 : Int), .int .i16 s.n1, .int .u8 (s.d1 : Int), .int .i16 s.n2, .int .u8 (s.d2 : Int)] 44) := Lib.hid (Blk.ext (Blk.new' (w := _) (cs := #[.int .i16 r.n0, .int .u8 (r.d0 : Int), .int .i16 r.n1, .int .u8 (r.d1 : Int), .int .i16 r.n2, .int .u8 (r.d2 : Int), .int .i16 s.n0, .int .u8 (s.d0 : Int), .int .i16 s.n1, .int .u8 (s.d1 : Int), .int .i16 s.n2, .int .u8 (s.d2 : Int)]) (t := 44) (by first | rfl | (simp only [World.size_alloc]; done) | (simp only [World.size_alloc]; omega) | simp)) e1)
  have HGEB0 : Hid (w.heap.size ≤ w.heap.size) := Lib.hid (by first | omega | (simp only []; omega) | (simp; omega))
  have HGEB1 : Hid (w.heap.size ≤ w.heap.size + 1) := Lib.hid (by first | omega | (simp only []; omega) | (simp; omega))
  clear e1
  go_wp2_with fail
  refine wp_name (fun W => Ext w W ∧ Blk W (w.heap.size) #[.int .i16 p.n0, .int .u8 (p.d0 : Int), .int .i16 p.n1, .int .u8 (p.d1 : Int), .int .i16 p.n2, .int .u8 (p.d2 : Int), .int .i16 q.n0, .int .u8 (q.d0 : Int), .int .i16 q.n1, .int .u8 (q.d1 : Int), .int .i16 q.n2, .int .u8 (q.d2 : Int)] 44 ∧ Blk W (w.heap.size + 1) #[.int .i16 r.n0, .int .u8 (r.d0 : Int), .int .i16 r.n1, .int .u8 (r.d1 : Int), .int .i16 r.n2, .int .u8 (r.d2 : Int), .int .i16 s.n0, .int .u8 (s.d0 : Int), .int .i16 s.n1, .int .u8 (s.d1 : Int), .int .i16 s.n2, .int .u8 (s.d2 : Int)] 44) ⟨HX1.out, HB0_1.out, HB1_1.out⟩ ?_
  rintro w2 ⟨e2, bB0_2, bB1_2⟩
  have HX2 := Lib.hid e2; have HB0_2 := Lib.hid bB0_2; have HB1_2 := Lib.hid bB1_2
  clear e2 bB0_2 bB1_2
  refine region_lin [.val (.pointer (some ⟨w.heap.size, 0, none⟩)), .val (.agg #[.int .i16 p.n0, .int .u8 (p.d0 : Int), .int .i16 p.n1, .int .u8 (p.d1 : Int), .int .i16 p.n2, .int .u8 (p.d2 : Int)]), .val (.agg #[.string (qs a.x), .string (qs a.y), .string (qs a.z)]), .val (.pointer (some ⟨w.heap.size, 6, none⟩)), .val (.agg #[.int .i16 q.n0, .int .u8 (q.d0 : Int), .int .i16 q.n1, .int .u8 (q.d1 : Int), .int .i16 q.n2, .int .u8 (q.d2 : Int)]), .val (.agg #[.string (qs b.x), .string (qs b.y), .string (qs b.z)]), .val (.pointer (some ⟨w.heap.size + 1, 0, none⟩)), .val (.agg #[.int .i16 r.n0, .int .u8 (r.d0 : Int), .int .i16 r.n1, .int .u8 (r.d1 : Int), .int .i16 r.n2, .int .u8 (r.d2 : Int)]), .val (.agg #[.string (qs c.x), .string (qs c.y), .string (qs c.z)]), .val (.pointer (some ⟨w.heap.size + 1, 6, none⟩)), .val (.agg #[.int .i16 s.n0, .int .u8 (s.d0 : Int), .int .i16 s.n1, .int .u8 (s.d1 : Int), .int .i16 s.n2, .int .u8 (s.d2 : Int)]), .val (.agg #[.string (qs d.x), .string (qs d.y), .string (qs d.z)]), .mem (fun b_ => .pointer (some ⟨b_, 0, none⟩)) #[.string ⟨#[]⟩, .string ⟨#[]⟩, .string ⟨#[]⟩] 30 (Option.some 16), .mem (fun b_ => .pointer (some ⟨b_, 0, none⟩)) #[.string ⟨#[]⟩, .string ⟨#[]⟩, .string ⟨#[]⟩] 30 (Option.some 17), .mem (fun b_ => .pointer (some ⟨b_, 0, none⟩)) #[.string ⟨#[]⟩, .string ⟨#[]⟩, .string ⟨#[]⟩] 30 (Option.some 18), .mem (fun b_ => .pointer (some ⟨b_, 0, none⟩)) #[.string ⟨#[]⟩, .string ⟨#[]⟩, .string ⟨#[]⟩] 30 (Option.some 19), .put 12 #[.string (qs a.x), .string (qs a.y), .string (qs a.z)], .put 13 #[.string (qs b.x), .string (qs b.y), .string (qs b.z)], .put 14 #[.string (qs c.x), .string (qs c.y), .string (qs c.z)], .put 15 #[.string (qs d.x), .string (qs d.y), .string (qs d.z)]] (by kernel_rfl) (by kernel_rfl) (by kernel_rfl) ?_ (fun g2 w3 hx_ hm_ hne_ => ?_)
  · skip
    refine RnL.cons (fun g2 A_ W_ hs_ => ?_) ?_
    · have q2_ := (hs_.old 2 (by kernel_rfl) : A_.tmps[2]?.getD undef = .pointer (some ⟨w.heap.size, 0, none⟩))
      refine Rn.val fun K_ hK_ => ?_
      go_simp
      exact hK_.out _ (Ext.refl _)
    refine RnL.cons (fun g2 A_ W_ hs_ => ?_) ?_
    · have q18_ := hs_.val 0 rfl rfl rfl
      have cB0_0 := (HB0_2.out.drew.ext hs_.1).cell 0 rfl
      have cB0_1 := (HB0_2.out.drew.ext hs_.1).cell 1 rfl
      have cB0_2 := (HB0_2.out.drew.ext hs_.1).cell 2 rfl
      have cB0_3 := (HB0_2.out.drew.ext hs_.1).cell 3 rfl
      have cB0_4 := (HB0_2.out.drew.ext hs_.1).cell 4 rfl
      have cB0_5 := (HB0_2.out.drew.ext hs_.1).cell 5 rfl
      refine Rn.val fun K_ hK_ => ?_
      go_simp
      exact hK_.out _ (Ext.refl _)
    refine RnL.cons (fun g2 A_ W_ hs_ => ?_) ?_
    · have q19_ := hs_.val 1 rfl rfl rfl
      refine Rn.val fun K_ hK_ => ?_
      go_simp
      refine ((HaE.out ▸ make_c p _ (HG.out.ext (HX2.out.drew.trans hs_.1)) Hp.out)).mono ?_; rintro e W9_ ⟨rfl, e9_⟩; exact hK_.out _ e9_
    refine RnL.cons (fun g2 A_ W_ hs_ => ?_) ?_
    · have q2_ := (hs_.old 2 (by kernel_rfl) : A_.tmps[2]?.getD undef = .pointer (some ⟨w.heap.size, 0, none⟩))
      refine Rn.val fun K_ hK_ => ?_
      go_simp
      exact hK_.out _ (Ext.refl _)
    refine RnL.cons (fun g2 A_ W_ hs_ => ?_) ?_
    · have q21_ := hs_.val 3 rfl rfl rfl
      have cB0_6 := (HB0_2.out.drew.ext hs_.1).cell 6 rfl
      have cB0_7 := (HB0_2.out.drew.ext hs_.1).cell 7 rfl
      have cB0_8 := (HB0_2.out.drew.ext hs_.1).cell 8 rfl
      have cB0_9 := (HB0_2.out.drew.ext hs_.1).cell 9 rfl
      have cB0_10 := (HB0_2.out.drew.ext hs_.1).cell 10 rfl
      have cB0_11 := (HB0_2.out.drew.ext hs_.1).cell 11 rfl
      refine Rn.val fun K_ hK_ => ?_
      go_simp
      exact hK_.out _ (Ext.refl _)
    refine RnL.cons (fun g2 A_ W_ hs_ => ?_) ?_
    · have q22_ := hs_.val 4 rfl rfl rfl
      refine Rn.val fun K_ hK_ => ?_
      go_simp
      refine ((HbE.out ▸ make_c q _ (HG.out.ext (HX2.out.drew.trans hs_.1)) Hq.out)).mono ?_; rintro e W9_ ⟨rfl, e9_⟩; exact hK_.out _ e9_
    refine RnL.cons (fun g2 A_ W_ hs_ => ?_) ?_
    · have q3_ := (hs_.old 3 (by kernel_rfl) : A_.tmps[3]?.getD undef = .pointer (some ⟨w.heap.size + 1, 0, none⟩))
      refine Rn.val fun K_ hK_ => ?_
      go_simp
      exact hK_.out _ (Ext.refl _)
    refine RnL.cons (fun g2 A_ W_ hs_ => ?_) ?_
    · have q24_ := hs_.val 6 rfl rfl rfl
      have cB1_0 := (HB1_2.out.drew.ext hs_.1).cell 0 rfl
      have cB1_1 := (HB1_2.out.drew.ext hs_.1).cell 1 rfl
      have cB1_2 := (HB1_2.out.drew.ext hs_.1).cell 2 rfl
      have cB1_3 := (HB1_2.out.drew.ext hs_.1).cell 3 rfl
      have cB1_4 := (HB1_2.out.drew.ext hs_.1).cell 4 rfl
      have cB1_5 := (HB1_2.out.drew.ext hs_.1).cell 5 rfl
      refine Rn.val fun K_ hK_ => ?_
      go_simp
      exact hK_.out _ (Ext.refl _)
    refine RnL.cons (fun g2 A_ W_ hs_ => ?_) ?_
    · have q25_ := hs_.val 7 rfl rfl rfl
      refine Rn.val fun K_ hK_ => ?_
      go_simp
      refine ((HcE.out ▸ make_c r _ (HG.out.ext (HX2.out.drew.trans hs_.1)) Hr.out)).mono ?_; rintro e W9_ ⟨rfl, e9_⟩; exact hK_.out _ e9_
    refine RnL.cons (fun g2 A_ W_ hs_ => ?_) ?_
    · have q3_ := (hs_.old 3 (by kernel_rfl) : A_.tmps[3]?.getD undef = .pointer (some ⟨w.heap.size + 1, 0, none⟩))
      refine Rn.val fun K_ hK_ => ?_
      go_simp
      exact hK_.out _ (Ext.refl _)
    refine RnL.cons (fun g2 A_ W_ hs_ => ?_) ?_
    · have q27_ := hs_.val 9 rfl rfl rfl
      have cB1_6 := (HB1_2.out.drew.ext hs_.1).cell 6 rfl
      have cB1_7 := (HB1_2.out.drew.ext hs_.1).cell 7 rfl
      have cB1_8 := (HB1_2.out.drew.ext hs_.1).cell 8 rfl
      have cB1_9 := (HB1_2.out.drew.ext hs_.1).cell 9 rfl
      have cB1_10 := (HB1_2.out.drew.ext hs_.1).cell 10 rfl
      have cB1_11 := (HB1_2.out.drew.ext hs_.1).cell 11 rfl
      refine Rn.val fun K_ hK_ => ?_
      go_simp
      exact hK_.out _ (Ext.refl _)
    refine RnL.cons (fun g2 A_ W_ hs_ => ?_) ?_
    · have q28_ := hs_.val 10 rfl rfl rfl
      refine Rn.val fun K_ hK_ => ?_
      go_simp
      refine ((HdE.out ▸ make_c s _ (HG.out.ext (HX2.out.drew.trans hs_.1)) Hs.out)).mono ?_; rintro e W9_ ⟨rfl, e9_⟩; exact hK_.out _ e9_
    refine RnL.cons (fun g2 A_ W_ hs_ => ?_) ?_
    · refine Rn.mem fun K_ hK_ => ?_
      go_simp
      exact hK_.out
    refine RnL.cons (fun g2 A_ W_ hs_ => ?_) ?_
    · refine Rn.mem fun K_ hK_ => ?_
      go_simp
      exact hK_.out
    refine RnL.cons (fun g2 A_ W_ hs_ => ?_) ?_
    · refine Rn.mem fun K_ hK_ => ?_
      go_simp
      exact hK_.out
    refine RnL.cons (fun g2 A_ W_ hs_ => ?_) ?_
    · refine Rn.mem fun K_ hK_ => ?_
      go_simp
      exact hK_.out
    refine RnL.cons (fun g2 A_ W_ hs_ => ?_) ?_
    · have q5_ := (hs_.mem 12 rfl rfl rfl).1
      have q20_ := hs_.val 2 rfl rfl rfl
      refine Rn.put (z := #[.string ⟨#[]⟩, .string ⟨#[]⟩, .string ⟨#[]⟩]) (t := 30) rfl fun hB K_ hK_ => ?_
      have c_0 := hB.cell 0 rfl; have f_0 := hB.free 0
      have c_1 := hB.cell 1 rfl; have f_1 := hB.free 1
      have c_2 := hB.cell 2 rfl; have f_2 := hB.free 2
      have HB := Lib.hid hB; clear hB
      go_simp
      exact hK_.out _ ((((Only.refl _ _).set 0 _).set 1 _).set 2 _) (((HB.out.set 0 _).set 1 _).set 2 _)
    refine RnL.cons (fun g2 A_ W_ hs_ => ?_) ?_
    · have q6_ := (hs_.mem 13 rfl rfl rfl).1
      have q23_ := hs_.val 5 rfl rfl rfl
      refine Rn.put (z := #[.string ⟨#[]⟩, .string ⟨#[]⟩, .string ⟨#[]⟩]) (t := 30) rfl fun hB K_ hK_ => ?_
      have c_0 := hB.cell 0 rfl; have f_0 := hB.free 0
      have c_1 := hB.cell 1 rfl; have f_1 := hB.free 1
      have c_2 := hB.cell 2 rfl; have f_2 := hB.free 2
      have HB := Lib.hid hB; clear hB
      go_simp
      exact hK_.out _ ((((Only.refl _ _).set 0 _).set 1 _).set 2 _) (((HB.out.set 0 _).set 1 _).set 2 _)
    refine RnL.cons (fun g2 A_ W_ hs_ => ?_) ?_
    · have q7_ := (hs_.mem 14 rfl rfl rfl).1
      have q26_ := hs_.val 8 rfl rfl rfl
      refine Rn.put (z := #[.string ⟨#[]⟩, .string ⟨#[]⟩, .string ⟨#[]⟩]) (t := 30) rfl fun hB K_ hK_ => ?_
      have c_0 := hB.cell 0 rfl; have f_0 := hB.free 0
      have c_1 := hB.cell 1 rfl; have f_1 := hB.free 1
      have c_2 := hB.cell 2 rfl; have f_2 := hB.free 2
      have HB := Lib.hid hB; clear hB
      go_simp
      exact hK_.out _ ((((Only.refl _ _).set 0 _).set 1 _).set 2 _) (((HB.out.set 0 _).set 1 _).set 2 _)
    refine RnL.cons (fun g2 A_ W_ hs_ => ?_) ?_
    · have q8_ := (hs_.mem 15 rfl rfl rfl).1
      have q29_ := hs_.val 11 rfl rfl rfl
      refine Rn.put (z := #[.string ⟨#[]⟩, .string ⟨#[]⟩, .string ⟨#[]⟩]) (t := 30) rfl fun hB K_ hK_ => ?_
      have c_0 := hB.cell 0 rfl; have f_0 := hB.free 0
      have c_1 := hB.cell 1 rfl; have f_1 := hB.free 1
      have c_2 := hB.cell 2 rfl; have f_2 := hB.free 2
      have HB := Lib.hid hB; clear hB
      go_simp
      exact hK_.out _ ((((Only.refl _ _).set 0 _).set 1 _).set 2 _) (((HB.out.set 0 _).set 1 _).set 2 _)
    exact RnL.nil
  simp only [fs, Kd.value, puts, Act.put, List.setIfInBounds_toArray, List.set_cons_zero, List.set_cons_succ, Nat.reduceAdd]
  have HX3 : Hid (Ext w w3) := Lib.hid (HX2.out.drew.trans hx_)
  have HB2_3 : Hid (Blk w3 (g2 12) #[.string (qs a.x), .string (qs a.y), .string (qs a.z)] 30) := Lib.hid (hm_ 12 _ _ _ _ rfl).2; have HGEB2 : Hid (w.heap.size ≤ g2 12) := Lib.hid (Nat.le_trans HX2.out.size (hm_ 12 _ _ _ _ rfl).1)
  have HB3_3 : Hid (Blk w3 (g2 13) #[.string (qs b.x), .string (qs b.y), .string (qs b.z)] 30) := Lib.hid (hm_ 13 _ _ _ _ rfl).2; have HGEB3 : Hid (w.heap.size ≤ g2 13) := Lib.hid (Nat.le_trans HX2.out.size (hm_ 13 _ _ _ _ rfl).1)
  have HB4_3 : Hid (Blk w3 (g2 14) #[.string (qs c.x), .string (qs c.y), .string (qs c.z)] 30) := Lib.hid (hm_ 14 _ _ _ _ rfl).2; have HGEB4 : Hid (w.heap.size ≤ g2 14) := Lib.hid (Nat.le_trans HX2.out.size (hm_ 14 _ _ _ _ rfl).1)
  have HB5_3 : Hid (Blk w3 (g2 15) #[.string (qs d.x), .string (qs d.y), .string (qs d.z)] 30) := Lib.hid (hm_ 15 _ _ _ _ rfl).2; have HGEB5 : Hid (w.heap.size ≤ g2 15) := Lib.hid (Nat.le_trans HX2.out.size (hm_ 15 _ _ _ _ rfl).1)
  have HNEB2B3 : Hid (g2 12 ≠ g2 13) := Lib.hid (hne_ 12 13 (by decide) ⟨_, _, _, _, rfl⟩ ⟨_, _, _, _, rfl⟩)
  have HNEB2B4 : Hid (g2 12 ≠ g2 14) := Lib.hid (hne_ 12 14 (by decide) ⟨_, _, _, _, rfl⟩ ⟨_, _, _, _, rfl⟩)
  have HNEB3B4 : Hid (g2 13 ≠ g2 14) := Lib.hid (hne_ 13 14 (by decide) ⟨_, _, _, _, rfl⟩ ⟨_, _, _, _, rfl⟩)
  have HNEB2B5 : Hid (g2 12 ≠ g2 15) := Lib.hid (hne_ 12 15 (by decide) ⟨_, _, _, _, rfl⟩ ⟨_, _, _, _, rfl⟩)
  have HNEB3B5 : Hid (g2 13 ≠ g2 15) := Lib.hid (hne_ 13 15 (by decide) ⟨_, _, _, _, rfl⟩ ⟨_, _, _, _, rfl⟩)
  have HNEB4B5 : Hid (g2 14 ≠ g2 15) := Lib.hid (hne_ 14 15 (by decide) ⟨_, _, _, _, rfl⟩ ⟨_, _, _, _, rfl⟩)
  clear hx_ hm_ hne_
  generalize g2 12 = i2 at *
  generalize g2 13 = i3 at *
  generalize g2 14 = i4 at *
  generalize g2 15 = i5 at *
  clear g2
  have c2_0 := HB2_3.out.cell 0 rfl
  have c2_1 := HB2_3.out.cell 1 rfl
  have c2_2 := HB2_3.out.cell 2 rfl
  have c3_0 := HB3_3.out.cell 0 rfl
  have c3_1 := HB3_3.out.cell 1 rfl
  have c3_2 := HB3_3.out.cell 2 rfl
  have c4_0 := HB4_3.out.cell 0 rfl
  have c4_1 := HB4_3.out.cell 1 rfl
  have c4_2 := HB4_3.out.cell 2 rfl
  go_wp2_with fail
  refine (spn_ok a b c N O _ (HG.out.ext HX3.out) HNE.out HOE.out Ha.out Hb.out Hc.out HN.out HO.out HZ.out).mono ?_; rintro e w4 ⟨rfl, e4⟩
  have HX4 : Hid (Ext w w4) := Lib.hid (HX3.out.trans e4)
  have HB2_4 : Hid (Blk w4 (i2) #[.string (qs a.x), .string (qs a.y), .string (qs a.z)] 30) := Lib.hid (Blk.ext HB2_3.out e4)
  have HB3_4 : Hid (Blk w4 (i3) #[.string (qs b.x), .string (qs b.y), .string (qs b.z)] 30) := Lib.hid (Blk.ext HB3_3.out e4)
  have HB4_4 : Hid (Blk w4 (i4) #[.string (qs c.x), .string (qs c.y), .string (qs c.z)] 30) := Lib.hid (Blk.ext HB4_3.out e4)
  have HB5_4 : Hid (Blk w4 (i5) #[.string (qs d.x), .string (qs d.y), .string (qs d.z)] 30) := Lib.hid (Blk.ext HB5_3.out e4)
  clear e4 c2_0 c2_1 c2_2 c3_0 c3_1 c3_2 c4_0 c4_1 c4_2
  go_wp2_with fail
  refine wp_name (fun W => Ext w W ∧ Blk W (i2) #[.string (qs a.x), .string (qs a.y), .string (qs a.z)] 30 ∧ Blk W (i3) #[.string (qs b.x), .string (qs b.y), .string (qs b.z)] 30 ∧ Blk W (i4) #[.string (qs c.x), .string (qs c.y), .string (qs c.z)] 30 ∧ Blk W (i5) #[.string (qs d.x), .string (qs d.y), .string (qs d.z)] 30 ∧ Blk W (w4.heap.size) #[.string (qs N.x), .string (qs N.y), .string (qs N.z), .string (qs O)] 48) ⟨(HX4.out.alloc _), (HB2_4.out.alloc _), (HB3_4.out.alloc _), (HB4_4.out.alloc _), (HB5_4.out.alloc _), (Blk.new' (w := _) (cs := #[.string (qs N.x), .string (qs N.y), .string (qs N.z), .string (qs O)]) (t := 48) (by first | rfl | (simp only [World.size_alloc]; done) | (simp only [World.size_alloc]; omega) | simp))⟩ ?_
  rintro w5 ⟨e5, bB2_5, bB3_5, bB4_5, bB5_5, bB6_5⟩
  have HX5 := Lib.hid e5; have HB2_5 := Lib.hid bB2_5; have HB3_5 := Lib.hid bB3_5; have HB4_5 := Lib.hid bB4_5; have HB5_5 := Lib.hid bB5_5; have HB6_5 := Lib.hid bB6_5
  have HGEB6 : Hid (w.heap.size ≤ w4.heap.size) := Lib.hid (by have := HX4.out.size; first | omega | (simp only []; omega) | (simp; omega))
  clear e5 bB2_5 bB3_5 bB4_5 bB5_5 bB6_5
  refine region_lin [.val (.agg #[.string (qs b.x), .string (qs b.y), .string (qs b.z)]), .val (.agg #[.string (qs a.x), .string (qs a.y), .string (qs a.z)]), .val (.agg #[.string (qs (b.x - a.x)), .string (qs (b.y - a.y)), .string (qs (b.z - a.z))]), .val (.agg #[.string (qs c.x), .string (qs c.y), .string (qs c.z)]), .val (.agg #[.string (qs a.x), .string (qs a.y), .string (qs a.z)]), .val (.agg #[.string (qs (c.x - a.x)), .string (qs (c.y - a.y)), .string (qs (c.z - a.z))]), .val (.agg #[.string (qs N.x), .string (qs N.y), .string (qs N.z)]), .mem (fun b_ => .pointer (some ⟨b_, 0, none⟩)) #[.string ⟨#[]⟩, .string ⟨#[]⟩, .string ⟨#[]⟩] 30 (Option.some 8), .put 7 #[.string (qs N.x), .string (qs N.y), .string (qs N.z)]] (by kernel_rfl) (by kernel_rfl) (by kernel_rfl) ?_ (fun g5 w6 hx_ hm_ hne_ => ?_)
  · skip
    refine RnL.cons (fun g5 A_ W_ hs_ => ?_) ?_
    · have q6_ := (hs_.old 6 (by kernel_rfl) : A_.tmps[6]?.getD undef = .pointer (some ⟨i3, 0, none⟩))
      have cB3_0 := (HB3_5.out.drew.ext hs_.1).cell 0 rfl
      have cB3_1 := (HB3_5.out.drew.ext hs_.1).cell 1 rfl
      have cB3_2 := (HB3_5.out.drew.ext hs_.1).cell 2 rfl
      refine Rn.val fun K_ hK_ => ?_
      go_simp
      exact hK_.out _ (Ext.refl _)
    refine RnL.cons (fun g5 A_ W_ hs_ => ?_) ?_
    · have q5_ := (hs_.old 5 (by kernel_rfl) : A_.tmps[5]?.getD undef = .pointer (some ⟨i2, 0, none⟩))
      have cB2_0 := (HB2_5.out.drew.ext hs_.1).cell 0 rfl
      have cB2_1 := (HB2_5.out.drew.ext hs_.1).cell 1 rfl
      have cB2_2 := (HB2_5.out.drew.ext hs_.1).cell 2 rfl
      refine Rn.val fun K_ hK_ => ?_
      go_simp
      exact hK_.out _ (Ext.refl _)
    refine RnL.cons (fun g5 A_ W_ hs_ => ?_) ?_
    · have q37_ := hs_.val 0 rfl rfl rfl
      have q38_ := hs_.val 1 rfl rfl rfl
      refine Rn.val fun K_ hK_ => ?_
      go_simp
      refine (ssub_x b a _ (HG.out.ext (HX5.out.drew.trans hs_.1)) Hb.out Ha.out (by omega) (by omega)).mono ?_; rintro e W9_ ⟨rfl, e9_⟩; exact hK_.out _ e9_
    refine RnL.cons (fun g5 A_ W_ hs_ => ?_) ?_
    · have q7_ := (hs_.old 7 (by kernel_rfl) : A_.tmps[7]?.getD undef = .pointer (some ⟨i4, 0, none⟩))
      have cB4_0 := (HB4_5.out.drew.ext hs_.1).cell 0 rfl
      have cB4_1 := (HB4_5.out.drew.ext hs_.1).cell 1 rfl
      have cB4_2 := (HB4_5.out.drew.ext hs_.1).cell 2 rfl
      refine Rn.val fun K_ hK_ => ?_
      go_simp
      exact hK_.out _ (Ext.refl _)
    refine RnL.cons (fun g5 A_ W_ hs_ => ?_) ?_
    · have q5_ := (hs_.old 5 (by kernel_rfl) : A_.tmps[5]?.getD undef = .pointer (some ⟨i2, 0, none⟩))
      have cB2_0 := (HB2_5.out.drew.ext hs_.1).cell 0 rfl
      have cB2_1 := (HB2_5.out.drew.ext hs_.1).cell 1 rfl
      have cB2_2 := (HB2_5.out.drew.ext hs_.1).cell 2 rfl
      refine Rn.val fun K_ hK_ => ?_
      go_simp
      exact hK_.out _ (Ext.refl _)
    refine RnL.cons (fun g5 A_ W_ hs_ => ?_) ?_
    · have q40_ := hs_.val 3 rfl rfl rfl
      have q41_ := hs_.val 4 rfl rfl rfl
      refine Rn.val fun K_ hK_ => ?_
      go_simp
      refine (ssub_x c a _ (HG.out.ext (HX5.out.drew.trans hs_.1)) Hc.out Ha.out (by omega) (by omega)).mono ?_; rintro e W9_ ⟨rfl, e9_⟩; exact hK_.out _ e9_
    refine RnL.cons (fun g5 A_ W_ hs_ => ?_) ?_
    · have q39_ := hs_.val 2 rfl rfl rfl
      have q42_ := hs_.val 5 rfl rfl rfl
      refine Rn.val fun K_ hK_ => ?_
      go_simp
      refine (snorm a b c N _ (HG.out.ext (HX5.out.drew.trans hs_.1)) HNE.out Ha.out Hb.out Hc.out).mono ?_; rintro e W9_ ⟨rfl, e9_⟩; exact hK_.out _ e9_
    refine RnL.cons (fun g5 A_ W_ hs_ => ?_) ?_
    · refine Rn.mem fun K_ hK_ => ?_
      go_simp
      exact hK_.out
    refine RnL.cons (fun g5 A_ W_ hs_ => ?_) ?_
    · have q11_ := (hs_.mem 7 rfl rfl rfl).1
      have q43_ := hs_.val 6 rfl rfl rfl
      refine Rn.put (z := #[.string ⟨#[]⟩, .string ⟨#[]⟩, .string ⟨#[]⟩]) (t := 30) rfl fun hB K_ hK_ => ?_
      have c_0 := hB.cell 0 rfl; have f_0 := hB.free 0
      have c_1 := hB.cell 1 rfl; have f_1 := hB.free 1
      have c_2 := hB.cell 2 rfl; have f_2 := hB.free 2
      have HB := Lib.hid hB; clear hB
      go_simp
      exact hK_.out _ ((((Only.refl _ _).set 0 _).set 1 _).set 2 _) (((HB.out.set 0 _).set 1 _).set 2 _)
    exact RnL.nil
  simp only [fs, Kd.value, puts, Act.put, List.setIfInBounds_toArray, List.set_cons_zero, List.set_cons_succ, Nat.reduceAdd]
  have HX6 : Hid (Ext w w6) := Lib.hid (HX5.out.drew.trans hx_)
  have HB2_6 := Lib.hid (HB2_5.out.drew.ext hx_)
  have HB5_6 := Lib.hid (HB5_5.out.drew.ext hx_)
  have HB6_6 := Lib.hid (HB6_5.out.drew.ext hx_)
  have HB7_6 : Hid (Blk w6 (g5 7) #[.string (qs N.x), .string (qs N.y), .string (qs N.z)] 30) := Lib.hid (hm_ 7 _ _ _ _ rfl).2; have HGEB7 : Hid (w.heap.size ≤ g5 7) := Lib.hid (Nat.le_trans HX5.out.size (hm_ 7 _ _ _ _ rfl).1)
  have HNEB2B7 : Hid (i2 ≠ g5 7) := Lib.hid (Nat.ne_of_lt (Nat.lt_of_lt_of_le HB2_5.out.lt (hm_ 7 _ _ _ _ rfl).1))
  have HNEB5B7 : Hid (i5 ≠ g5 7) := Lib.hid (Nat.ne_of_lt (Nat.lt_of_lt_of_le HB5_5.out.lt (hm_ 7 _ _ _ _ rfl).1))
  have HNEB6B7 : Hid (w4.heap.size ≠ g5 7) := Lib.hid (Nat.ne_of_lt (Nat.lt_of_lt_of_le HB6_5.out.lt (hm_ 7 _ _ _ _ rfl).1))
  clear hx_ hm_ hne_
  generalize g5 7 = i7 at *
  clear g5
  have c7_0 := HB7_6.out.cell 0 rfl
  have c7_1 := HB7_6.out.cell 1 rfl
  have c7_2 := HB7_6.out.cell 2 rfl
  go_wp2_with fail
  refine (szero_f N _ HZ.out).mono ?_; rintro e w7 ⟨rfl, e7⟩
  have HX7 : Hid (Ext w w7) := Lib.hid (HX6.out.trans e7)
  have HB2_7 : Hid (Blk w7 (i2) #[.string (qs a.x), .string (qs a.y), .string (qs a.z)] 30) := Lib.hid (Blk.ext HB2_6.out e7)
  have HB5_7 : Hid (Blk w7 (i5) #[.string (qs d.x), .string (qs d.y), .string (qs d.z)] 30) := Lib.hid (Blk.ext HB5_6.out e7)
  have HB6_7 : Hid (Blk w7 (w4.heap.size) #[.string (qs N.x), .string (qs N.y), .string (qs N.z), .string (qs O)] 48) := Lib.hid (Blk.ext HB6_6.out e7)
  have HB7_7 : Hid (Blk w7 (i7) #[.string (qs N.x), .string (qs N.y), .string (qs N.z)] 30) := Lib.hid (Blk.ext HB7_6.out e7)
  clear e7 c7_0 c7_1 c7_2
  go_wp2_with fail
  refine wp_name (fun W => Ext w W ∧ Blk W (i2) #[.string (qs a.x), .string (qs a.y), .string (qs a.z)] 30 ∧ Blk W (i5) #[.string (qs d.x), .string (qs d.y), .string (qs d.z)] 30 ∧ Blk W (w4.heap.size) #[.string (qs N.x), .string (qs N.y), .string (qs N.z), .string (qs O)] 48 ∧ Blk W (i7) #[.string (qs N.x), .string (qs N.y), .string (qs N.z)] 30) ⟨HX7.out, HB2_7.out, HB5_7.out, HB6_7.out, HB7_7.out⟩ ?_
  rintro w8 ⟨e8, bB2_8, bB5_8, bB6_8, bB7_8⟩
  have HX8 := Lib.hid e8; have HB2_8 := Lib.hid bB2_8; have HB5_8 := Lib.hid bB5_8; have HB6_8 := Lib.hid bB6_8; have HB7_8 := Lib.hid bB7_8
  clear e8 bB2_8 bB5_8 bB6_8 bB7_8
  refine region_lin [.val (.int .i64 0), .val (.bool false), .val (.bool false), .val (.agg #[.string (qs N.x), .string (qs N.y), .string (qs N.z), .string (qs O)]), .val (.agg #[.string (qs N.x), .string (qs N.y), .string (qs N.z)]), .val (.agg #[.string (qs N.x), .string (qs N.y), .string (qs N.z)]), .val (.agg #[.string (qs a.x), .string (qs a.y), .string (qs a.z)]), .val (.string (qs O)), .val (.agg #[.string (qs N.x), .string (qs N.y), .string (qs N.z), .string (qs O)]), .val (.bool false), .val (.bool false)] (by kernel_rfl) (by kernel_rfl) (by kernel_rfl) ?_ (fun g8 w9 hx_ hm_ hne_ => ?_)
  · skip
    refine RnL.cons (fun g8 A_ W_ hs_ => ?_) ?_
    · have q10_ := (hs_.old 10 (by kernel_rfl) : A_.tmps[10]?.getD undef = .int .i64 0)
      refine Rn.val fun K_ hK_ => ?_
      go_simp
      exact hK_.out _ (Ext.refl _)
    refine RnL.cons (fun g8 A_ W_ hs_ => ?_) ?_
    · have q53_ := hs_.val 0 rfl rfl rfl
      refine Rn.val fun K_ hK_ => ?_
      go_simp
      exact hK_.out _ (Ext.refl _)
    refine RnL.cons (fun g8 A_ W_ hs_ => ?_) ?_
    · have q54_ := hs_.val 1 rfl rfl rfl
      refine Rn.val fun K_ hK_ => ?_
      go_simp
      exact hK_.out _ (Ext.refl _)
    refine RnL.cons (fun g8 A_ W_ hs_ => ?_) ?_
    · have q9_ := (hs_.old 9 (by kernel_rfl) : A_.tmps[9]?.getD undef = .pointer (some ⟨w4.heap.size, 0, none⟩))
      have cB6_0 := (HB6_8.out.drew.ext hs_.1).cell 0 rfl
      have cB6_1 := (HB6_8.out.drew.ext hs_.1).cell 1 rfl
      have cB6_2 := (HB6_8.out.drew.ext hs_.1).cell 2 rfl
      have cB6_3 := (HB6_8.out.drew.ext hs_.1).cell 3 rfl
      refine Rn.val fun K_ hK_ => ?_
      go_simp
      exact hK_.out _ (Ext.refl _)
    refine RnL.cons (fun g8 A_ W_ hs_ => ?_) ?_
    · have q11_ := (hs_.old 11 (by kernel_rfl) : A_.tmps[11]?.getD undef = .pointer (some ⟨i7, 0, none⟩))
      have cB7_0 := (HB7_8.out.drew.ext hs_.1).cell 0 rfl
      have cB7_1 := (HB7_8.out.drew.ext hs_.1).cell 1 rfl
      have cB7_2 := (HB7_8.out.drew.ext hs_.1).cell 2 rfl
      refine Rn.val fun K_ hK_ => ?_
      go_simp
      exact hK_.out _ (Ext.refl _)
    refine RnL.cons (fun g8 A_ W_ hs_ => ?_) ?_
    · have q11_ := (hs_.old 11 (by kernel_rfl) : A_.tmps[11]?.getD undef = .pointer (some ⟨i7, 0, none⟩))
      have cB7_0 := (HB7_8.out.drew.ext hs_.1).cell 0 rfl
      have cB7_1 := (HB7_8.out.drew.ext hs_.1).cell 1 rfl
      have cB7_2 := (HB7_8.out.drew.ext hs_.1).cell 2 rfl
      refine Rn.val fun K_ hK_ => ?_
      go_simp
      exact hK_.out _ (Ext.refl _)
    refine RnL.cons (fun g8 A_ W_ hs_ => ?_) ?_
    · have q5_ := (hs_.old 5 (by kernel_rfl) : A_.tmps[5]?.getD undef = .pointer (some ⟨i2, 0, none⟩))
      have cB2_0 := (HB2_8.out.drew.ext hs_.1).cell 0 rfl
      have cB2_1 := (HB2_8.out.drew.ext hs_.1).cell 1 rfl
      have cB2_2 := (HB2_8.out.drew.ext hs_.1).cell 2 rfl
      refine Rn.val fun K_ hK_ => ?_
      go_simp
      exact hK_.out _ (Ext.refl _)
    refine RnL.cons (fun g8 A_ W_ hs_ => ?_) ?_
    · have q58_ := hs_.val 5 rfl rfl rfl
      have q59_ := hs_.val 6 rfl rfl rfl
      refine Rn.val fun K_ hK_ => ?_
      go_simp
      refine (sdot_n N a O _ (HG.out.ext (HX8.out.drew.trans hs_.1)) HOE.out HN.out Ha.out (by decide) (by decide)).mono ?_; rintro e W9_ ⟨rfl, e9_⟩; exact hK_.out _ e9_
    refine RnL.cons (fun g8 A_ W_ hs_ => ?_) ?_
    · have q57_ := hs_.val 4 rfl rfl rfl
      have q60_ := hs_.val 7 rfl rfl rfl
      refine Rn.val fun K_ hK_ => ?_
      go_simp
      exact hK_.out _ (Ext.refl _)
    refine RnL.cons (fun g8 A_ W_ hs_ => ?_) ?_
    · have q56_ := hs_.val 3 rfl rfl rfl
      have q61_ := hs_.val 8 rfl rfl rfl
      refine Rn.val fun K_ hK_ => ?_
      go_simp
      exact hK_.out _ (Ext.refl _)
    refine RnL.cons (fun g8 A_ W_ hs_ => ?_) ?_
    · have q55_ := hs_.val 2 rfl rfl rfl
      have q62_ := hs_.val 9 rfl rfl rfl
      refine Rn.val fun K_ hK_ => ?_
      go_simp
      exact hK_.out _ (Ext.refl _)
    exact RnL.nil
  simp only [fs, Kd.value, puts, Act.put, List.setIfInBounds_toArray, List.set_cons_zero, List.set_cons_succ]
  have HX9 : Hid (Ext w w9) := Lib.hid (HX8.out.drew.trans hx_)
  have HB2_9 := Lib.hid (HB2_8.out.drew.ext hx_)
  have HB5_9 := Lib.hid (HB5_8.out.drew.ext hx_)
  have HB6_9 := Lib.hid (HB6_8.out.drew.ext hx_)
  have HB7_9 := Lib.hid (HB7_8.out.drew.ext hx_)
  clear hx_ hm_ hne_
  have c6_0 := HB6_9.out.cell 0 rfl
  have c6_1 := HB6_9.out.cell 1 rfl
  have c6_2 := HB6_9.out.cell 2 rfl
  have c6_3 := HB6_9.out.cell 3 rfl
  have c5_0 := HB5_9.out.cell 0 rfl
  have c5_1 := HB5_9.out.cell 1 rfl
  have c5_2 := HB5_9.out.cell 2 rfl
  go_wp2_with fail
  refine (side_n N d O B _ (HG.out.ext HX9.out) HBE.out HN.out HO.out Hd.out HZ.out).mono ?_; rintro e w10 ⟨rfl, e10⟩
  have HX10 : Hid (Ext w w10) := Lib.hid (HX9.out.trans e10)
  have HB2_10 : Hid (Blk w10 (i2) #[.string (qs a.x), .string (qs a.y), .string (qs a.z)] 30) := Lib.hid (Blk.ext HB2_9.out e10)
  have HB5_10 : Hid (Blk w10 (i5) #[.string (qs d.x), .string (qs d.y), .string (qs d.z)] 30) := Lib.hid (Blk.ext HB5_9.out e10)
  have HB6_10 : Hid (Blk w10 (w4.heap.size) #[.string (qs N.x), .string (qs N.y), .string (qs N.z), .string (qs O)] 48) := Lib.hid (Blk.ext HB6_9.out e10)
  have HB7_10 : Hid (Blk w10 (i7) #[.string (qs N.x), .string (qs N.y), .string (qs N.z)] 30) := Lib.hid (Blk.ext HB7_9.out e10)
  clear e10 c6_0 c6_1 c6_2 c6_3 c5_0 c5_1 c5_2
  have c6_0 := HB6_10.out.cell 0 rfl
  have c6_1 := HB6_10.out.cell 1 rfl
  have c6_2 := HB6_10.out.cell 2 rfl
  have c6_3 := HB6_10.out.cell 3 rfl
  have c5_0 := HB5_10.out.cell 0 rfl
  have c5_1 := HB5_10.out.cell 1 rfl
  have c5_2 := HB5_10.out.cell 2 rfl
  have c2_0 := HB2_10.out.cell 0 rfl
  have c2_1 := HB2_10.out.cell 1 rfl
  have c2_2 := HB2_10.out.cell 2 rfl
  go_wp2_with fail
  refine (pierce_0 N a d O _ (HG.out.ext HX10.out) HOE.out HN.out HO.out Hd.out Ha.out HZ.out HO0.out).mono ?_; rintro e w11 ⟨rfl, e11⟩
  have HX11 : Hid (Ext w w11) := Lib.hid (HX10.out.trans e11)
  have HB2_11 : Hid (Blk w11 (i2) #[.string (qs a.x), .string (qs a.y), .string (qs a.z)] 30) := Lib.hid (Blk.ext HB2_10.out e11)
  have HB5_11 : Hid (Blk w11 (i5) #[.string (qs d.x), .string (qs d.y), .string (qs d.z)] 30) := Lib.hid (Blk.ext HB5_10.out e11)
  have HB6_11 : Hid (Blk w11 (w4.heap.size) #[.string (qs N.x), .string (qs N.y), .string (qs N.z), .string (qs O)] 48) := Lib.hid (Blk.ext HB6_10.out e11)
  have HB7_11 : Hid (Blk w11 (i7) #[.string (qs N.x), .string (qs N.y), .string (qs N.z)] 30) := Lib.hid (Blk.ext HB7_10.out e11)
  clear e11 c6_0 c6_1 c6_2 c6_3 c5_0 c5_1 c5_2 c2_0 c2_1 c2_2
  have c6_0 := HB6_11.out.cell 0 rfl
  have c6_1 := HB6_11.out.cell 1 rfl
  have c6_2 := HB6_11.out.cell 2 rfl
  have c6_3 := HB6_11.out.cell 3 rfl
  have c5_0 := HB5_11.out.cell 0 rfl
  have c5_1 := HB5_11.out.cell 1 rfl
  have c5_2 := HB5_11.out.cell 2 rfl
  go_wp2_with fail
  refine (beyond_n N d O B _ (HG.out.ext HX11.out) HBE.out (HN.out.mono (by decide)) HO.out Hd.out (by decide) (by decide)).mono ?_; rintro e w12 ⟨rfl, e12⟩
  have HX12 : Hid (Ext w w12) := Lib.hid (HX11.out.trans e12)
  have HB2_12 : Hid (Blk w12 (i2) #[.string (qs a.x), .string (qs a.y), .string (qs a.z)] 30) := Lib.hid (Blk.ext HB2_11.out e12)
  have HB7_12 : Hid (Blk w12 (i7) #[.string (qs N.x), .string (qs N.y), .string (qs N.z)] 30) := Lib.hid (Blk.ext HB7_11.out e12)
  clear e12 c6_0 c6_1 c6_2 c6_3 c5_0 c5_1 c5_2
  go_wp2_with fail
  refine (fqsign_c B _).mono ?_; rintro e _ ⟨rfl, rfl⟩
  have c7_0 := HB7_12.out.cell 0 rfl
  have c7_1 := HB7_12.out.cell 1 rfl
  have c7_2 := HB7_12.out.cell 2 rfl
  have c2_0 := HB2_12.out.cell 0 rfl
  have c2_1 := HB2_12.out.cell 1 rfl
  have c2_2 := HB2_12.out.cell 2 rfl
  go_wp2_with fail
  refine (sdot_n N a O _ (HG.out.ext HX12.out) HOE.out HN.out Ha.out (by decide) (by decide)).mono ?_; rintro e w13 ⟨rfl, e13⟩
  have HX13 : Hid (Ext w w13) := Lib.hid (HX12.out.trans e13)
  clear e13 c7_0 c7_1 c7_2 c2_0 c2_1 c2_2
  go_wp2
  go_ret
  exact ⟨rfl, HX13.out⟩

set_option maxRecDepth 100000 in
set_option maxHeartbeats 16000000 in
theorem planes_walk2 (p q r s : Pla) (w : World) (g : Gd w) (hp : PlaOk p) (hq : PlaOk q) (hr : PlaOk r) (hs : PlaOk s) (hz : ¬ ((vnorm (pvec p) (pvec q) (pvec r)).x = 0 ∧ (vnorm (pvec p) (pvec q) (pvec r)).y = 0 ∧ (vnorm (pvec p) (pvec q) (pvec r)).z = 0)) (ho : dotl (vnorm (pvec p) (pvec q) (pvec r)) (pvec p) ≠ 0) : Calls Tryz.prog 9 #[.agg #[.int .i16 p.n0, .int .u8 (p.d0 : Int), .int .i16 p.n1, .int .u8 (p.d1 : Int), .int .i16 p.n2, .int .u8 (p.d2 : Int), .int .i16 q.n0, .int .u8 (q.d0 : Int), .int .i16 q.n1, .int .u8 (q.d1 : Int), .int .i16 q.n2, .int .u8 (q.d2 : Int)], .agg #[.int .i16 r.n0, .int .u8 (r.d0 : Int), .int .i16 r.n1, .int .u8 (r.d1 : Int), .int .i16 r.n2, .int .u8 (r.d2 : Int), .int .i16 s.n0, .int .u8 (s.d0 : Int), .int .i16 s.n1, .int .u8 (s.d1 : Int), .int .i16 s.n2, .int .u8 (s.d2 : Int)]] w (Ret w (.bool true)) := by
  have Hp := Lib.hid hp
  have Hq := Lib.hid hq
  have Hr := Lib.hid hr
  have Hs := Lib.hid hs
  have HG := Lib.hid g
  clear hp hq hr hs g
  have HH0 := Lib.hid ho; clear ho
  have HZ0 := Lib.hid hz; clear hz
  obtain ⟨a, ea⟩ : ∃ a, pvec p = a := ⟨_, rfl⟩
  have HaE := Lib.hid ea; have Ha : Hid (VB 5 a) := Lib.hid (ea ▸ Hp.out.v); have HaD : Hid (VD 5 3 a) := Lib.hid (ea ▸ Hp.out.vd); clear ea
  obtain ⟨b, eb⟩ : ∃ b, pvec q = b := ⟨_, rfl⟩
  have HbE := Lib.hid eb; have Hb : Hid (VB 5 b) := Lib.hid (eb ▸ Hq.out.v); have HbD : Hid (VD 5 3 b) := Lib.hid (eb ▸ Hq.out.vd); clear eb
  obtain ⟨c, ec⟩ : ∃ c, pvec r = c := ⟨_, rfl⟩
  have HcE := Lib.hid ec; have Hc : Hid (VB 5 c) := Lib.hid (ec ▸ Hr.out.v); have HcD : Hid (VD 5 3 c) := Lib.hid (ec ▸ Hr.out.vd); clear ec
  obtain ⟨d, ed⟩ : ∃ d, pvec s = d := ⟨_, rfl⟩
  have HdE := Lib.hid ed; have Hd : Hid (VB 5 d) := Lib.hid (ed ▸ Hs.out.v); have HdD : Hid (VD 5 3 d) := Lib.hid (ed ▸ Hs.out.vd); clear ed
  obtain ⟨N, eN⟩ : ∃ N, vnorm a b c = N := ⟨_, rfl⟩
  have HNE := Lib.hid eN; have HND : Hid (VD 31 24 N) := Lib.hid (eN ▸ vnorm_d HaD.out HbD.out HcD.out); have HN : Hid (VB 31 N) := Lib.hid (HND.out.vb (by decide) (by decide)); clear eN
  have HZ : Hid (¬ (N.x = 0 ∧ N.y = 0 ∧ N.z = 0)) := Lib.hid (by have h := HZ0.out; rw [HaE.out, HbE.out, HcE.out, HNE.out] at h; exact h)
  obtain ⟨O, eO⟩ : ∃ O, dotl N a = O := ⟨_, rfl⟩
  have HOE := Lib.hid eO; have HOD : Hid (QD 92 81 O) := Lib.hid (eO ▸ dotl_d HND.out HaD.out); have HO : Hid (QB 92 O) := Lib.hid (HOD.out.qb (by decide) (by decide)); clear eO
  obtain ⟨B, eB⟩ : ∃ B, dotl N d - O = B := ⟨_, rfl⟩
  have HBE := Lib.hid eB; clear eB
  have ho : O ≠ 0 := by have h := HH0.out; rw [HaE.out, HbE.out, HcE.out, HNE.out, HOE.out] at h; exact h
  have ho_t := qs_not0 ho
  have HO0 := Lib.hid ho; clear ho
  obtain ⟨K, eK⟩ : ∃ K, (O - dotl N d) / O = K := ⟨_, rfl⟩
  have HKE := Lib.hid eK; have HK : Hid (QB 200 K) := Lib.hid (by have h := pierce_q HND.out HaD.out HdD.out; rw [HOE.out, HKE.out] at h; exact h); clear eK
  have HB0 : Hid (dotl N ⟨d.x + a.x * K, d.y + a.y * K, d.z + a.z * K⟩ - O = 0) := Lib.hid (by
    have h1 : dotl N ⟨d.x + a.x * K, d.y + a.y * K, d.z + a.z * K⟩ - O = dotl N d + dotl N a * K - O := by unfold dotl; grind
    rw [h1, HOE.out, ← HKE.out, Rat.mul_comm, Rat.div_mul_cancel HO0.out]; grind)
  go_enter Tryz.func9, Tryz.ntmps9
  go_wp2_with fail
  refine (known_c _ (HG.out.ext (((Ext.refl w).alloc _).alloc _))).mono ?_; rintro e w1 ⟨rfl, e1⟩
  have HX1 : Hid (Ext w w1) := Lib.hid ((((Ext.refl w).alloc _).alloc _).trans e1)
  have HB0_1 : Hid (Blk w1 (w.heap.size) #[.int .i16 p.n0, .int .u8 (p.d0 : Int), .int .i16 p.n1, .int .u8 (p.d1 : Int), .int .i16 p.n2, .int .u8 (p.d2 : Int), .int .i16 q.n0, .int .u8 (q.d0 : Int), .int .i16 q.n1, .int .u8 (q.d1 : Int), .int .i16 q.n2, .int .u8 (q.d2 : Int)] 44) := Lib.hid (Blk.ext ((Blk.new' (w := _) (cs := #[.int .i16 p.n0, .int .u8 (p.d0 : Int), .int .i16 p.n1, .int .u8 (p.d1 : Int), .int .i16 p.n2, .int .u8 (p.d2 : Int), .int .i16 q.n0, .int .u8 (q.d0 : Int), .int .i16 q.n1, .int .u8 (q.d1 : Int), .int .i16 q.n2, .int .u8 (q.d2 : Int)]) (t := 44) (by first | rfl | (simp only [World.size_alloc]; done) | (simp only [World.size_alloc]; omega) | simp)).alloc _) e1)
  have HB1_1 : Hid (Blk w1 (w.heap.size + 1) #[.int .i16 r.n0, .int .u8 (r.d0 : Int), .int .i16 r.n1, .int .u8 (r.d1 : Int), .int .i16 r.n2, .int .u8 (r.d2 : Int), .int .i16 s.n0, .int .u8 (s.d0 : Int), .int .i16 s.n1, .int .u8 (s.d1 : Int), .int .i16 s.n2, .int .u8 (s.d2 : Int)] 44) := Lib.hid (Blk.ext (Blk.new' (w := _) (cs := #[.int .i16 r.n0, .int .u8 (r.d0 : Int), .int .i16 r.n1, .int .u8 (r.d1 : Int), .int .i16 r.n2, .int .u8 (r.d2 : Int), .int .i16 s.n0, .int .u8 (s.d0 : Int), .int .i16 s.n1, .int .u8 (s.d1 : Int), .int .i16 s.n2, .int .u8 (s.d2 : Int)]) (t := 44) (by first | rfl | (simp only [World.size_alloc]; done) | (simp only [World.size_alloc]; omega) | simp)) e1)
  have HGEB0 : Hid (w.heap.size ≤ w.heap.size) := Lib.hid (by first | omega | (simp only []; omega) | (simp; omega))
  have HGEB1 : Hid (w.heap.size ≤ w.heap.size + 1) := Lib.hid (by first | omega | (simp only []; omega) | (simp; omega))
  clear e1
  go_wp2_with fail
  refine wp_name (fun W => Ext w W ∧ Blk W (w.heap.size) #[.int .i16 p.n0, .int .u8 (p.d0 : Int), .int .i16 p.n1, .int .u8 (p.d1 : Int), .int .i16 p.n2, .int .u8 (p.d2 : Int), .int .i16 q.n0, .int .u8 (q.d0 : Int), .int .i16 q.n1, .int .u8 (q.d1 : Int), .int .i16 q.n2, .int .u8 (q.d2 : Int)] 44 ∧ Blk W (w.heap.size + 1) #[.int .i16 r.n0, .int .u8 (r.d0 : Int), .int .i16 r.n1, .int .u8 (r.d1 : Int), .int .i16 r.n2, .int .u8 (r.d2 : Int), .int .i16 s.n0, .int .u8 (s.d0 : Int), .int .i16 s.n1, .int .u8 (s.d1 : Int), .int .i16 s.n2, .int .u8 (s.d2 : Int)] 44) ⟨HX1.out, HB0_1.out, HB1_1.out⟩ ?_
  rintro w2 ⟨e2, bB0_2, bB1_2⟩
  have HX2 := Lib.hid e2; have HB0_2 := Lib.hid bB0_2; have HB1_2 := Lib.hid bB1_2
  clear e2 bB0_2 bB1_2
  refine region_lin [.val (.pointer (some ⟨w.heap.size, 0, none⟩)), .val (.agg #[.int .i16 p.n0, .int .u8 (p.d0 : Int), .int .i16 p.n1, .int .u8 (p.d1 : Int), .int .i16 p.n2, .int .u8 (p.d2 : Int)]), .val (.agg #[.string (qs a.x), .string (qs a.y), .string (qs a.z)]), .val (.pointer (some ⟨w.heap.size, 6, none⟩)), .val (.agg #[.int .i16 q.n0, .int .u8 (q.d0 : Int), .int .i16 q.n1, .int .u8 (q.d1 : Int), .int .i16 q.n2, .int .u8 (q.d2 : Int)]), .val (.agg #[.string (qs b.x), .string (qs b.y), .string (qs b.z)]), .val (.pointer (some ⟨w.heap.size + 1, 0, none⟩)), .val (.agg #[.int .i16 r.n0, .int .u8 (r.d0 : Int), .int .i16 r.n1, .int .u8 (r.d1 : Int), .int .i16 r.n2, .int .u8 (r.d2 : Int)]), .val (.agg #[.string (qs c.x), .string (qs c.y), .string (qs c.z)]), .val (.pointer (some ⟨w.heap.size + 1, 6, none⟩)), .val (.agg #[.int .i16 s.n0, .int .u8 (s.d0 : Int), .int .i16 s.n1, .int .u8 (s.d1 : Int), .int .i16 s.n2, .int .u8 (s.d2 : Int)]), .val (.agg #[.string (qs d.x), .string (qs d.y), .string (qs d.z)]), .mem (fun b_ => .pointer (some ⟨b_, 0, none⟩)) #[.string ⟨#[]⟩, .string ⟨#[]⟩, .string ⟨#[]⟩] 30 (Option.some 16), .mem (fun b_ => .pointer (some ⟨b_, 0, none⟩)) #[.string ⟨#[]⟩, .string ⟨#[]⟩, .string ⟨#[]⟩] 30 (Option.some 17), .mem (fun b_ => .pointer (some ⟨b_, 0, none⟩)) #[.string ⟨#[]⟩, .string ⟨#[]⟩, .string ⟨#[]⟩] 30 (Option.some 18), .mem (fun b_ => .pointer (some ⟨b_, 0, none⟩)) #[.string ⟨#[]⟩, .string ⟨#[]⟩, .string ⟨#[]⟩] 30 (Option.some 19), .put 12 #[.string (qs a.x), .string (qs a.y), .string (qs a.z)], .put 13 #[.string (qs b.x), .string (qs b.y), .string (qs b.z)], .put 14 #[.string (qs c.x), .string (qs c.y), .string (qs c.z)], .put 15 #[.string (qs d.x), .string (qs d.y), .string (qs d.z)]] (by kernel_rfl) (by kernel_rfl) (by kernel_rfl) ?_ (fun g2 w3 hx_ hm_ hne_ => ?_)
  · skip
    refine RnL.cons (fun g2 A_ W_ hs_ => ?_) ?_
    · have q2_ := (hs_.old 2 (by kernel_rfl) : A_.tmps[2]?.getD undef = .pointer (some ⟨w.heap.size, 0, none⟩))
      refine Rn.val fun K_ hK_ => ?_
      go_simp
      exact hK_.out _ (Ext.refl _)
    refine RnL.cons (fun g2 A_ W_ hs_ => ?_) ?_
    · have q18_ := hs_.val 0 rfl rfl rfl
      have cB0_0 := (HB0_2.out.drew.ext hs_.1).cell 0 rfl
      have cB0_1 := (HB0_2.out.drew.ext hs_.1).cell 1 rfl
      have cB0_2 := (HB0_2.out.drew.ext hs_.1).cell 2 rfl
      have cB0_3 := (HB0_2.out.drew.ext hs_.1).cell 3 rfl
      have cB0_4 := (HB0_2.out.drew.ext hs_.1).cell 4 rfl
      have cB0_5 := (HB0_2.out.drew.ext hs_.1).cell 5 rfl
      refine Rn.val fun K_ hK_ => ?_
      go_simp
      exact hK_.out _ (Ext.refl _)
    refine RnL.cons (fun g2 A_ W_ hs_ => ?_) ?_
    · have q19_ := hs_.val 1 rfl rfl rfl
      refine Rn.val fun K_ hK_ => ?_
      go_simp
      refine ((HaE.out ▸ make_c p _ (HG.out.ext (HX2.out.drew.trans hs_.1)) Hp.out)).mono ?_; rintro e W9_ ⟨rfl, e9_⟩; exact hK_.out _ e9_
    refine RnL.cons (fun g2 A_ W_ hs_ => ?_) ?_
    · have q2_ := (hs_.old 2 (by kernel_rfl) : A_.tmps[2]?.getD undef = .pointer (some ⟨w.heap.size, 0, none⟩))
      refine Rn.val fun K_ hK_ => ?_
      go_simp
      exact hK_.out _ (Ext.refl _)
    refine RnL.cons (fun g2 A_ W_ hs_ => ?_) ?_
    · have q21_ := hs_.val 3 rfl rfl rfl
      have cB0_6 := (HB0_2.out.drew.ext hs_.1).cell 6 rfl
      have cB0_7 := (HB0_2.out.drew.ext hs_.1).cell 7 rfl
      have cB0_8 := (HB0_2.out.drew.ext hs_.1).cell 8 rfl
      have cB0_9 := (HB0_2.out.drew.ext hs_.1).cell 9 rfl
      have cB0_10 := (HB0_2.out.drew.ext hs_.1).cell 10 rfl
      have cB0_11 := (HB0_2.out.drew.ext hs_.1).cell 11 rfl
      refine Rn.val fun K_ hK_ => ?_
      go_simp
      exact hK_.out _ (Ext.refl _)
    refine RnL.cons (fun g2 A_ W_ hs_ => ?_) ?_
    · have q22_ := hs_.val 4 rfl rfl rfl
      refine Rn.val fun K_ hK_ => ?_
      go_simp
      refine ((HbE.out ▸ make_c q _ (HG.out.ext (HX2.out.drew.trans hs_.1)) Hq.out)).mono ?_; rintro e W9_ ⟨rfl, e9_⟩; exact hK_.out _ e9_
    refine RnL.cons (fun g2 A_ W_ hs_ => ?_) ?_
    · have q3_ := (hs_.old 3 (by kernel_rfl) : A_.tmps[3]?.getD undef = .pointer (some ⟨w.heap.size + 1, 0, none⟩))
      refine Rn.val fun K_ hK_ => ?_
      go_simp
      exact hK_.out _ (Ext.refl _)
    refine RnL.cons (fun g2 A_ W_ hs_ => ?_) ?_
    · have q24_ := hs_.val 6 rfl rfl rfl
      have cB1_0 := (HB1_2.out.drew.ext hs_.1).cell 0 rfl
      have cB1_1 := (HB1_2.out.drew.ext hs_.1).cell 1 rfl
      have cB1_2 := (HB1_2.out.drew.ext hs_.1).cell 2 rfl
      have cB1_3 := (HB1_2.out.drew.ext hs_.1).cell 3 rfl
      have cB1_4 := (HB1_2.out.drew.ext hs_.1).cell 4 rfl
      have cB1_5 := (HB1_2.out.drew.ext hs_.1).cell 5 rfl
      refine Rn.val fun K_ hK_ => ?_
      go_simp
      exact hK_.out _ (Ext.refl _)
    refine RnL.cons (fun g2 A_ W_ hs_ => ?_) ?_
    · have q25_ := hs_.val 7 rfl rfl rfl
      refine Rn.val fun K_ hK_ => ?_
      go_simp
      refine ((HcE.out ▸ make_c r _ (HG.out.ext (HX2.out.drew.trans hs_.1)) Hr.out)).mono ?_; rintro e W9_ ⟨rfl, e9_⟩; exact hK_.out _ e9_
    refine RnL.cons (fun g2 A_ W_ hs_ => ?_) ?_
    · have q3_ := (hs_.old 3 (by kernel_rfl) : A_.tmps[3]?.getD undef = .pointer (some ⟨w.heap.size + 1, 0, none⟩))
      refine Rn.val fun K_ hK_ => ?_
      go_simp
      exact hK_.out _ (Ext.refl _)
    refine RnL.cons (fun g2 A_ W_ hs_ => ?_) ?_
    · have q27_ := hs_.val 9 rfl rfl rfl
      have cB1_6 := (HB1_2.out.drew.ext hs_.1).cell 6 rfl
      have cB1_7 := (HB1_2.out.drew.ext hs_.1).cell 7 rfl
      have cB1_8 := (HB1_2.out.drew.ext hs_.1).cell 8 rfl
      have cB1_9 := (HB1_2.out.drew.ext hs_.1).cell 9 rfl
      have cB1_10 := (HB1_2.out.drew.ext hs_.1).cell 10 rfl
      have cB1_11 := (HB1_2.out.drew.ext hs_.1).cell 11 rfl
      refine Rn.val fun K_ hK_ => ?_
      go_simp
      exact hK_.out _ (Ext.refl _)
    refine RnL.cons (fun g2 A_ W_ hs_ => ?_) ?_
    · have q28_ := hs_.val 10 rfl rfl rfl
      refine Rn.val fun K_ hK_ => ?_
      go_simp
      refine ((HdE.out ▸ make_c s _ (HG.out.ext (HX2.out.drew.trans hs_.1)) Hs.out)).mono ?_; rintro e W9_ ⟨rfl, e9_⟩; exact hK_.out _ e9_
    refine RnL.cons (fun g2 A_ W_ hs_ => ?_) ?_
    · refine Rn.mem fun K_ hK_ => ?_
      go_simp
      exact hK_.out
    refine RnL.cons (fun g2 A_ W_ hs_ => ?_) ?_
    · refine Rn.mem fun K_ hK_ => ?_
      go_simp
      exact hK_.out
    refine RnL.cons (fun g2 A_ W_ hs_ => ?_) ?_
    · refine Rn.mem fun K_ hK_ => ?_
      go_simp
      exact hK_.out
    refine RnL.cons (fun g2 A_ W_ hs_ => ?_) ?_
    · refine Rn.mem fun K_ hK_ => ?_
      go_simp
      exact hK_.out
    refine RnL.cons (fun g2 A_ W_ hs_ => ?_) ?_
    · have q5_ := (hs_.mem 12 rfl rfl rfl).1
      have q20_ := hs_.val 2 rfl rfl rfl
      refine Rn.put (z := #[.string ⟨#[]⟩, .string ⟨#[]⟩, .string ⟨#[]⟩]) (t := 30) rfl fun hB K_ hK_ => ?_
      have c_0 := hB.cell 0 rfl; have f_0 := hB.free 0
      have c_1 := hB.cell 1 rfl; have f_1 := hB.free 1
      have c_2 := hB.cell 2 rfl; have f_2 := hB.free 2
      have HB := Lib.hid hB; clear hB
      go_simp
      exact hK_.out _ ((((Only.refl _ _).set 0 _).set 1 _).set 2 _) (((HB.out.set 0 _).set 1 _).set 2 _)
    refine RnL.cons (fun g2 A_ W_ hs_ => ?_) ?_
    · have q6_ := (hs_.mem 13 rfl rfl rfl).1
      have q23_ := hs_.val 5 rfl rfl rfl
      refine Rn.put (z := #[.string ⟨#[]⟩, .string ⟨#[]⟩, .string ⟨#[]⟩]) (t := 30) rfl fun hB K_ hK_ => ?_
      have c_0 := hB.cell 0 rfl; have f_0 := hB.free 0
      have c_1 := hB.cell 1 rfl; have f_1 := hB.free 1
      have c_2 := hB.cell 2 rfl; have f_2 := hB.free 2
      have HB := Lib.hid hB; clear hB
      go_simp
      exact hK_.out _ ((((Only.refl _ _).set 0 _).set 1 _).set 2 _) (((HB.out.set 0 _).set 1 _).set 2 _)
    refine RnL.cons (fun g2 A_ W_ hs_ => ?_) ?_
    · have q7_ := (hs_.mem 14 rfl rfl rfl).1
      have q26_ := hs_.val 8 rfl rfl rfl
      refine Rn.put (z := #[.string ⟨#[]⟩, .string ⟨#[]⟩, .string ⟨#[]⟩]) (t := 30) rfl fun hB K_ hK_ => ?_
      have c_0 := hB.cell 0 rfl; have f_0 := hB.free 0
      have c_1 := hB.cell 1 rfl; have f_1 := hB.free 1
      have c_2 := hB.cell 2 rfl; have f_2 := hB.free 2
      have HB := Lib.hid hB; clear hB
      go_simp
      exact hK_.out _ ((((Only.refl _ _).set 0 _).set 1 _).set 2 _) (((HB.out.set 0 _).set 1 _).set 2 _)
    refine RnL.cons (fun g2 A_ W_ hs_ => ?_) ?_
    · have q8_ := (hs_.mem 15 rfl rfl rfl).1
      have q29_ := hs_.val 11 rfl rfl rfl
      refine Rn.put (z := #[.string ⟨#[]⟩, .string ⟨#[]⟩, .string ⟨#[]⟩]) (t := 30) rfl fun hB K_ hK_ => ?_
      have c_0 := hB.cell 0 rfl; have f_0 := hB.free 0
      have c_1 := hB.cell 1 rfl; have f_1 := hB.free 1
      have c_2 := hB.cell 2 rfl; have f_2 := hB.free 2
      have HB := Lib.hid hB; clear hB
      go_simp
      exact hK_.out _ ((((Only.refl _ _).set 0 _).set 1 _).set 2 _) (((HB.out.set 0 _).set 1 _).set 2 _)
    exact RnL.nil
  simp only [fs, Kd.value, puts, Act.put, List.setIfInBounds_toArray, List.set_cons_zero, List.set_cons_succ, Nat.reduceAdd]
  have HX3 : Hid (Ext w w3) := Lib.hid (HX2.out.drew.trans hx_)
  have HB2_3 : Hid (Blk w3 (g2 12) #[.string (qs a.x), .string (qs a.y), .string (qs a.z)] 30) := Lib.hid (hm_ 12 _ _ _ _ rfl).2; have HGEB2 : Hid (w.heap.size ≤ g2 12) := Lib.hid (Nat.le_trans HX2.out.size (hm_ 12 _ _ _ _ rfl).1)
  have HB3_3 : Hid (Blk w3 (g2 13) #[.string (qs b.x), .string (qs b.y), .string (qs b.z)] 30) := Lib.hid (hm_ 13 _ _ _ _ rfl).2; have HGEB3 : Hid (w.heap.size ≤ g2 13) := Lib.hid (Nat.le_trans HX2.out.size (hm_ 13 _ _ _ _ rfl).1)
  have HB4_3 : Hid (Blk w3 (g2 14) #[.string (qs c.x), .string (qs c.y), .string (qs c.z)] 30) := Lib.hid (hm_ 14 _ _ _ _ rfl).2; have HGEB4 : Hid (w.heap.size ≤ g2 14) := Lib.hid (Nat.le_trans HX2.out.size (hm_ 14 _ _ _ _ rfl).1)
  have HB5_3 : Hid (Blk w3 (g2 15) #[.string (qs d.x), .string (qs d.y), .string (qs d.z)] 30) := Lib.hid (hm_ 15 _ _ _ _ rfl).2; have HGEB5 : Hid (w.heap.size ≤ g2 15) := Lib.hid (Nat.le_trans HX2.out.size (hm_ 15 _ _ _ _ rfl).1)
  have HNEB2B3 : Hid (g2 12 ≠ g2 13) := Lib.hid (hne_ 12 13 (by decide) ⟨_, _, _, _, rfl⟩ ⟨_, _, _, _, rfl⟩)
  have HNEB2B4 : Hid (g2 12 ≠ g2 14) := Lib.hid (hne_ 12 14 (by decide) ⟨_, _, _, _, rfl⟩ ⟨_, _, _, _, rfl⟩)
  have HNEB3B4 : Hid (g2 13 ≠ g2 14) := Lib.hid (hne_ 13 14 (by decide) ⟨_, _, _, _, rfl⟩ ⟨_, _, _, _, rfl⟩)
  have HNEB2B5 : Hid (g2 12 ≠ g2 15) := Lib.hid (hne_ 12 15 (by decide) ⟨_, _, _, _, rfl⟩ ⟨_, _, _, _, rfl⟩)
  have HNEB3B5 : Hid (g2 13 ≠ g2 15) := Lib.hid (hne_ 13 15 (by decide) ⟨_, _, _, _, rfl⟩ ⟨_, _, _, _, rfl⟩)
  have HNEB4B5 : Hid (g2 14 ≠ g2 15) := Lib.hid (hne_ 14 15 (by decide) ⟨_, _, _, _, rfl⟩ ⟨_, _, _, _, rfl⟩)
  clear hx_ hm_ hne_
  generalize g2 12 = i2 at *
  generalize g2 13 = i3 at *
  generalize g2 14 = i4 at *
  generalize g2 15 = i5 at *
  clear g2
  have c2_0 := HB2_3.out.cell 0 rfl
  have c2_1 := HB2_3.out.cell 1 rfl
  have c2_2 := HB2_3.out.cell 2 rfl
  have c3_0 := HB3_3.out.cell 0 rfl
  have c3_1 := HB3_3.out.cell 1 rfl
  have c3_2 := HB3_3.out.cell 2 rfl
  have c4_0 := HB4_3.out.cell 0 rfl
  have c4_1 := HB4_3.out.cell 1 rfl
  have c4_2 := HB4_3.out.cell 2 rfl
  go_wp2_with fail
  refine (spn_ok a b c N O _ (HG.out.ext HX3.out) HNE.out HOE.out Ha.out Hb.out Hc.out HN.out HO.out HZ.out).mono ?_; rintro e w4 ⟨rfl, e4⟩
  have HX4 : Hid (Ext w w4) := Lib.hid (HX3.out.trans e4)
  have HB2_4 : Hid (Blk w4 (i2) #[.string (qs a.x), .string (qs a.y), .string (qs a.z)] 30) := Lib.hid (Blk.ext HB2_3.out e4)
  have HB3_4 : Hid (Blk w4 (i3) #[.string (qs b.x), .string (qs b.y), .string (qs b.z)] 30) := Lib.hid (Blk.ext HB3_3.out e4)
  have HB4_4 : Hid (Blk w4 (i4) #[.string (qs c.x), .string (qs c.y), .string (qs c.z)] 30) := Lib.hid (Blk.ext HB4_3.out e4)
  have HB5_4 : Hid (Blk w4 (i5) #[.string (qs d.x), .string (qs d.y), .string (qs d.z)] 30) := Lib.hid (Blk.ext HB5_3.out e4)
  clear e4 c2_0 c2_1 c2_2 c3_0 c3_1 c3_2 c4_0 c4_1 c4_2
  go_wp2_with fail
  refine wp_name (fun W => Ext w W ∧ Blk W (i2) #[.string (qs a.x), .string (qs a.y), .string (qs a.z)] 30 ∧ Blk W (i3) #[.string (qs b.x), .string (qs b.y), .string (qs b.z)] 30 ∧ Blk W (i4) #[.string (qs c.x), .string (qs c.y), .string (qs c.z)] 30 ∧ Blk W (i5) #[.string (qs d.x), .string (qs d.y), .string (qs d.z)] 30 ∧ Blk W (w4.heap.size) #[.string (qs N.x), .string (qs N.y), .string (qs N.z), .string (qs O)] 48) ⟨(HX4.out.alloc _), (HB2_4.out.alloc _), (HB3_4.out.alloc _), (HB4_4.out.alloc _), (HB5_4.out.alloc _), (Blk.new' (w := _) (cs := #[.string (qs N.x), .string (qs N.y), .string (qs N.z), .string (qs O)]) (t := 48) (by first | rfl | (simp only [World.size_alloc]; done) | (simp only [World.size_alloc]; omega) | simp))⟩ ?_
  rintro w5 ⟨e5, bB2_5, bB3_5, bB4_5, bB5_5, bB6_5⟩
  have HX5 := Lib.hid e5; have HB2_5 := Lib.hid bB2_5; have HB3_5 := Lib.hid bB3_5; have HB4_5 := Lib.hid bB4_5; have HB5_5 := Lib.hid bB5_5; have HB6_5 := Lib.hid bB6_5
  have HGEB6 : Hid (w.heap.size ≤ w4.heap.size) := Lib.hid (by have := HX4.out.size; first | omega | (simp only []; omega) | (simp; omega))
  clear e5 bB2_5 bB3_5 bB4_5 bB5_5 bB6_5
  refine region_lin [.val (.agg #[.string (qs b.x), .string (qs b.y), .string (qs b.z)]), .val (.agg #[.string (qs a.x), .string (qs a.y), .string (qs a.z)]), .val (.agg #[.string (qs (b.x - a.x)), .string (qs (b.y - a.y)), .string (qs (b.z - a.z))]), .val (.agg #[.string (qs c.x), .string (qs c.y), .string (qs c.z)]), .val (.agg #[.string (qs a.x), .string (qs a.y), .string (qs a.z)]), .val (.agg #[.string (qs (c.x - a.x)), .string (qs (c.y - a.y)), .string (qs (c.z - a.z))]), .val (.agg #[.string (qs N.x), .string (qs N.y), .string (qs N.z)]), .mem (fun b_ => .pointer (some ⟨b_, 0, none⟩)) #[.string ⟨#[]⟩, .string ⟨#[]⟩, .string ⟨#[]⟩] 30 (Option.some 8), .put 7 #[.string (qs N.x), .string (qs N.y), .string (qs N.z)]] (by kernel_rfl) (by kernel_rfl) (by kernel_rfl) ?_ (fun g5 w6 hx_ hm_ hne_ => ?_)
  · skip
    refine RnL.cons (fun g5 A_ W_ hs_ => ?_) ?_
    · have q6_ := (hs_.old 6 (by kernel_rfl) : A_.tmps[6]?.getD undef = .pointer (some ⟨i3, 0, none⟩))
      have cB3_0 := (HB3_5.out.drew.ext hs_.1).cell 0 rfl
      have cB3_1 := (HB3_5.out.drew.ext hs_.1).cell 1 rfl
      have cB3_2 := (HB3_5.out.drew.ext hs_.1).cell 2 rfl
      refine Rn.val fun K_ hK_ => ?_
      go_simp
      exact hK_.out _ (Ext.refl _)
    refine RnL.cons (fun g5 A_ W_ hs_ => ?_) ?_
    · have q5_ := (hs_.old 5 (by kernel_rfl) : A_.tmps[5]?.getD undef = .pointer (some ⟨i2, 0, none⟩))
      have cB2_0 := (HB2_5.out.drew.ext hs_.1).cell 0 rfl
      have cB2_1 := (HB2_5.out.drew.ext hs_.1).cell 1 rfl
      have cB2_2 := (HB2_5.out.drew.ext hs_.1).cell 2 rfl
      refine Rn.val fun K_ hK_ => ?_
      go_simp
      exact hK_.out _ (Ext.refl _)
    refine RnL.cons (fun g5 A_ W_ hs_ => ?_) ?_
    · have q37_ := hs_.val 0 rfl rfl rfl
      have q38_ := hs_.val 1 rfl rfl rfl
      refine Rn.val fun K_ hK_ => ?_
      go_simp
      refine (ssub_x b a _ (HG.out.ext (HX5.out.drew.trans hs_.1)) Hb.out Ha.out (by omega) (by omega)).mono ?_; rintro e W9_ ⟨rfl, e9_⟩; exact hK_.out _ e9_
    refine RnL.cons (fun g5 A_ W_ hs_ => ?_) ?_
    · have q7_ := (hs_.old 7 (by kernel_rfl) : A_.tmps[7]?.getD undef = .pointer (some ⟨i4, 0, none⟩))
      have cB4_0 := (HB4_5.out.drew.ext hs_.1).cell 0 rfl
      have cB4_1 := (HB4_5.out.drew.ext hs_.1).cell 1 rfl
      have cB4_2 := (HB4_5.out.drew.ext hs_.1).cell 2 rfl
      refine Rn.val fun K_ hK_ => ?_
      go_simp
      exact hK_.out _ (Ext.refl _)
    refine RnL.cons (fun g5 A_ W_ hs_ => ?_) ?_
    · have q5_ := (hs_.old 5 (by kernel_rfl) : A_.tmps[5]?.getD undef = .pointer (some ⟨i2, 0, none⟩))
      have cB2_0 := (HB2_5.out.drew.ext hs_.1).cell 0 rfl
      have cB2_1 := (HB2_5.out.drew.ext hs_.1).cell 1 rfl
      have cB2_2 := (HB2_5.out.drew.ext hs_.1).cell 2 rfl
      refine Rn.val fun K_ hK_ => ?_
      go_simp
      exact hK_.out _ (Ext.refl _)
    refine RnL.cons (fun g5 A_ W_ hs_ => ?_) ?_
    · have q40_ := hs_.val 3 rfl rfl rfl
      have q41_ := hs_.val 4 rfl rfl rfl
      refine Rn.val fun K_ hK_ => ?_
      go_simp
      refine (ssub_x c a _ (HG.out.ext (HX5.out.drew.trans hs_.1)) Hc.out Ha.out (by omega) (by omega)).mono ?_; rintro e W9_ ⟨rfl, e9_⟩; exact hK_.out _ e9_
    refine RnL.cons (fun g5 A_ W_ hs_ => ?_) ?_
    · have q39_ := hs_.val 2 rfl rfl rfl
      have q42_ := hs_.val 5 rfl rfl rfl
      refine Rn.val fun K_ hK_ => ?_
      go_simp
      refine (snorm a b c N _ (HG.out.ext (HX5.out.drew.trans hs_.1)) HNE.out Ha.out Hb.out Hc.out).mono ?_; rintro e W9_ ⟨rfl, e9_⟩; exact hK_.out _ e9_
    refine RnL.cons (fun g5 A_ W_ hs_ => ?_) ?_
    · refine Rn.mem fun K_ hK_ => ?_
      go_simp
      exact hK_.out
    refine RnL.cons (fun g5 A_ W_ hs_ => ?_) ?_
    · have q11_ := (hs_.mem 7 rfl rfl rfl).1
      have q43_ := hs_.val 6 rfl rfl rfl
      refine Rn.put (z := #[.string ⟨#[]⟩, .string ⟨#[]⟩, .string ⟨#[]⟩]) (t := 30) rfl fun hB K_ hK_ => ?_
      have c_0 := hB.cell 0 rfl; have f_0 := hB.free 0
      have c_1 := hB.cell 1 rfl; have f_1 := hB.free 1
      have c_2 := hB.cell 2 rfl; have f_2 := hB.free 2
      have HB := Lib.hid hB; clear hB
      go_simp
      exact hK_.out _ ((((Only.refl _ _).set 0 _).set 1 _).set 2 _) (((HB.out.set 0 _).set 1 _).set 2 _)
    exact RnL.nil
  simp only [fs, Kd.value, puts, Act.put, List.setIfInBounds_toArray, List.set_cons_zero, List.set_cons_succ, Nat.reduceAdd]
  have HX6 : Hid (Ext w w6) := Lib.hid (HX5.out.drew.trans hx_)
  have HB2_6 := Lib.hid (HB2_5.out.drew.ext hx_)
  have HB5_6 := Lib.hid (HB5_5.out.drew.ext hx_)
  have HB6_6 := Lib.hid (HB6_5.out.drew.ext hx_)
  have HB7_6 : Hid (Blk w6 (g5 7) #[.string (qs N.x), .string (qs N.y), .string (qs N.z)] 30) := Lib.hid (hm_ 7 _ _ _ _ rfl).2; have HGEB7 : Hid (w.heap.size ≤ g5 7) := Lib.hid (Nat.le_trans HX5.out.size (hm_ 7 _ _ _ _ rfl).1)
  have HNEB2B7 : Hid (i2 ≠ g5 7) := Lib.hid (Nat.ne_of_lt (Nat.lt_of_lt_of_le HB2_5.out.lt (hm_ 7 _ _ _ _ rfl).1))
  have HNEB5B7 : Hid (i5 ≠ g5 7) := Lib.hid (Nat.ne_of_lt (Nat.lt_of_lt_of_le HB5_5.out.lt (hm_ 7 _ _ _ _ rfl).1))
  have HNEB6B7 : Hid (w4.heap.size ≠ g5 7) := Lib.hid (Nat.ne_of_lt (Nat.lt_of_lt_of_le HB6_5.out.lt (hm_ 7 _ _ _ _ rfl).1))
  clear hx_ hm_ hne_
  generalize g5 7 = i7 at *
  clear g5
  have c7_0 := HB7_6.out.cell 0 rfl
  have c7_1 := HB7_6.out.cell 1 rfl
  have c7_2 := HB7_6.out.cell 2 rfl
  go_wp2_with fail
  refine (szero_f N _ HZ.out).mono ?_; rintro e w7 ⟨rfl, e7⟩
  have HX7 : Hid (Ext w w7) := Lib.hid (HX6.out.trans e7)
  have HB2_7 : Hid (Blk w7 (i2) #[.string (qs a.x), .string (qs a.y), .string (qs a.z)] 30) := Lib.hid (Blk.ext HB2_6.out e7)
  have HB5_7 : Hid (Blk w7 (i5) #[.string (qs d.x), .string (qs d.y), .string (qs d.z)] 30) := Lib.hid (Blk.ext HB5_6.out e7)
  have HB6_7 : Hid (Blk w7 (w4.heap.size) #[.string (qs N.x), .string (qs N.y), .string (qs N.z), .string (qs O)] 48) := Lib.hid (Blk.ext HB6_6.out e7)
  have HB7_7 : Hid (Blk w7 (i7) #[.string (qs N.x), .string (qs N.y), .string (qs N.z)] 30) := Lib.hid (Blk.ext HB7_6.out e7)
  clear e7 c7_0 c7_1 c7_2
  go_wp2_with fail
  refine wp_name (fun W => Ext w W ∧ Blk W (i2) #[.string (qs a.x), .string (qs a.y), .string (qs a.z)] 30 ∧ Blk W (i5) #[.string (qs d.x), .string (qs d.y), .string (qs d.z)] 30 ∧ Blk W (w4.heap.size) #[.string (qs N.x), .string (qs N.y), .string (qs N.z), .string (qs O)] 48 ∧ Blk W (i7) #[.string (qs N.x), .string (qs N.y), .string (qs N.z)] 30) ⟨HX7.out, HB2_7.out, HB5_7.out, HB6_7.out, HB7_7.out⟩ ?_
  rintro w8 ⟨e8, bB2_8, bB5_8, bB6_8, bB7_8⟩
  have HX8 := Lib.hid e8; have HB2_8 := Lib.hid bB2_8; have HB5_8 := Lib.hid bB5_8; have HB6_8 := Lib.hid bB6_8; have HB7_8 := Lib.hid bB7_8
  clear e8 bB2_8 bB5_8 bB6_8 bB7_8
  refine region_lin [.val (.int .i64 0), .val (.bool false), .val (.bool false), .val (.agg #[.string (qs N.x), .string (qs N.y), .string (qs N.z), .string (qs O)]), .val (.agg #[.string (qs N.x), .string (qs N.y), .string (qs N.z)]), .val (.agg #[.string (qs N.x), .string (qs N.y), .string (qs N.z)]), .val (.agg #[.string (qs a.x), .string (qs a.y), .string (qs a.z)]), .val (.string (qs O)), .val (.agg #[.string (qs N.x), .string (qs N.y), .string (qs N.z), .string (qs O)]), .val (.bool false), .val (.bool false)] (by kernel_rfl) (by kernel_rfl) (by kernel_rfl) ?_ (fun g8 w9 hx_ hm_ hne_ => ?_)
  · skip
    refine RnL.cons (fun g8 A_ W_ hs_ => ?_) ?_
    · have q10_ := (hs_.old 10 (by kernel_rfl) : A_.tmps[10]?.getD undef = .int .i64 0)
      refine Rn.val fun K_ hK_ => ?_
      go_simp
      exact hK_.out _ (Ext.refl _)
    refine RnL.cons (fun g8 A_ W_ hs_ => ?_) ?_
    · have q53_ := hs_.val 0 rfl rfl rfl
      refine Rn.val fun K_ hK_ => ?_
      go_simp
      exact hK_.out _ (Ext.refl _)
    refine RnL.cons (fun g8 A_ W_ hs_ => ?_) ?_
    · have q54_ := hs_.val 1 rfl rfl rfl
      refine Rn.val fun K_ hK_ => ?_
      go_simp
      exact hK_.out _ (Ext.refl _)
    refine RnL.cons (fun g8 A_ W_ hs_ => ?_) ?_
    · have q9_ := (hs_.old 9 (by kernel_rfl) : A_.tmps[9]?.getD undef = .pointer (some ⟨w4.heap.size, 0, none⟩))
      have cB6_0 := (HB6_8.out.drew.ext hs_.1).cell 0 rfl
      have cB6_1 := (HB6_8.out.drew.ext hs_.1).cell 1 rfl
      have cB6_2 := (HB6_8.out.drew.ext hs_.1).cell 2 rfl
      have cB6_3 := (HB6_8.out.drew.ext hs_.1).cell 3 rfl
      refine Rn.val fun K_ hK_ => ?_
      go_simp
      exact hK_.out _ (Ext.refl _)
    refine RnL.cons (fun g8 A_ W_ hs_ => ?_) ?_
    · have q11_ := (hs_.old 11 (by kernel_rfl) : A_.tmps[11]?.getD undef = .pointer (some ⟨i7, 0, none⟩))
      have cB7_0 := (HB7_8.out.drew.ext hs_.1).cell 0 rfl
      have cB7_1 := (HB7_8.out.drew.ext hs_.1).cell 1 rfl
      have cB7_2 := (HB7_8.out.drew.ext hs_.1).cell 2 rfl
      refine Rn.val fun K_ hK_ => ?_
      go_simp
      exact hK_.out _ (Ext.refl _)
    refine RnL.cons (fun g8 A_ W_ hs_ => ?_) ?_
    · have q11_ := (hs_.old 11 (by kernel_rfl) : A_.tmps[11]?.getD undef = .pointer (some ⟨i7, 0, none⟩))
      have cB7_0 := (HB7_8.out.drew.ext hs_.1).cell 0 rfl
      have cB7_1 := (HB7_8.out.drew.ext hs_.1).cell 1 rfl
      have cB7_2 := (HB7_8.out.drew.ext hs_.1).cell 2 rfl
      refine Rn.val fun K_ hK_ => ?_
      go_simp
      exact hK_.out _ (Ext.refl _)
    refine RnL.cons (fun g8 A_ W_ hs_ => ?_) ?_
    · have q5_ := (hs_.old 5 (by kernel_rfl) : A_.tmps[5]?.getD undef = .pointer (some ⟨i2, 0, none⟩))
      have cB2_0 := (HB2_8.out.drew.ext hs_.1).cell 0 rfl
      have cB2_1 := (HB2_8.out.drew.ext hs_.1).cell 1 rfl
      have cB2_2 := (HB2_8.out.drew.ext hs_.1).cell 2 rfl
      refine Rn.val fun K_ hK_ => ?_
      go_simp
      exact hK_.out _ (Ext.refl _)
    refine RnL.cons (fun g8 A_ W_ hs_ => ?_) ?_
    · have q58_ := hs_.val 5 rfl rfl rfl
      have q59_ := hs_.val 6 rfl rfl rfl
      refine Rn.val fun K_ hK_ => ?_
      go_simp
      refine (sdot_n N a O _ (HG.out.ext (HX8.out.drew.trans hs_.1)) HOE.out HN.out Ha.out (by decide) (by decide)).mono ?_; rintro e W9_ ⟨rfl, e9_⟩; exact hK_.out _ e9_
    refine RnL.cons (fun g8 A_ W_ hs_ => ?_) ?_
    · have q57_ := hs_.val 4 rfl rfl rfl
      have q60_ := hs_.val 7 rfl rfl rfl
      refine Rn.val fun K_ hK_ => ?_
      go_simp
      exact hK_.out _ (Ext.refl _)
    refine RnL.cons (fun g8 A_ W_ hs_ => ?_) ?_
    · have q56_ := hs_.val 3 rfl rfl rfl
      have q61_ := hs_.val 8 rfl rfl rfl
      refine Rn.val fun K_ hK_ => ?_
      go_simp
      exact hK_.out _ (Ext.refl _)
    refine RnL.cons (fun g8 A_ W_ hs_ => ?_) ?_
    · have q55_ := hs_.val 2 rfl rfl rfl
      have q62_ := hs_.val 9 rfl rfl rfl
      refine Rn.val fun K_ hK_ => ?_
      go_simp
      exact hK_.out _ (Ext.refl _)
    exact RnL.nil
  simp only [fs, Kd.value, puts, Act.put, List.setIfInBounds_toArray, List.set_cons_zero, List.set_cons_succ]
  have HX9 : Hid (Ext w w9) := Lib.hid (HX8.out.drew.trans hx_)
  have HB2_9 := Lib.hid (HB2_8.out.drew.ext hx_)
  have HB5_9 := Lib.hid (HB5_8.out.drew.ext hx_)
  have HB6_9 := Lib.hid (HB6_8.out.drew.ext hx_)
  have HB7_9 := Lib.hid (HB7_8.out.drew.ext hx_)
  clear hx_ hm_ hne_
  have c6_0 := HB6_9.out.cell 0 rfl
  have c6_1 := HB6_9.out.cell 1 rfl
  have c6_2 := HB6_9.out.cell 2 rfl
  have c6_3 := HB6_9.out.cell 3 rfl
  have c5_0 := HB5_9.out.cell 0 rfl
  have c5_1 := HB5_9.out.cell 1 rfl
  have c5_2 := HB5_9.out.cell 2 rfl
  go_wp2_with fail
  refine (side_n N d O B _ (HG.out.ext HX9.out) HBE.out HN.out HO.out Hd.out HZ.out).mono ?_; rintro e w10 ⟨rfl, e10⟩
  have HX10 : Hid (Ext w w10) := Lib.hid (HX9.out.trans e10)
  have HB2_10 : Hid (Blk w10 (i2) #[.string (qs a.x), .string (qs a.y), .string (qs a.z)] 30) := Lib.hid (Blk.ext HB2_9.out e10)
  have HB5_10 : Hid (Blk w10 (i5) #[.string (qs d.x), .string (qs d.y), .string (qs d.z)] 30) := Lib.hid (Blk.ext HB5_9.out e10)
  have HB6_10 : Hid (Blk w10 (w4.heap.size) #[.string (qs N.x), .string (qs N.y), .string (qs N.z), .string (qs O)] 48) := Lib.hid (Blk.ext HB6_9.out e10)
  have HB7_10 : Hid (Blk w10 (i7) #[.string (qs N.x), .string (qs N.y), .string (qs N.z)] 30) := Lib.hid (Blk.ext HB7_9.out e10)
  clear e10 c6_0 c6_1 c6_2 c6_3 c5_0 c5_1 c5_2
  have c6_0 := HB6_10.out.cell 0 rfl
  have c6_1 := HB6_10.out.cell 1 rfl
  have c6_2 := HB6_10.out.cell 2 rfl
  have c6_3 := HB6_10.out.cell 3 rfl
  have c5_0 := HB5_10.out.cell 0 rfl
  have c5_1 := HB5_10.out.cell 1 rfl
  have c5_2 := HB5_10.out.cell 2 rfl
  have c2_0 := HB2_10.out.cell 0 rfl
  have c2_1 := HB2_10.out.cell 1 rfl
  have c2_2 := HB2_10.out.cell 2 rfl
  go_wp2_with fail
  refine (pierce_1 N a d O K _ (HG.out.ext HX10.out) HOE.out HKE.out HN.out HO.out Hd.out Ha.out HZ.out HO0.out HK.out).mono ?_; rintro e w11 ⟨rfl, e11⟩
  have HX11 : Hid (Ext w w11) := Lib.hid (HX10.out.trans e11)
  have HB2_11 : Hid (Blk w11 (i2) #[.string (qs a.x), .string (qs a.y), .string (qs a.z)] 30) := Lib.hid (Blk.ext HB2_10.out e11)
  have HB5_11 : Hid (Blk w11 (i5) #[.string (qs d.x), .string (qs d.y), .string (qs d.z)] 30) := Lib.hid (Blk.ext HB5_10.out e11)
  have HB6_11 : Hid (Blk w11 (w4.heap.size) #[.string (qs N.x), .string (qs N.y), .string (qs N.z), .string (qs O)] 48) := Lib.hid (Blk.ext HB6_10.out e11)
  have HB7_11 : Hid (Blk w11 (i7) #[.string (qs N.x), .string (qs N.y), .string (qs N.z)] 30) := Lib.hid (Blk.ext HB7_10.out e11)
  clear e11 c6_0 c6_1 c6_2 c6_3 c5_0 c5_1 c5_2 c2_0 c2_1 c2_2
  have c6_0 := HB6_11.out.cell 0 rfl
  have c6_1 := HB6_11.out.cell 1 rfl
  have c6_2 := HB6_11.out.cell 2 rfl
  have c6_3 := HB6_11.out.cell 3 rfl
  have c5_0 := HB5_11.out.cell 0 rfl
  have c5_1 := HB5_11.out.cell 1 rfl
  have c5_2 := HB5_11.out.cell 2 rfl
  go_wp2_with fail
  refine (beyond_n N d O B _ (HG.out.ext HX11.out) HBE.out (HN.out.mono (by decide)) HO.out Hd.out (by decide) (by decide)).mono ?_; rintro e w12 ⟨rfl, e12⟩
  have HX12 : Hid (Ext w w12) := Lib.hid (HX11.out.trans e12)
  have HB2_12 : Hid (Blk w12 (i2) #[.string (qs a.x), .string (qs a.y), .string (qs a.z)] 30) := Lib.hid (Blk.ext HB2_11.out e12)
  have HB5_12 : Hid (Blk w12 (i5) #[.string (qs d.x), .string (qs d.y), .string (qs d.z)] 30) := Lib.hid (Blk.ext HB5_11.out e12)
  have HB6_12 : Hid (Blk w12 (w4.heap.size) #[.string (qs N.x), .string (qs N.y), .string (qs N.z), .string (qs O)] 48) := Lib.hid (Blk.ext HB6_11.out e12)
  have HB7_12 : Hid (Blk w12 (i7) #[.string (qs N.x), .string (qs N.y), .string (qs N.z)] 30) := Lib.hid (Blk.ext HB7_11.out e12)
  clear e12 c6_0 c6_1 c6_2 c6_3 c5_0 c5_1 c5_2
  go_wp2_with fail
  refine (fqsign_c B _).mono ?_; rintro e _ ⟨rfl, rfl⟩
  have c7_0 := HB7_12.out.cell 0 rfl
  have c7_1 := HB7_12.out.cell 1 rfl
  have c7_2 := HB7_12.out.cell 2 rfl
  have c2_0 := HB2_12.out.cell 0 rfl
  have c2_1 := HB2_12.out.cell 1 rfl
  have c2_2 := HB2_12.out.cell 2 rfl
  go_wp2_with fail
  refine (sdot_n N a O _ (HG.out.ext HX12.out) HOE.out HN.out Ha.out (by decide) (by decide)).mono ?_; rintro e w13 ⟨rfl, e13⟩
  have HX13 : Hid (Ext w w13) := Lib.hid (HX12.out.trans e13)
  have HB2_13 : Hid (Blk w13 (i2) #[.string (qs a.x), .string (qs a.y), .string (qs a.z)] 30) := Lib.hid (Blk.ext HB2_12.out e13)
  have HB5_13 : Hid (Blk w13 (i5) #[.string (qs d.x), .string (qs d.y), .string (qs d.z)] 30) := Lib.hid (Blk.ext HB5_12.out e13)
  have HB6_13 : Hid (Blk w13 (w4.heap.size) #[.string (qs N.x), .string (qs N.y), .string (qs N.z), .string (qs O)] 48) := Lib.hid (Blk.ext HB6_12.out e13)
  clear e13 c7_0 c7_1 c7_2 c2_0 c2_1 c2_2
  go_wp2_with fail
  refine wp_name (fun W => Ext w W ∧ Blk W (i2) #[.string (qs a.x), .string (qs a.y), .string (qs a.z)] 30 ∧ Blk W (i5) #[.string (qs d.x), .string (qs d.y), .string (qs d.z)] 30 ∧ Blk W (w4.heap.size) #[.string (qs N.x), .string (qs N.y), .string (qs N.z), .string (qs O)] 48) ⟨HX13.out, HB2_13.out, HB5_13.out, HB6_13.out⟩ ?_
  rintro w14 ⟨e14, bB2_14, bB5_14, bB6_14⟩
  have HX14 := Lib.hid e14; have HB2_14 := Lib.hid bB2_14; have HB5_14 := Lib.hid bB5_14; have HB6_14 := Lib.hid bB6_14
  clear e14 bB2_14 bB5_14 bB6_14
  refine region_lin [.val (.int .i64 0), .val (.bool true), .val (.bool true), .val (.agg #[.string (qs N.x), .string (qs N.y), .string (qs N.z), .string (qs O)]), .val (.agg #[.string (qs d.x), .string (qs d.y), .string (qs d.z)]), .val (.agg #[.string (qs a.x), .string (qs a.y), .string (qs a.z)]), .val (.string (qs K)), .val (.agg #[.string (qs (a.x * K)), .string (qs (a.y * K)), .string (qs (a.z * K))]), .val (.agg #[.string (qs (d.x + a.x * K)), .string (qs (d.y + a.y * K)), .string (qs (d.z + a.z * K))]), .val (.string ⟨#[48]⟩), .val (.bool true), .val (.bool true), .val (.bool true)] (by kernel_rfl) (by kernel_rfl) (by kernel_rfl) ?_ (fun g14 w15 hx_ hm_ hne_ => ?_)
  · skip
    refine RnL.cons (fun g14 A_ W_ hs_ => ?_) ?_
    · have q15_ := (hs_.old 15 (by kernel_rfl) : A_.tmps[15]?.getD undef = .int .i64 0)
      refine Rn.val fun K_ hK_ => ?_
      go_simp
      exact hK_.out _ (Ext.refl _)
    refine RnL.cons (fun g14 A_ W_ hs_ => ?_) ?_
    · have q97_ := hs_.val 0 rfl rfl rfl
      refine Rn.val fun K_ hK_ => ?_
      go_simp
      exact hK_.out _ (Ext.refl _)
    refine RnL.cons (fun g14 A_ W_ hs_ => ?_) ?_
    · have q98_ := hs_.val 1 rfl rfl rfl
      refine Rn.val fun K_ hK_ => ?_
      go_simp
      exact hK_.out _ (Ext.refl _)
    refine RnL.cons (fun g14 A_ W_ hs_ => ?_) ?_
    · have q9_ := (hs_.old 9 (by kernel_rfl) : A_.tmps[9]?.getD undef = .pointer (some ⟨w4.heap.size, 0, none⟩))
      have cB6_0 := (HB6_14.out.drew.ext hs_.1).cell 0 rfl
      have cB6_1 := (HB6_14.out.drew.ext hs_.1).cell 1 rfl
      have cB6_2 := (HB6_14.out.drew.ext hs_.1).cell 2 rfl
      have cB6_3 := (HB6_14.out.drew.ext hs_.1).cell 3 rfl
      refine Rn.val fun K_ hK_ => ?_
      go_simp
      exact hK_.out _ (Ext.refl _)
    refine RnL.cons (fun g14 A_ W_ hs_ => ?_) ?_
    · have q8_ := (hs_.old 8 (by kernel_rfl) : A_.tmps[8]?.getD undef = .pointer (some ⟨i5, 0, none⟩))
      have cB5_0 := (HB5_14.out.drew.ext hs_.1).cell 0 rfl
      have cB5_1 := (HB5_14.out.drew.ext hs_.1).cell 1 rfl
      have cB5_2 := (HB5_14.out.drew.ext hs_.1).cell 2 rfl
      refine Rn.val fun K_ hK_ => ?_
      go_simp
      exact hK_.out _ (Ext.refl _)
    refine RnL.cons (fun g14 A_ W_ hs_ => ?_) ?_
    · have q5_ := (hs_.old 5 (by kernel_rfl) : A_.tmps[5]?.getD undef = .pointer (some ⟨i2, 0, none⟩))
      have cB2_0 := (HB2_14.out.drew.ext hs_.1).cell 0 rfl
      have cB2_1 := (HB2_14.out.drew.ext hs_.1).cell 1 rfl
      have cB2_2 := (HB2_14.out.drew.ext hs_.1).cell 2 rfl
      refine Rn.val fun K_ hK_ => ?_
      go_simp
      exact hK_.out _ (Ext.refl _)
    refine RnL.cons (fun g14 A_ W_ hs_ => ?_) ?_
    · have q14_ := (hs_.old 14 (by kernel_rfl) : A_.tmps[14]?.getD undef = .string (qs K))
      refine Rn.val fun K_ hK_ => ?_
      go_simp
      exact hK_.out _ (Ext.refl _)
    refine RnL.cons (fun g14 A_ W_ hs_ => ?_) ?_
    · have q102_ := hs_.val 5 rfl rfl rfl
      have q103_ := hs_.val 6 rfl rfl rfl
      refine Rn.val fun K_ hK_ => ?_
      go_simp
      refine (sscale_x a K _ (HG.out.ext (HX14.out.drew.trans hs_.1)) Ha.out HK.out (by omega) (by omega)).mono ?_; rintro e W9_ ⟨rfl, e9_⟩; exact hK_.out _ e9_
    refine RnL.cons (fun g14 A_ W_ hs_ => ?_) ?_
    · have q101_ := hs_.val 4 rfl rfl rfl
      have q104_ := hs_.val 7 rfl rfl rfl
      refine Rn.val fun K_ hK_ => ?_
      go_simp
      refine (sadd_x d ⟨a.x * K, a.y * K, a.z * K⟩ _ (HG.out.ext (HX14.out.drew.trans hs_.1)) Hd.out ⟨(Ha.out.x.mul HK.out), (Ha.out.y.mul HK.out), (Ha.out.z.mul HK.out)⟩ (by omega) (by omega)).mono ?_; rintro e W9_ ⟨rfl, e9_⟩; exact hK_.out _ e9_
    refine RnL.cons (fun g14 A_ W_ hs_ => ?_) ?_
    · have q100_ := hs_.val 3 rfl rfl rfl
      have q105_ := hs_.val 8 rfl rfl rfl
      refine Rn.val fun K_ hK_ => ?_
      go_simp
      refine (beyond_0 N ⟨d.x + a.x * K, d.y + a.y * K, d.z + a.z * K⟩ O _ (HG.out.ext (HX14.out.drew.trans hs_.1)) HB0.out (HN.out.mono (by decide : 31 ≤ 92)) HO.out (⟨((Hd.out.x.add (Ha.out.x.mul HK.out)).mono (by omega)), ((Hd.out.y.add (Ha.out.y.mul HK.out)).mono (by omega)), ((Hd.out.z.add (Ha.out.z.mul HK.out)).mono (by omega))⟩ : VB 300 _) (by decide) (by decide)).mono ?_; rintro e W9_ ⟨rfl, e9_⟩; exact hK_.out _ e9_
    refine RnL.cons (fun g14 A_ W_ hs_ => ?_) ?_
    · have q106_ := hs_.val 9 rfl rfl rfl
      refine Rn.val fun K_ hK_ => ?_
      go_simp
      exact hK_.out _ (Ext.refl _)
    refine RnL.cons (fun g14 A_ W_ hs_ => ?_) ?_
    · have q99_ := hs_.val 2 rfl rfl rfl
      have q107_ := hs_.val 10 rfl rfl rfl
      refine Rn.val fun K_ hK_ => ?_
      go_simp
      exact hK_.out _ (Ext.refl _)
    refine RnL.cons (fun g14 A_ W_ hs_ => ?_) ?_
    · have q108_ := hs_.val 11 rfl rfl rfl
      refine Rn.val fun K_ hK_ => ?_
      go_simp
      exact hK_.out _ (Ext.refl _)
    exact RnL.nil
  simp only [fs, Kd.value, puts, Act.put, List.setIfInBounds_toArray, List.set_cons_zero, List.set_cons_succ]
  have HX15 : Hid (Ext w w15) := Lib.hid (HX14.out.drew.trans hx_)
  clear hx_ hm_ hne_
  go_wp2
  go_ret
  exact ⟨rfl, HX15.out⟩

theorem planes_walk (p q r s : Pla) (w : World) (g : Gd w) (hp : PlaOk p) (hq : PlaOk q) (hr : PlaOk r) (hs : PlaOk s) : Calls Tryz.prog 9 #[.agg #[.int .i16 p.n0, .int .u8 (p.d0 : Int), .int .i16 p.n1, .int .u8 (p.d1 : Int), .int .i16 p.n2, .int .u8 (p.d2 : Int), .int .i16 q.n0, .int .u8 (q.d0 : Int), .int .i16 q.n1, .int .u8 (q.d1 : Int), .int .i16 q.n2, .int .u8 (q.d2 : Int)], .agg #[.int .i16 r.n0, .int .u8 (r.d0 : Int), .int .i16 r.n1, .int .u8 (r.d1 : Int), .int .i16 r.n2, .int .u8 (r.d2 : Int), .int .i16 s.n0, .int .u8 (s.d0 : Int), .int .i16 s.n1, .int .u8 (s.d1 : Int), .int .i16 s.n2, .int .u8 (s.d2 : Int)]] w (Ret w (.bool true)) := by
  by_cases hz : (vnorm (pvec p) (pvec q) (pvec r)).x = 0 ∧ (vnorm (pvec p) (pvec q) (pvec r)).y = 0 ∧ (vnorm (pvec p) (pvec q) (pvec r)).z = 0
  · exact planes_walk0 p q r s w g hp hq hr hs hz
  · by_cases ho : dotl (vnorm (pvec p) (pvec q) (pvec r)) (pvec p) = 0
    · exact planes_walk1 p q r s w g hp hq hr hs hz ho
    · exact planes_walk2 p q r s w g hp hq hr hs hz ho
end Go.Proofs.YtglppcmegocphaaGreatDoor
