/- Part 25 of the proof: L3. -/
import Derived.Test.YtglppcmegocphaaGreatDoorQVS23
import Derived.Test.YtglppcmegocphaaGreatDoorQVS24
namespace Go.Proofs.YtglppcmegocphaaGreatDoor
open Go Go.RowKit
set_option maxRecDepth 100000 in
set_option maxHeartbeats 40000000 in
theorem sums_walk (p q : Pla) (n : Int) (d : Nat) (w : World) (g : Gd w) (hp : PlaOk p) (hq : PlaOk q) (hn : -32768 ≤ n ∧ n ≤ 32767 ∧ d ≤ 255) : Calls Tryz.prog 6 #[.agg #[.int .i16 p.n0, .int .u8 (p.d0 : Int), .int .i16 p.n1, .int .u8 (p.d1 : Int), .int .i16 p.n2, .int .u8 (p.d2 : Int), .int .i16 q.n0, .int .u8 (q.d0 : Int), .int .i16 q.n1, .int .u8 (q.d1 : Int), .int .i16 q.n2, .int .u8 (q.d2 : Int)], .agg #[.int .i16 n, .int .u8 (d : Int)]] w (Ret w (.bool true)) := by
  have Hp := Lib.hid hp
  have Hq := Lib.hid hq
  have HG := Lib.hid g
  clear hp hq g
  obtain ⟨a, ea⟩ : ∃ a, pvec p = a := ⟨_, rfl⟩
  have HaE := Lib.hid ea; have Ha : Hid (VB 5 a) := Lib.hid (ea ▸ Hp.out.v); clear ea
  obtain ⟨b, eb⟩ : ∃ b, pvec q = b := ⟨_, rfl⟩
  have HbE := Lib.hid eb; have Hb : Hid (VB 5 b) := Lib.hid (eb ▸ Hq.out.v); clear eb
  have Hk0 := Lib.hid hn; clear hn
  obtain ⟨k, ek⟩ : ∃ k, sm n d = k := ⟨_, rfl⟩
  have HkE := Lib.hid ek; have Hk : Hid (QB 5 k) := Lib.hid (ek ▸ sm_qb Hk0.out.1 Hk0.out.2.1 Hk0.out.2.2); clear ek
  have hdot := qs_eqL (show a.x * b.x + a.y * b.y + a.z * b.z = a.x * b.x + (a.y * b.y + a.z * b.z) from by grind)
  go_enter Tryz.func6, Tryz.ntmps6
  go_wp2_with fail
  refine (known_c _ (HG.out.ext (((Ext.refl w).alloc _).alloc _))).mono ?_; rintro e w1 ⟨rfl, e1⟩
  have HX1 : Hid (Ext w w1) := Lib.hid ((((Ext.refl w).alloc _).alloc _).trans e1)
  have HB0_1 : Hid (Blk w1 (w.heap.size) #[.int .i16 p.n0, .int .u8 (p.d0 : Int), .int .i16 p.n1, .int .u8 (p.d1 : Int), .int .i16 p.n2, .int .u8 (p.d2 : Int), .int .i16 q.n0, .int .u8 (q.d0 : Int), .int .i16 q.n1, .int .u8 (q.d1 : Int), .int .i16 q.n2, .int .u8 (q.d2 : Int)] 44) := Lib.hid (Blk.ext ((Blk.new' (w := _) (cs := #[.int .i16 p.n0, .int .u8 (p.d0 : Int), .int .i16 p.n1, .int .u8 (p.d1 : Int), .int .i16 p.n2, .int .u8 (p.d2 : Int), .int .i16 q.n0, .int .u8 (q.d0 : Int), .int .i16 q.n1, .int .u8 (q.d1 : Int), .int .i16 q.n2, .int .u8 (q.d2 : Int)]) (t := 44) (by first | rfl | (simp only [World.size_alloc]; done) | (simp only [World.size_alloc]; omega) | simp)).alloc _) e1)
  have HB1_1 : Hid (Blk w1 (w.heap.size + 1) #[.int .i16 n, .int .u8 (d : Int)] 24) := Lib.hid (Blk.ext (Blk.new' (w := _) (cs := #[.int .i16 n, .int .u8 (d : Int)]) (t := 24) (by first | rfl | (simp only [World.size_alloc]; done) | (simp only [World.size_alloc]; omega) | simp)) e1)
  have HGEB0 : Hid (w.heap.size ≤ w.heap.size) := Lib.hid (by first | omega | (simp only []; omega) | (simp; omega))
  have HGEB1 : Hid (w.heap.size ≤ w.heap.size + 1) := Lib.hid (by first | omega | (simp only []; omega) | (simp; omega))
  clear e1
  go_wp2_with fail
  refine wp_name (fun W => Ext w W ∧ Blk W (w.heap.size) #[.int .i16 p.n0, .int .u8 (p.d0 : Int), .int .i16 p.n1, .int .u8 (p.d1 : Int), .int .i16 p.n2, .int .u8 (p.d2 : Int), .int .i16 q.n0, .int .u8 (q.d0 : Int), .int .i16 q.n1, .int .u8 (q.d1 : Int), .int .i16 q.n2, .int .u8 (q.d2 : Int)] 44 ∧ Blk W (w.heap.size + 1) #[.int .i16 n, .int .u8 (d : Int)] 24) ⟨HX1.out, HB0_1.out, HB1_1.out⟩ ?_
  rintro w2 ⟨e2, bB0_2, bB1_2⟩
  have HX2 := Lib.hid e2; have HB0_2 := Lib.hid bB0_2; have HB1_2 := Lib.hid bB1_2
  clear e2 bB0_2 bB1_2
  refine region_lin [.val (.pointer (some ⟨w.heap.size, 0, none⟩)), .val (.agg #[.int .i16 p.n0, .int .u8 (p.d0 : Int), .int .i16 p.n1, .int .u8 (p.d1 : Int), .int .i16 p.n2, .int .u8 (p.d2 : Int)]), .val (.agg #[.string (qs a.x), .string (qs a.y), .string (qs a.z)]), .val (.pointer (some ⟨w.heap.size, 6, none⟩)), .val (.agg #[.int .i16 q.n0, .int .u8 (q.d0 : Int), .int .i16 q.n1, .int .u8 (q.d1 : Int), .int .i16 q.n2, .int .u8 (q.d2 : Int)]), .val (.agg #[.string (qs b.x), .string (qs b.y), .string (qs b.z)]), .val (.agg #[.int .i16 n, .int .u8 (d : Int)]), .val (.string (qs k)), .mem (fun b_ => .pointer (some ⟨b_, 0, none⟩)) #[.string ⟨#[]⟩, .string ⟨#[]⟩, .string ⟨#[]⟩] 30 (Option.some 10), .mem (fun b_ => .pointer (some ⟨b_, 0, none⟩)) #[.string ⟨#[]⟩, .string ⟨#[]⟩, .string ⟨#[]⟩] 30 (Option.some 11), .put 8 #[.string (qs a.x), .string (qs a.y), .string (qs a.z)], .put 9 #[.string (qs b.x), .string (qs b.y), .string (qs b.z)], .val (.string (qs k))] (by kernel_rfl) (by kernel_rfl) (by kernel_rfl) ?_ (fun g2 w3 hx hm hne => ?_)
  · skip
    refine RnL.cons (fun g2 A_ W_ hs => ?_) ?_
    · have q2 := (hs.old 2 (by kernel_rfl) : A_.tmps[2]?.getD undef = .pointer (some ⟨w.heap.size, 0, none⟩))
      refine Rn.val fun K hK => ?_
      go_simp
      exact hK.out _ (Ext.refl _)
    refine RnL.cons (fun g2 A_ W_ hs => ?_) ?_
    · have q24 := hs.val 0 rfl rfl rfl
      have cB0_0 := (HB0_2.out.drew.ext hs.1).cell 0 rfl
      have cB0_1 := (HB0_2.out.drew.ext hs.1).cell 1 rfl
      have cB0_2 := (HB0_2.out.drew.ext hs.1).cell 2 rfl
      have cB0_3 := (HB0_2.out.drew.ext hs.1).cell 3 rfl
      have cB0_4 := (HB0_2.out.drew.ext hs.1).cell 4 rfl
      have cB0_5 := (HB0_2.out.drew.ext hs.1).cell 5 rfl
      refine Rn.val fun K hK => ?_
      go_simp
      exact hK.out _ (Ext.refl _)
    refine RnL.cons (fun g2 A_ W_ hs => ?_) ?_
    · have q25 := hs.val 1 rfl rfl rfl
      refine Rn.val fun K hK => ?_
      go_simp
      refine ((HaE.out ▸ make_c p _ (HG.out.ext (HX2.out.drew.trans hs.1)) Hp.out)).mono ?_; rintro e W9_ ⟨rfl, e9_⟩; exact hK.out _ e9_
    refine RnL.cons (fun g2 A_ W_ hs => ?_) ?_
    · have q2 := (hs.old 2 (by kernel_rfl) : A_.tmps[2]?.getD undef = .pointer (some ⟨w.heap.size, 0, none⟩))
      refine Rn.val fun K hK => ?_
      go_simp
      exact hK.out _ (Ext.refl _)
    refine RnL.cons (fun g2 A_ W_ hs => ?_) ?_
    · have q27 := hs.val 3 rfl rfl rfl
      have cB0_6 := (HB0_2.out.drew.ext hs.1).cell 6 rfl
      have cB0_7 := (HB0_2.out.drew.ext hs.1).cell 7 rfl
      have cB0_8 := (HB0_2.out.drew.ext hs.1).cell 8 rfl
      have cB0_9 := (HB0_2.out.drew.ext hs.1).cell 9 rfl
      have cB0_10 := (HB0_2.out.drew.ext hs.1).cell 10 rfl
      have cB0_11 := (HB0_2.out.drew.ext hs.1).cell 11 rfl
      refine Rn.val fun K hK => ?_
      go_simp
      exact hK.out _ (Ext.refl _)
    refine RnL.cons (fun g2 A_ W_ hs => ?_) ?_
    · have q28 := hs.val 4 rfl rfl rfl
      refine Rn.val fun K hK => ?_
      go_simp
      refine ((HbE.out ▸ make_c q _ (HG.out.ext (HX2.out.drew.trans hs.1)) Hq.out)).mono ?_; rintro e W9_ ⟨rfl, e9_⟩; exact hK.out _ e9_
    refine RnL.cons (fun g2 A_ W_ hs => ?_) ?_
    · have q3 := (hs.old 3 (by kernel_rfl) : A_.tmps[3]?.getD undef = .pointer (some ⟨w.heap.size + 1, 0, none⟩))
      have cB1_0 := (HB1_2.out.drew.ext hs.1).cell 0 rfl
      have cB1_1 := (HB1_2.out.drew.ext hs.1).cell 1 rfl
      refine Rn.val fun K hK => ?_
      go_simp
      exact hK.out _ (Ext.refl _)
    refine RnL.cons (fun g2 A_ W_ hs => ?_) ?_
    · have q30 := hs.val 6 rfl rfl rfl
      refine Rn.val fun K hK => ?_
      go_simp
      refine ((HkE.out ▸ mk2_c n d _ (HG.out.ext (HX2.out.drew.trans hs.1)) Hk0.out.1 Hk0.out.2.1 Hk0.out.2.2)).mono ?_; rintro e W9_ ⟨rfl, e9_⟩; exact hK.out _ e9_
    refine RnL.cons (fun g2 A_ W_ hs => ?_) ?_
    · refine Rn.mem fun K hK => ?_
      go_simp
      exact hK.out
    refine RnL.cons (fun g2 A_ W_ hs => ?_) ?_
    · refine Rn.mem fun K hK => ?_
      go_simp
      exact hK.out
    refine RnL.cons (fun g2 A_ W_ hs => ?_) ?_
    · have q5 := (hs.mem 8 rfl rfl rfl).1
      have q26 := hs.val 2 rfl rfl rfl
      refine Rn.put (z := #[.string ⟨#[]⟩, .string ⟨#[]⟩, .string ⟨#[]⟩]) (t := 30) rfl fun hB K hK => ?_
      have c_0 := hB.cell 0 rfl; have f_0 := hB.free 0
      have c_1 := hB.cell 1 rfl; have f_1 := hB.free 1
      have c_2 := hB.cell 2 rfl; have f_2 := hB.free 2
      have HB := Lib.hid hB; clear hB
      go_simp
      exact hK.out _ ((((Only.refl _ _).set 0 _).set 1 _).set 2 _) (((HB.out.set 0 _).set 1 _).set 2 _)
    refine RnL.cons (fun g2 A_ W_ hs => ?_) ?_
    · have q6 := (hs.mem 9 rfl rfl rfl).1
      have q29 := hs.val 5 rfl rfl rfl
      refine Rn.put (z := #[.string ⟨#[]⟩, .string ⟨#[]⟩, .string ⟨#[]⟩]) (t := 30) rfl fun hB K hK => ?_
      have c_0 := hB.cell 0 rfl; have f_0 := hB.free 0
      have c_1 := hB.cell 1 rfl; have f_1 := hB.free 1
      have c_2 := hB.cell 2 rfl; have f_2 := hB.free 2
      have HB := Lib.hid hB; clear hB
      go_simp
      exact hK.out _ ((((Only.refl _ _).set 0 _).set 1 _).set 2 _) (((HB.out.set 0 _).set 1 _).set 2 _)
    refine RnL.cons (fun g2 A_ W_ hs => ?_) ?_
    · have q31 := hs.val 7 rfl rfl rfl
      refine Rn.val fun K hK => ?_
      go_simp
      exact hK.out _ (Ext.refl _)
    exact RnL.nil
  simp only [fs, Kd.value, puts, Act.put, List.setIfInBounds_toArray, List.set_cons_zero, List.set_cons_succ, Nat.reduceAdd]
  have HX3 : Hid (Ext w w3) := Lib.hid (HX2.out.drew.trans hx)
  have HB2_3 : Hid (Blk w3 (g2 8) #[.string (qs a.x), .string (qs a.y), .string (qs a.z)] 30) := Lib.hid (hm 8 _ _ _ _ rfl).2; have HGEB2 : Hid (w.heap.size ≤ g2 8) := Lib.hid (Nat.le_trans HX2.out.size (hm 8 _ _ _ _ rfl).1)
  have HB3_3 : Hid (Blk w3 (g2 9) #[.string (qs b.x), .string (qs b.y), .string (qs b.z)] 30) := Lib.hid (hm 9 _ _ _ _ rfl).2; have HGEB3 : Hid (w.heap.size ≤ g2 9) := Lib.hid (Nat.le_trans HX2.out.size (hm 9 _ _ _ _ rfl).1)
  have HNEB2B3 : Hid (g2 8 ≠ g2 9) := Lib.hid (hne 8 9 (by decide) ⟨_, _, _, _, rfl⟩ ⟨_, _, _, _, rfl⟩)
  clear hx hm hne
  generalize g2 8 = i2 at *
  generalize g2 9 = i3 at *
  clear g2
  have c2_0 := HB2_3.out.cell 0 rfl
  have c2_1 := HB2_3.out.cell 1 rfl
  have c2_2 := HB2_3.out.cell 2 rfl
  have c3_0 := HB3_3.out.cell 0 rfl
  have c3_1 := HB3_3.out.cell 1 rfl
  have c3_2 := HB3_3.out.cell 2 rfl
  go_wp2_with fail
  refine (vAdd_ok a b _ (HG.out.ext HX3.out) (Ha.out.mono (by omega)) (Hb.out.mono (by omega)) ⟨((Ha.out.x.add Hb.out.x).mono (by omega)), ((Ha.out.y.add Hb.out.y).mono (by omega)), ((Ha.out.z.add Hb.out.z).mono (by omega))⟩).mono ?_; rintro e w4 ⟨rfl, e4⟩
  have HX4 : Hid (Ext w w4) := Lib.hid (HX3.out.trans e4)
  have HB2_4 : Hid (Blk w4 (i2) #[.string (qs a.x), .string (qs a.y), .string (qs a.z)] 30) := Lib.hid (Blk.ext HB2_3.out e4)
  have HB3_4 : Hid (Blk w4 (i3) #[.string (qs b.x), .string (qs b.y), .string (qs b.z)] 30) := Lib.hid (Blk.ext HB3_3.out e4)
  clear e4 c2_0 c2_1 c2_2 c3_0 c3_1 c3_2
  go_upto_region 5 with fail
  refine wp_name (fun W => Ext w W ∧ Blk W (i2) #[.string (qs a.x), .string (qs a.y), .string (qs a.z)] 30 ∧ Blk W (i3) #[.string (qs b.x), .string (qs b.y), .string (qs b.z)] 30 ∧ Blk W (w4.heap.size) #[.string (qs (a.x + b.x)), .string (qs (a.y + b.y)), .string (qs (a.z + b.z))] 30) ⟨(HX4.out.alloc _), (HB2_4.out.alloc _), (HB3_4.out.alloc _), (Blk.new' (w := _) (cs := #[.string (qs (a.x + b.x)), .string (qs (a.y + b.y)), .string (qs (a.z + b.z))]) (t := 30) (by first | rfl | (simp only [World.size_alloc]; done) | (simp only [World.size_alloc]; omega) | simp))⟩ ?_
  rintro w5 ⟨e5, bB2_5, bB3_5, bB4_5⟩
  have HX5 := Lib.hid e5; have HB2_5 := Lib.hid bB2_5; have HB3_5 := Lib.hid bB3_5; have HB4_5 := Lib.hid bB4_5
  have HGEB4 : Hid (w.heap.size ≤ w4.heap.size) := Lib.hid (by have := HX4.out.size; first | omega | (simp only []; omega) | (simp; omega))
  clear e5 bB2_5 bB3_5 bB4_5
  have c2_0 := HB2_5.out.cell 0 rfl
  have c2_1 := HB2_5.out.cell 1 rfl
  have c2_2 := HB2_5.out.cell 2 rfl
  have c3_0 := HB3_5.out.cell 0 rfl
  have c3_1 := HB3_5.out.cell 1 rfl
  have c3_2 := HB3_5.out.cell 2 rfl
  go_wp2_with fail
  refine (vSub_ok a b _ (HG.out.ext HX5.out) (Ha.out.mono (by omega)) (Hb.out.mono (by omega)) ⟨((Ha.out.x.sub Hb.out.x).mono (by omega)), ((Ha.out.y.sub Hb.out.y).mono (by omega)), ((Ha.out.z.sub Hb.out.z).mono (by omega))⟩).mono ?_; rintro e w6 ⟨rfl, e6⟩
  have HX6 : Hid (Ext w w6) := Lib.hid (HX5.out.trans e6)
  have HB2_6 : Hid (Blk w6 (i2) #[.string (qs a.x), .string (qs a.y), .string (qs a.z)] 30) := Lib.hid (Blk.ext HB2_5.out e6)
  have HB3_6 : Hid (Blk w6 (i3) #[.string (qs b.x), .string (qs b.y), .string (qs b.z)] 30) := Lib.hid (Blk.ext HB3_5.out e6)
  have HB4_6 : Hid (Blk w6 (w4.heap.size) #[.string (qs (a.x + b.x)), .string (qs (a.y + b.y)), .string (qs (a.z + b.z))] 30) := Lib.hid (Blk.ext HB4_5.out e6)
  clear e6 c2_0 c2_1 c2_2 c3_0 c3_1 c3_2
  go_upto_region 6 with fail
  refine wp_name (fun W => Ext w W ∧ Blk W (i2) #[.string (qs a.x), .string (qs a.y), .string (qs a.z)] 30 ∧ Blk W (i3) #[.string (qs b.x), .string (qs b.y), .string (qs b.z)] 30 ∧ Blk W (w4.heap.size) #[.string (qs (a.x + b.x)), .string (qs (a.y + b.y)), .string (qs (a.z + b.z))] 30 ∧ Blk W (w6.heap.size) #[.string (qs (a.x - b.x)), .string (qs (a.y - b.y)), .string (qs (a.z - b.z))] 30) ⟨(HX6.out.alloc _), (HB2_6.out.alloc _), (HB3_6.out.alloc _), (HB4_6.out.alloc _), (Blk.new' (w := _) (cs := #[.string (qs (a.x - b.x)), .string (qs (a.y - b.y)), .string (qs (a.z - b.z))]) (t := 30) (by first | rfl | (simp only [World.size_alloc]; done) | (simp only [World.size_alloc]; omega) | simp))⟩ ?_
  rintro w7 ⟨e7, bB2_7, bB3_7, bB4_7, bB5_7⟩
  have HX7 := Lib.hid e7; have HB2_7 := Lib.hid bB2_7; have HB3_7 := Lib.hid bB3_7; have HB4_7 := Lib.hid bB4_7; have HB5_7 := Lib.hid bB5_7
  have HGEB5 : Hid (w.heap.size ≤ w6.heap.size) := Lib.hid (by have := HX6.out.size; first | omega | (simp only []; omega) | (simp; omega))
  clear e7 bB2_7 bB3_7 bB4_7 bB5_7
  have c2_0 := HB2_7.out.cell 0 rfl
  have c2_1 := HB2_7.out.cell 1 rfl
  have c2_2 := HB2_7.out.cell 2 rfl
  go_wp2_with fail
  refine (vScale_ok a k _ (HG.out.ext HX7.out) (Ha.out.mono (by omega)) (Hk.out.mono (by omega)) ⟨((Ha.out.x.mul Hk.out).mono (by omega)), ((Ha.out.y.mul Hk.out).mono (by omega)), ((Ha.out.z.mul Hk.out).mono (by omega))⟩).mono ?_; rintro e w8 ⟨rfl, e8⟩
  have HX8 : Hid (Ext w w8) := Lib.hid (HX7.out.trans e8)
  have HB2_8 : Hid (Blk w8 (i2) #[.string (qs a.x), .string (qs a.y), .string (qs a.z)] 30) := Lib.hid (Blk.ext HB2_7.out e8)
  have HB3_8 : Hid (Blk w8 (i3) #[.string (qs b.x), .string (qs b.y), .string (qs b.z)] 30) := Lib.hid (Blk.ext HB3_7.out e8)
  have HB4_8 : Hid (Blk w8 (w4.heap.size) #[.string (qs (a.x + b.x)), .string (qs (a.y + b.y)), .string (qs (a.z + b.z))] 30) := Lib.hid (Blk.ext HB4_7.out e8)
  have HB5_8 : Hid (Blk w8 (w6.heap.size) #[.string (qs (a.x - b.x)), .string (qs (a.y - b.y)), .string (qs (a.z - b.z))] 30) := Lib.hid (Blk.ext HB5_7.out e8)
  clear e8 c2_0 c2_1 c2_2
  go_upto_region 7 with fail
  refine wp_name (fun W => Ext w W ∧ Blk W (i2) #[.string (qs a.x), .string (qs a.y), .string (qs a.z)] 30 ∧ Blk W (i3) #[.string (qs b.x), .string (qs b.y), .string (qs b.z)] 30 ∧ Blk W (w4.heap.size) #[.string (qs (a.x + b.x)), .string (qs (a.y + b.y)), .string (qs (a.z + b.z))] 30 ∧ Blk W (w6.heap.size) #[.string (qs (a.x - b.x)), .string (qs (a.y - b.y)), .string (qs (a.z - b.z))] 30 ∧ Blk W (w8.heap.size) #[.string (qs (a.x * k)), .string (qs (a.y * k)), .string (qs (a.z * k))] 30) ⟨(HX8.out.alloc _), (HB2_8.out.alloc _), (HB3_8.out.alloc _), (HB4_8.out.alloc _), (HB5_8.out.alloc _), (Blk.new' (w := _) (cs := #[.string (qs (a.x * k)), .string (qs (a.y * k)), .string (qs (a.z * k))]) (t := 30) (by first | rfl | (simp only [World.size_alloc]; done) | (simp only [World.size_alloc]; omega) | simp))⟩ ?_
  rintro w9 ⟨e9, bB2_9, bB3_9, bB4_9, bB5_9, bB6_9⟩
  have HX9 := Lib.hid e9; have HB2_9 := Lib.hid bB2_9; have HB3_9 := Lib.hid bB3_9; have HB4_9 := Lib.hid bB4_9; have HB5_9 := Lib.hid bB5_9; have HB6_9 := Lib.hid bB6_9
  have HGEB6 : Hid (w.heap.size ≤ w8.heap.size) := Lib.hid (by have := HX8.out.size; first | omega | (simp only []; omega) | (simp; omega))
  clear e9 bB2_9 bB3_9 bB4_9 bB5_9 bB6_9
  have c2_0 := HB2_9.out.cell 0 rfl
  have c2_1 := HB2_9.out.cell 1 rfl
  have c2_2 := HB2_9.out.cell 2 rfl
  have c3_0 := HB3_9.out.cell 0 rfl
  have c3_1 := HB3_9.out.cell 1 rfl
  have c3_2 := HB3_9.out.cell 2 rfl
  go_wp2_with fail
  refine (vDot_ok a b _ (HG.out.ext HX9.out) (Ha.out.mono (by omega)) (Hb.out.mono (by omega)) ((((Ha.out.x.mul Hb.out.x).add (Ha.out.y.mul Hb.out.y)).add (Ha.out.z.mul Hb.out.z)).mono (by omega))).mono ?_; rintro e w10 ⟨rfl, e10⟩
  have HX10 : Hid (Ext w w10) := Lib.hid (HX9.out.trans e10)
  have HB2_10 : Hid (Blk w10 (i2) #[.string (qs a.x), .string (qs a.y), .string (qs a.z)] 30) := Lib.hid (Blk.ext HB2_9.out e10)
  have HB3_10 : Hid (Blk w10 (i3) #[.string (qs b.x), .string (qs b.y), .string (qs b.z)] 30) := Lib.hid (Blk.ext HB3_9.out e10)
  have HB4_10 : Hid (Blk w10 (w4.heap.size) #[.string (qs (a.x + b.x)), .string (qs (a.y + b.y)), .string (qs (a.z + b.z))] 30) := Lib.hid (Blk.ext HB4_9.out e10)
  have HB5_10 : Hid (Blk w10 (w6.heap.size) #[.string (qs (a.x - b.x)), .string (qs (a.y - b.y)), .string (qs (a.z - b.z))] 30) := Lib.hid (Blk.ext HB5_9.out e10)
  have HB6_10 : Hid (Blk w10 (w8.heap.size) #[.string (qs (a.x * k)), .string (qs (a.y * k)), .string (qs (a.z * k))] 30) := Lib.hid (Blk.ext HB6_9.out e10)
  clear e10 c2_0 c2_1 c2_2 c3_0 c3_1 c3_2
  have c2_0 := HB2_10.out.cell 0 rfl
  have c2_1 := HB2_10.out.cell 1 rfl
  have c2_2 := HB2_10.out.cell 2 rfl
  have c3_0 := HB3_10.out.cell 0 rfl
  have c3_1 := HB3_10.out.cell 1 rfl
  have c3_2 := HB3_10.out.cell 2 rfl
  go_wp2_with fail
  refine (vCross_ok a b _ (HG.out.ext HX10.out) (Ha.out.mono (by omega)) (Hb.out.mono (by omega)) ⟨(((Ha.out.y.mul Hb.out.z).sub (Ha.out.z.mul Hb.out.y)).mono (by omega)), (((Ha.out.z.mul Hb.out.x).sub (Ha.out.x.mul Hb.out.z)).mono (by omega)), (((Ha.out.x.mul Hb.out.y).sub (Ha.out.y.mul Hb.out.x)).mono (by omega))⟩).mono ?_; rintro e w11 ⟨rfl, e11⟩
  have HX11 : Hid (Ext w w11) := Lib.hid (HX10.out.trans e11)
  have HB2_11 : Hid (Blk w11 (i2) #[.string (qs a.x), .string (qs a.y), .string (qs a.z)] 30) := Lib.hid (Blk.ext HB2_10.out e11)
  have HB3_11 : Hid (Blk w11 (i3) #[.string (qs b.x), .string (qs b.y), .string (qs b.z)] 30) := Lib.hid (Blk.ext HB3_10.out e11)
  have HB4_11 : Hid (Blk w11 (w4.heap.size) #[.string (qs (a.x + b.x)), .string (qs (a.y + b.y)), .string (qs (a.z + b.z))] 30) := Lib.hid (Blk.ext HB4_10.out e11)
  have HB5_11 : Hid (Blk w11 (w6.heap.size) #[.string (qs (a.x - b.x)), .string (qs (a.y - b.y)), .string (qs (a.z - b.z))] 30) := Lib.hid (Blk.ext HB5_10.out e11)
  have HB6_11 : Hid (Blk w11 (w8.heap.size) #[.string (qs (a.x * k)), .string (qs (a.y * k)), .string (qs (a.z * k))] 30) := Lib.hid (Blk.ext HB6_10.out e11)
  clear e11 c2_0 c2_1 c2_2 c3_0 c3_1 c3_2
  go_upto_region 9 with fail
  refine wp_name (fun W => Ext w W ∧ Blk W (i2) #[.string (qs a.x), .string (qs a.y), .string (qs a.z)] 30 ∧ Blk W (i3) #[.string (qs b.x), .string (qs b.y), .string (qs b.z)] 30 ∧ Blk W (w4.heap.size) #[.string (qs (a.x + b.x)), .string (qs (a.y + b.y)), .string (qs (a.z + b.z))] 30 ∧ Blk W (w6.heap.size) #[.string (qs (a.x - b.x)), .string (qs (a.y - b.y)), .string (qs (a.z - b.z))] 30 ∧ Blk W (w8.heap.size) #[.string (qs (a.x * k)), .string (qs (a.y * k)), .string (qs (a.z * k))] 30 ∧ Blk W (w11.heap.size) #[.string (qs (a.y * b.z - a.z * b.y)), .string (qs (a.z * b.x - a.x * b.z)), .string (qs (a.x * b.y - a.y * b.x))] 30) ⟨(HX11.out.alloc _), (HB2_11.out.alloc _), (HB3_11.out.alloc _), (HB4_11.out.alloc _), (HB5_11.out.alloc _), (HB6_11.out.alloc _), (Blk.new' (w := _) (cs := #[.string (qs (a.y * b.z - a.z * b.y)), .string (qs (a.z * b.x - a.x * b.z)), .string (qs (a.x * b.y - a.y * b.x))]) (t := 30) (by first | rfl | (simp only [World.size_alloc]; done) | (simp only [World.size_alloc]; omega) | simp))⟩ ?_
  rintro w12 ⟨e12, bB2_12, bB3_12, bB4_12, bB5_12, bB6_12, bB7_12⟩
  have HX12 := Lib.hid e12; have HB2_12 := Lib.hid bB2_12; have HB3_12 := Lib.hid bB3_12; have HB4_12 := Lib.hid bB4_12; have HB5_12 := Lib.hid bB5_12; have HB6_12 := Lib.hid bB6_12; have HB7_12 := Lib.hid bB7_12
  have HGEB7 : Hid (w.heap.size ≤ w11.heap.size) := Lib.hid (by have := HX11.out.size; first | omega | (simp only []; omega) | (simp; omega))
  clear e12 bB2_12 bB3_12 bB4_12 bB5_12 bB6_12 bB7_12
  have c2_0 := HB2_12.out.cell 0 rfl
  have c2_1 := HB2_12.out.cell 1 rfl
  have c2_2 := HB2_12.out.cell 2 rfl
  go_wp2_with fail
  refine (vIsZero_ok a _ (HG.out.ext HX12.out) (Ha.out.mono (by omega))).mono ?_; rintro e w13 ⟨rfl, e13⟩
  have HX13 : Hid (Ext w w13) := Lib.hid (HX12.out.trans e13)
  have HB2_13 : Hid (Blk w13 (i2) #[.string (qs a.x), .string (qs a.y), .string (qs a.z)] 30) := Lib.hid (Blk.ext HB2_12.out e13)
  have HB3_13 : Hid (Blk w13 (i3) #[.string (qs b.x), .string (qs b.y), .string (qs b.z)] 30) := Lib.hid (Blk.ext HB3_12.out e13)
  have HB4_13 : Hid (Blk w13 (w4.heap.size) #[.string (qs (a.x + b.x)), .string (qs (a.y + b.y)), .string (qs (a.z + b.z))] 30) := Lib.hid (Blk.ext HB4_12.out e13)
  have HB5_13 : Hid (Blk w13 (w6.heap.size) #[.string (qs (a.x - b.x)), .string (qs (a.y - b.y)), .string (qs (a.z - b.z))] 30) := Lib.hid (Blk.ext HB5_12.out e13)
  have HB6_13 : Hid (Blk w13 (w8.heap.size) #[.string (qs (a.x * k)), .string (qs (a.y * k)), .string (qs (a.z * k))] 30) := Lib.hid (Blk.ext HB6_12.out e13)
  have HB7_13 : Hid (Blk w13 (w11.heap.size) #[.string (qs (a.y * b.z - a.z * b.y)), .string (qs (a.z * b.x - a.x * b.z)), .string (qs (a.x * b.y - a.y * b.x))] 30) := Lib.hid (Blk.ext HB7_12.out e13)
  clear e13 c2_0 c2_1 c2_2
  have c2_0 := HB2_13.out.cell 0 rfl
  have c2_1 := HB2_13.out.cell 1 rfl
  have c2_2 := HB2_13.out.cell 2 rfl
  have c3_0 := HB3_13.out.cell 0 rfl
  have c3_1 := HB3_13.out.cell 1 rfl
  have c3_2 := HB3_13.out.cell 2 rfl
  go_wp2_with fail
  refine (vParallel_ok a b _ (HG.out.ext HX13.out) (Ha.out.mono (by omega)) (Hb.out.mono (by omega))).mono ?_; rintro e w14 ⟨rfl, e14⟩
  have HX14 : Hid (Ext w w14) := Lib.hid (HX13.out.trans e14)
  have HB2_14 : Hid (Blk w14 (i2) #[.string (qs a.x), .string (qs a.y), .string (qs a.z)] 30) := Lib.hid (Blk.ext HB2_13.out e14)
  have HB3_14 : Hid (Blk w14 (i3) #[.string (qs b.x), .string (qs b.y), .string (qs b.z)] 30) := Lib.hid (Blk.ext HB3_13.out e14)
  have HB4_14 : Hid (Blk w14 (w4.heap.size) #[.string (qs (a.x + b.x)), .string (qs (a.y + b.y)), .string (qs (a.z + b.z))] 30) := Lib.hid (Blk.ext HB4_13.out e14)
  have HB5_14 : Hid (Blk w14 (w6.heap.size) #[.string (qs (a.x - b.x)), .string (qs (a.y - b.y)), .string (qs (a.z - b.z))] 30) := Lib.hid (Blk.ext HB5_13.out e14)
  have HB6_14 : Hid (Blk w14 (w8.heap.size) #[.string (qs (a.x * k)), .string (qs (a.y * k)), .string (qs (a.z * k))] 30) := Lib.hid (Blk.ext HB6_13.out e14)
  have HB7_14 : Hid (Blk w14 (w11.heap.size) #[.string (qs (a.y * b.z - a.z * b.y)), .string (qs (a.z * b.x - a.x * b.z)), .string (qs (a.x * b.y - a.y * b.x))] 30) := Lib.hid (Blk.ext HB7_13.out e14)
  clear e14 c2_0 c2_1 c2_2 c3_0 c3_1 c3_2
  go_wp2_with fail
  refine wp_name (fun W => Ext w W ∧ Blk W (i2) #[.string (qs a.x), .string (qs a.y), .string (qs a.z)] 30 ∧ Blk W (i3) #[.string (qs b.x), .string (qs b.y), .string (qs b.z)] 30 ∧ Blk W (w4.heap.size) #[.string (qs (a.x + b.x)), .string (qs (a.y + b.y)), .string (qs (a.z + b.z))] 30 ∧ Blk W (w6.heap.size) #[.string (qs (a.x - b.x)), .string (qs (a.y - b.y)), .string (qs (a.z - b.z))] 30 ∧ Blk W (w8.heap.size) #[.string (qs (a.x * k)), .string (qs (a.y * k)), .string (qs (a.z * k))] 30 ∧ Blk W (w11.heap.size) #[.string (qs (a.y * b.z - a.z * b.y)), .string (qs (a.z * b.x - a.x * b.z)), .string (qs (a.x * b.y - a.y * b.x))] 30) ⟨HX14.out, HB2_14.out, HB3_14.out, HB4_14.out, HB5_14.out, HB6_14.out, HB7_14.out⟩ ?_
  rintro w15 ⟨e15, bB2_15, bB3_15, bB4_15, bB5_15, bB6_15, bB7_15⟩
  have HX15 := Lib.hid e15; have HB2_15 := Lib.hid bB2_15; have HB3_15 := Lib.hid bB3_15; have HB4_15 := Lib.hid bB4_15; have HB5_15 := Lib.hid bB5_15; have HB6_15 := Lib.hid bB6_15; have HB7_15 := Lib.hid bB7_15
  clear e15 bB2_15 bB3_15 bB4_15 bB5_15 bB6_15 bB7_15
  refine region_lin [.val (.int .i64 0), .val (.int .i64 0), .val (.int .i64 0), .val (.int .i64 0), .val (.int .i64 0), .val (.int .i64 0), .val (.int .i64 0), .mem (fun b_ => .slice (some ⟨b_, 0, none⟩) 7 7) #[.int .i64 0, .int .i64 0, .int .i64 0, .int .i64 0, .int .i64 0, .int .i64 0, .int .i64 0] 32 Option.none, .val (.int .i64 0), .val (.bool true), .val (.bool true), .val (.agg #[.string (qs (a.x + b.x)), .string (qs (a.y + b.y)), .string (qs (a.z + b.z))]), .val (.agg #[.string (qs a.x), .string (qs a.y), .string (qs a.z)]), .val (.agg #[.string (qs b.x), .string (qs b.y), .string (qs b.z)]), .val (.agg #[.string (qs (a.x + b.x)), .string (qs (a.y + b.y)), .string (qs (a.z + b.z))]), .val (.bool true), .val (.bool true), .val (.bool true), .val (.agg #[.string (qs (a.x - b.x)), .string (qs (a.y - b.y)), .string (qs (a.z - b.z))]), .val (.agg #[.string (qs a.x), .string (qs a.y), .string (qs a.z)]), .val (.agg #[.string (qs b.x), .string (qs b.y), .string (qs b.z)]), .val (.agg #[.string (qs (a.x - b.x)), .string (qs (a.y - b.y)), .string (qs (a.z - b.z))]), .val (.bool true), .val (.bool true), .val (.bool true), .val (.agg #[.string (qs (a.x * k)), .string (qs (a.y * k)), .string (qs (a.z * k))]), .val (.agg #[.string (qs a.x), .string (qs a.y), .string (qs a.z)]), .val (.string (qs k)), .val (.agg #[.string (qs (a.x * k)), .string (qs (a.y * k)), .string (qs (a.z * k))]), .val (.bool true), .val (.bool true), .val (.bool true), .val (.string (qs (a.x * b.x + a.y * b.y + a.z * b.z))), .val (.agg #[.string (qs a.x), .string (qs a.y), .string (qs a.z)]), .val (.agg #[.string (qs b.x), .string (qs b.y), .string (qs b.z)]), .val (.string (qs (a.x * b.x + (a.y * b.y + a.z * b.z)))), .val (.bool true), .val (.bool true), .val (.bool true), .val (.agg #[.string (qs (a.y * b.z - a.z * b.y)), .string (qs (a.z * b.x - a.x * b.z)), .string (qs (a.x * b.y - a.y * b.x))]), .val (.agg #[.string (qs a.x), .string (qs a.y), .string (qs a.z)]), .val (.agg #[.string (qs b.x), .string (qs b.y), .string (qs b.z)]), .val (.agg #[.string (qs (a.y * b.z - a.z * b.y)), .string (qs (a.z * b.x - a.x * b.z)), .string (qs (a.x * b.y - a.y * b.x))]), .val (.bool true), .val (.bool true), .val (.bool true), .val (.bool (z3 a.x a.y a.z)), .val (.agg #[.string (qs a.x), .string (qs a.y), .string (qs a.z)]), .val (.bool (z3 a.x a.y a.z)), .val (.bool true), .val (.bool true), .val (.bool true), .val (.bool (z3 (a.y * b.z - a.z * b.y) (a.z * b.x - a.x * b.z) (a.x * b.y - a.y * b.x))), .val (.agg #[.string (qs a.x), .string (qs a.y), .string (qs a.z)]), .val (.agg #[.string (qs b.x), .string (qs b.y), .string (qs b.z)]), .val (.agg #[.string (qs (a.y * b.z - a.z * b.y)), .string (qs (a.z * b.x - a.x * b.z)), .string (qs (a.x * b.y - a.y * b.x))]), .val (.bool (z3 (a.y * b.z - a.z * b.y) (a.z * b.x - a.x * b.z) (a.x * b.y - a.y * b.x))), .val (.bool true), .val (.bool true), .val (.bool true)] (by kernel_rfl) (by kernel_rfl) (by kernel_rfl) ?_ (fun g15 w16 hx hm hne => ?_)
  · skip
    refine RnL.cons (fun g15 A_ W_ hs => ?_) ?_
    · have q9 := (hs.old 9 (by kernel_rfl) : A_.tmps[9]?.getD undef = .int .i64 0)
      refine Rn.val fun K hK => ?_
      go_simp
      exact hK.out _ (Ext.refl _)
    refine RnL.cons (fun g15 A_ W_ hs => ?_) ?_
    · have q11 := (hs.old 11 (by kernel_rfl) : A_.tmps[11]?.getD undef = .int .i64 0)
      refine Rn.val fun K hK => ?_
      go_simp
      exact hK.out _ (Ext.refl _)
    refine RnL.cons (fun g15 A_ W_ hs => ?_) ?_
    · have q13 := (hs.old 13 (by kernel_rfl) : A_.tmps[13]?.getD undef = .int .i64 0)
      refine Rn.val fun K hK => ?_
      go_simp
      exact hK.out _ (Ext.refl _)
    refine RnL.cons (fun g15 A_ W_ hs => ?_) ?_
    · have q15 := (hs.old 15 (by kernel_rfl) : A_.tmps[15]?.getD undef = .int .i64 0)
      refine Rn.val fun K hK => ?_
      go_simp
      exact hK.out _ (Ext.refl _)
    refine RnL.cons (fun g15 A_ W_ hs => ?_) ?_
    · have q17 := (hs.old 17 (by kernel_rfl) : A_.tmps[17]?.getD undef = .int .i64 0)
      refine Rn.val fun K hK => ?_
      go_simp
      exact hK.out _ (Ext.refl _)
    refine RnL.cons (fun g15 A_ W_ hs => ?_) ?_
    · have q19 := (hs.old 19 (by kernel_rfl) : A_.tmps[19]?.getD undef = .int .i64 0)
      refine Rn.val fun K hK => ?_
      go_simp
      exact hK.out _ (Ext.refl _)
    refine RnL.cons (fun g15 A_ W_ hs => ?_) ?_
    · have q21 := (hs.old 21 (by kernel_rfl) : A_.tmps[21]?.getD undef = .int .i64 0)
      refine Rn.val fun K hK => ?_
      go_simp
      exact hK.out _ (Ext.refl _)
    refine RnL.cons (fun g15 A_ W_ hs => ?_) ?_
    · have q73 := hs.val 0 rfl rfl rfl
      have q74 := hs.val 1 rfl rfl rfl
      have q75 := hs.val 2 rfl rfl rfl
      have q76 := hs.val 3 rfl rfl rfl
      have q77 := hs.val 4 rfl rfl rfl
      have q78 := hs.val 5 rfl rfl rfl
      have q79 := hs.val 6 rfl rfl rfl
      refine Rn.mem fun K hK => ?_
      go_simp
      exact hK.out
    refine RnL.cons (fun g15 A_ W_ hs => ?_) ?_
    · have q80 := (hs.mem 7 rfl rfl rfl).1
      refine Rn.val fun K hK => ?_
      go_simp
      refine (((by decide : ferr [0, 0, 0, 0, 0, 0, 0] = 0) ▸ first7_c 0 0 0 0 0 0 0 (g15 7) _ ((hs.mem 7 rfl rfl rfl).2.2 rfl))).mono ?_; rintro e _ ⟨rfl, rfl⟩; exact hK.out _ (Ext.refl _)
    refine RnL.cons (fun g15 A_ W_ hs => ?_) ?_
    · have q81 := hs.val 8 rfl rfl rfl
      refine Rn.val fun K hK => ?_
      go_simp
      exact hK.out _ (Ext.refl _)
    refine RnL.cons (fun g15 A_ W_ hs => ?_) ?_
    · have q82 := hs.val 9 rfl rfl rfl
      refine Rn.val fun K hK => ?_
      go_simp
      exact hK.out _ (Ext.refl _)
    refine RnL.cons (fun g15 A_ W_ hs => ?_) ?_
    · have q8 := (hs.old 8 (by kernel_rfl) : A_.tmps[8]?.getD undef = .pointer (some ⟨w4.heap.size, 0, none⟩))
      have cB4_0 := (HB4_15.out.drew.ext hs.1).cell 0 rfl
      have cB4_1 := (HB4_15.out.drew.ext hs.1).cell 1 rfl
      have cB4_2 := (HB4_15.out.drew.ext hs.1).cell 2 rfl
      refine Rn.val fun K hK => ?_
      go_simp
      exact hK.out _ (Ext.refl _)
    refine RnL.cons (fun g15 A_ W_ hs => ?_) ?_
    · have q5 := (hs.old 5 (by kernel_rfl) : A_.tmps[5]?.getD undef = .pointer (some ⟨i2, 0, none⟩))
      have cB2_0 := (HB2_15.out.drew.ext hs.1).cell 0 rfl
      have cB2_1 := (HB2_15.out.drew.ext hs.1).cell 1 rfl
      have cB2_2 := (HB2_15.out.drew.ext hs.1).cell 2 rfl
      refine Rn.val fun K hK => ?_
      go_simp
      exact hK.out _ (Ext.refl _)
    refine RnL.cons (fun g15 A_ W_ hs => ?_) ?_
    · have q6 := (hs.old 6 (by kernel_rfl) : A_.tmps[6]?.getD undef = .pointer (some ⟨i3, 0, none⟩))
      have cB3_0 := (HB3_15.out.drew.ext hs.1).cell 0 rfl
      have cB3_1 := (HB3_15.out.drew.ext hs.1).cell 1 rfl
      have cB3_2 := (HB3_15.out.drew.ext hs.1).cell 2 rfl
      refine Rn.val fun K hK => ?_
      go_simp
      exact hK.out _ (Ext.refl _)
    refine RnL.cons (fun g15 A_ W_ hs => ?_) ?_
    · have q85 := hs.val 12 rfl rfl rfl
      have q86 := hs.val 13 rfl rfl rfl
      refine Rn.val fun K hK => ?_
      go_simp
      refine (sadd_x a b _ (HG.out.ext (HX15.out.drew.trans hs.1)) Ha.out Hb.out (by omega) (by omega)).mono ?_; rintro e W9_ ⟨rfl, e9_⟩; exact hK.out _ e9_
    refine RnL.cons (fun g15 A_ W_ hs => ?_) ?_
    · have q84 := hs.val 11 rfl rfl rfl
      have q87 := hs.val 14 rfl rfl rfl
      refine Rn.val fun K hK => ?_
      go_simp
      exact hK.out _ (Ext.refl _)
    refine RnL.cons (fun g15 A_ W_ hs => ?_) ?_
    · have q83 := hs.val 10 rfl rfl rfl
      have q88 := hs.val 15 rfl rfl rfl
      refine Rn.val fun K hK => ?_
      go_simp
      exact hK.out _ (Ext.refl _)
    refine RnL.cons (fun g15 A_ W_ hs => ?_) ?_
    · have q89 := hs.val 16 rfl rfl rfl
      refine Rn.val fun K hK => ?_
      go_simp
      exact hK.out _ (Ext.refl _)
    refine RnL.cons (fun g15 A_ W_ hs => ?_) ?_
    · have q10 := (hs.old 10 (by kernel_rfl) : A_.tmps[10]?.getD undef = .pointer (some ⟨w6.heap.size, 0, none⟩))
      have cB5_0 := (HB5_15.out.drew.ext hs.1).cell 0 rfl
      have cB5_1 := (HB5_15.out.drew.ext hs.1).cell 1 rfl
      have cB5_2 := (HB5_15.out.drew.ext hs.1).cell 2 rfl
      refine Rn.val fun K hK => ?_
      go_simp
      exact hK.out _ (Ext.refl _)
    refine RnL.cons (fun g15 A_ W_ hs => ?_) ?_
    · have q5 := (hs.old 5 (by kernel_rfl) : A_.tmps[5]?.getD undef = .pointer (some ⟨i2, 0, none⟩))
      have cB2_0 := (HB2_15.out.drew.ext hs.1).cell 0 rfl
      have cB2_1 := (HB2_15.out.drew.ext hs.1).cell 1 rfl
      have cB2_2 := (HB2_15.out.drew.ext hs.1).cell 2 rfl
      refine Rn.val fun K hK => ?_
      go_simp
      exact hK.out _ (Ext.refl _)
    refine RnL.cons (fun g15 A_ W_ hs => ?_) ?_
    · have q6 := (hs.old 6 (by kernel_rfl) : A_.tmps[6]?.getD undef = .pointer (some ⟨i3, 0, none⟩))
      have cB3_0 := (HB3_15.out.drew.ext hs.1).cell 0 rfl
      have cB3_1 := (HB3_15.out.drew.ext hs.1).cell 1 rfl
      have cB3_2 := (HB3_15.out.drew.ext hs.1).cell 2 rfl
      refine Rn.val fun K hK => ?_
      go_simp
      exact hK.out _ (Ext.refl _)
    refine RnL.cons (fun g15 A_ W_ hs => ?_) ?_
    · have q92 := hs.val 19 rfl rfl rfl
      have q93 := hs.val 20 rfl rfl rfl
      refine Rn.val fun K hK => ?_
      go_simp
      refine (ssub_x a b _ (HG.out.ext (HX15.out.drew.trans hs.1)) Ha.out Hb.out (by omega) (by omega)).mono ?_; rintro e W9_ ⟨rfl, e9_⟩; exact hK.out _ e9_
    refine RnL.cons (fun g15 A_ W_ hs => ?_) ?_
    · have q91 := hs.val 18 rfl rfl rfl
      have q94 := hs.val 21 rfl rfl rfl
      refine Rn.val fun K hK => ?_
      go_simp
      exact hK.out _ (Ext.refl _)
    refine RnL.cons (fun g15 A_ W_ hs => ?_) ?_
    · have q90 := hs.val 17 rfl rfl rfl
      have q95 := hs.val 22 rfl rfl rfl
      refine Rn.val fun K hK => ?_
      go_simp
      exact hK.out _ (Ext.refl _)
    refine RnL.cons (fun g15 A_ W_ hs => ?_) ?_
    · have q96 := hs.val 23 rfl rfl rfl
      refine Rn.val fun K hK => ?_
      go_simp
      exact hK.out _ (Ext.refl _)
    refine RnL.cons (fun g15 A_ W_ hs => ?_) ?_
    · have q12 := (hs.old 12 (by kernel_rfl) : A_.tmps[12]?.getD undef = .pointer (some ⟨w8.heap.size, 0, none⟩))
      have cB6_0 := (HB6_15.out.drew.ext hs.1).cell 0 rfl
      have cB6_1 := (HB6_15.out.drew.ext hs.1).cell 1 rfl
      have cB6_2 := (HB6_15.out.drew.ext hs.1).cell 2 rfl
      refine Rn.val fun K hK => ?_
      go_simp
      exact hK.out _ (Ext.refl _)
    refine RnL.cons (fun g15 A_ W_ hs => ?_) ?_
    · have q5 := (hs.old 5 (by kernel_rfl) : A_.tmps[5]?.getD undef = .pointer (some ⟨i2, 0, none⟩))
      have cB2_0 := (HB2_15.out.drew.ext hs.1).cell 0 rfl
      have cB2_1 := (HB2_15.out.drew.ext hs.1).cell 1 rfl
      have cB2_2 := (HB2_15.out.drew.ext hs.1).cell 2 rfl
      refine Rn.val fun K hK => ?_
      go_simp
      exact hK.out _ (Ext.refl _)
    refine RnL.cons (fun g15 A_ W_ hs => ?_) ?_
    · have q7 := (hs.old 7 (by kernel_rfl) : A_.tmps[7]?.getD undef = .string (qs k))
      refine Rn.val fun K hK => ?_
      go_simp
      exact hK.out _ (Ext.refl _)
    refine RnL.cons (fun g15 A_ W_ hs => ?_) ?_
    · have q99 := hs.val 26 rfl rfl rfl
      have q100 := hs.val 27 rfl rfl rfl
      refine Rn.val fun K hK => ?_
      go_simp
      refine (sscale_x a k _ (HG.out.ext (HX15.out.drew.trans hs.1)) Ha.out Hk.out (by omega) (by omega)).mono ?_; rintro e W9_ ⟨rfl, e9_⟩; exact hK.out _ e9_
    refine RnL.cons (fun g15 A_ W_ hs => ?_) ?_
    · have q98 := hs.val 25 rfl rfl rfl
      have q101 := hs.val 28 rfl rfl rfl
      refine Rn.val fun K hK => ?_
      go_simp
      exact hK.out _ (Ext.refl _)
    refine RnL.cons (fun g15 A_ W_ hs => ?_) ?_
    · have q97 := hs.val 24 rfl rfl rfl
      have q102 := hs.val 29 rfl rfl rfl
      refine Rn.val fun K hK => ?_
      go_simp
      exact hK.out _ (Ext.refl _)
    refine RnL.cons (fun g15 A_ W_ hs => ?_) ?_
    · have q103 := hs.val 30 rfl rfl rfl
      refine Rn.val fun K hK => ?_
      go_simp
      exact hK.out _ (Ext.refl _)
    refine RnL.cons (fun g15 A_ W_ hs => ?_) ?_
    · have q14 := (hs.old 14 (by kernel_rfl) : A_.tmps[14]?.getD undef = .string (qs (a.x * b.x + a.y * b.y + a.z * b.z)))
      refine Rn.val fun K hK => ?_
      go_simp
      exact hK.out _ (Ext.refl _)
    refine RnL.cons (fun g15 A_ W_ hs => ?_) ?_
    · have q5 := (hs.old 5 (by kernel_rfl) : A_.tmps[5]?.getD undef = .pointer (some ⟨i2, 0, none⟩))
      have cB2_0 := (HB2_15.out.drew.ext hs.1).cell 0 rfl
      have cB2_1 := (HB2_15.out.drew.ext hs.1).cell 1 rfl
      have cB2_2 := (HB2_15.out.drew.ext hs.1).cell 2 rfl
      refine Rn.val fun K hK => ?_
      go_simp
      exact hK.out _ (Ext.refl _)
    refine RnL.cons (fun g15 A_ W_ hs => ?_) ?_
    · have q6 := (hs.old 6 (by kernel_rfl) : A_.tmps[6]?.getD undef = .pointer (some ⟨i3, 0, none⟩))
      have cB3_0 := (HB3_15.out.drew.ext hs.1).cell 0 rfl
      have cB3_1 := (HB3_15.out.drew.ext hs.1).cell 1 rfl
      have cB3_2 := (HB3_15.out.drew.ext hs.1).cell 2 rfl
      refine Rn.val fun K hK => ?_
      go_simp
      exact hK.out _ (Ext.refl _)
    refine RnL.cons (fun g15 A_ W_ hs => ?_) ?_
    · have q106 := hs.val 33 rfl rfl rfl
      have q107 := hs.val 34 rfl rfl rfl
      refine Rn.val fun K hK => ?_
      go_simp
      refine (sdot_x a b _ (HG.out.ext (HX15.out.drew.trans hs.1)) Ha.out Hb.out (by omega) (by omega)).mono ?_; rintro e W9_ ⟨rfl, e9_⟩; exact hK.out _ e9_
    refine RnL.cons (fun g15 A_ W_ hs => ?_) ?_
    · have q105 := hs.val 32 rfl rfl rfl
      have q108 := hs.val 35 rfl rfl rfl
      refine Rn.val fun K hK => ?_
      go_simp
      exact hK.out _ (Ext.refl _)
    refine RnL.cons (fun g15 A_ W_ hs => ?_) ?_
    · have q104 := hs.val 31 rfl rfl rfl
      have q109 := hs.val 36 rfl rfl rfl
      refine Rn.val fun K hK => ?_
      go_simp
      exact hK.out _ (Ext.refl _)
    refine RnL.cons (fun g15 A_ W_ hs => ?_) ?_
    · have q110 := hs.val 37 rfl rfl rfl
      refine Rn.val fun K hK => ?_
      go_simp
      exact hK.out _ (Ext.refl _)
    refine RnL.cons (fun g15 A_ W_ hs => ?_) ?_
    · have q16 := (hs.old 16 (by kernel_rfl) : A_.tmps[16]?.getD undef = .pointer (some ⟨w11.heap.size, 0, none⟩))
      have cB7_0 := (HB7_15.out.drew.ext hs.1).cell 0 rfl
      have cB7_1 := (HB7_15.out.drew.ext hs.1).cell 1 rfl
      have cB7_2 := (HB7_15.out.drew.ext hs.1).cell 2 rfl
      refine Rn.val fun K hK => ?_
      go_simp
      exact hK.out _ (Ext.refl _)
    refine RnL.cons (fun g15 A_ W_ hs => ?_) ?_
    · have q5 := (hs.old 5 (by kernel_rfl) : A_.tmps[5]?.getD undef = .pointer (some ⟨i2, 0, none⟩))
      have cB2_0 := (HB2_15.out.drew.ext hs.1).cell 0 rfl
      have cB2_1 := (HB2_15.out.drew.ext hs.1).cell 1 rfl
      have cB2_2 := (HB2_15.out.drew.ext hs.1).cell 2 rfl
      refine Rn.val fun K hK => ?_
      go_simp
      exact hK.out _ (Ext.refl _)
    refine RnL.cons (fun g15 A_ W_ hs => ?_) ?_
    · have q6 := (hs.old 6 (by kernel_rfl) : A_.tmps[6]?.getD undef = .pointer (some ⟨i3, 0, none⟩))
      have cB3_0 := (HB3_15.out.drew.ext hs.1).cell 0 rfl
      have cB3_1 := (HB3_15.out.drew.ext hs.1).cell 1 rfl
      have cB3_2 := (HB3_15.out.drew.ext hs.1).cell 2 rfl
      refine Rn.val fun K hK => ?_
      go_simp
      exact hK.out _ (Ext.refl _)
    refine RnL.cons (fun g15 A_ W_ hs => ?_) ?_
    · have q113 := hs.val 40 rfl rfl rfl
      have q114 := hs.val 41 rfl rfl rfl
      refine Rn.val fun K hK => ?_
      go_simp
      refine (scross_x a b _ (HG.out.ext (HX15.out.drew.trans hs.1)) Ha.out Hb.out (by omega) (by omega)).mono ?_; rintro e W9_ ⟨rfl, e9_⟩; exact hK.out _ e9_
    refine RnL.cons (fun g15 A_ W_ hs => ?_) ?_
    · have q112 := hs.val 39 rfl rfl rfl
      have q115 := hs.val 42 rfl rfl rfl
      refine Rn.val fun K hK => ?_
      go_simp
      exact hK.out _ (Ext.refl _)
    refine RnL.cons (fun g15 A_ W_ hs => ?_) ?_
    · have q111 := hs.val 38 rfl rfl rfl
      have q116 := hs.val 43 rfl rfl rfl
      refine Rn.val fun K hK => ?_
      go_simp
      exact hK.out _ (Ext.refl _)
    refine RnL.cons (fun g15 A_ W_ hs => ?_) ?_
    · have q117 := hs.val 44 rfl rfl rfl
      refine Rn.val fun K hK => ?_
      go_simp
      exact hK.out _ (Ext.refl _)
    refine RnL.cons (fun g15 A_ W_ hs => ?_) ?_
    · have q18 := (hs.old 18 (by kernel_rfl) : A_.tmps[18]?.getD undef = .bool (z3 a.x a.y a.z))
      refine Rn.val fun K hK => ?_
      go_simp
      exact hK.out _ (Ext.refl _)
    refine RnL.cons (fun g15 A_ W_ hs => ?_) ?_
    · have q5 := (hs.old 5 (by kernel_rfl) : A_.tmps[5]?.getD undef = .pointer (some ⟨i2, 0, none⟩))
      have cB2_0 := (HB2_15.out.drew.ext hs.1).cell 0 rfl
      have cB2_1 := (HB2_15.out.drew.ext hs.1).cell 1 rfl
      have cB2_2 := (HB2_15.out.drew.ext hs.1).cell 2 rfl
      refine Rn.val fun K hK => ?_
      go_simp
      exact hK.out _ (Ext.refl _)
    refine RnL.cons (fun g15 A_ W_ hs => ?_) ?_
    · have q120 := hs.val 47 rfl rfl rfl
      refine Rn.val fun K hK => ?_
      go_simp
      refine (szero_b a.x a.y a.z _).mono ?_; rintro e W9_ ⟨rfl, e9_⟩; exact hK.out _ e9_
    refine RnL.cons (fun g15 A_ W_ hs => ?_) ?_
    · have q119 := hs.val 46 rfl rfl rfl
      have q121 := hs.val 48 rfl rfl rfl
      refine Rn.val fun K hK => ?_
      go_simp
      exact hK.out _ (Ext.refl _)
    refine RnL.cons (fun g15 A_ W_ hs => ?_) ?_
    · have q118 := hs.val 45 rfl rfl rfl
      have q122 := hs.val 49 rfl rfl rfl
      refine Rn.val fun K hK => ?_
      go_simp
      exact hK.out _ (Ext.refl _)
    refine RnL.cons (fun g15 A_ W_ hs => ?_) ?_
    · have q123 := hs.val 50 rfl rfl rfl
      refine Rn.val fun K hK => ?_
      go_simp
      exact hK.out _ (Ext.refl _)
    refine RnL.cons (fun g15 A_ W_ hs => ?_) ?_
    · have q20 := (hs.old 20 (by kernel_rfl) : A_.tmps[20]?.getD undef = .bool (z3 (a.y * b.z - a.z * b.y) (a.z * b.x - a.x * b.z) (a.x * b.y - a.y * b.x)))
      refine Rn.val fun K hK => ?_
      go_simp
      exact hK.out _ (Ext.refl _)
    refine RnL.cons (fun g15 A_ W_ hs => ?_) ?_
    · have q5 := (hs.old 5 (by kernel_rfl) : A_.tmps[5]?.getD undef = .pointer (some ⟨i2, 0, none⟩))
      have cB2_0 := (HB2_15.out.drew.ext hs.1).cell 0 rfl
      have cB2_1 := (HB2_15.out.drew.ext hs.1).cell 1 rfl
      have cB2_2 := (HB2_15.out.drew.ext hs.1).cell 2 rfl
      refine Rn.val fun K hK => ?_
      go_simp
      exact hK.out _ (Ext.refl _)
    refine RnL.cons (fun g15 A_ W_ hs => ?_) ?_
    · have q6 := (hs.old 6 (by kernel_rfl) : A_.tmps[6]?.getD undef = .pointer (some ⟨i3, 0, none⟩))
      have cB3_0 := (HB3_15.out.drew.ext hs.1).cell 0 rfl
      have cB3_1 := (HB3_15.out.drew.ext hs.1).cell 1 rfl
      have cB3_2 := (HB3_15.out.drew.ext hs.1).cell 2 rfl
      refine Rn.val fun K hK => ?_
      go_simp
      exact hK.out _ (Ext.refl _)
    refine RnL.cons (fun g15 A_ W_ hs => ?_) ?_
    · have q126 := hs.val 53 rfl rfl rfl
      have q127 := hs.val 54 rfl rfl rfl
      refine Rn.val fun K hK => ?_
      go_simp
      refine (scross_x a b _ (HG.out.ext (HX15.out.drew.trans hs.1)) Ha.out Hb.out (by omega) (by omega)).mono ?_; rintro e W9_ ⟨rfl, e9_⟩; exact hK.out _ e9_
    refine RnL.cons (fun g15 A_ W_ hs => ?_) ?_
    · have q128 := hs.val 55 rfl rfl rfl
      refine Rn.val fun K hK => ?_
      go_simp
      refine (szero_b (a.y * b.z - a.z * b.y) (a.z * b.x - a.x * b.z) (a.x * b.y - a.y * b.x) _).mono ?_; rintro e W9_ ⟨rfl, e9_⟩; exact hK.out _ e9_
    refine RnL.cons (fun g15 A_ W_ hs => ?_) ?_
    · have q125 := hs.val 52 rfl rfl rfl
      have q129 := hs.val 56 rfl rfl rfl
      refine Rn.val fun K hK => ?_
      go_simp
      exact hK.out _ (Ext.refl _)
    refine RnL.cons (fun g15 A_ W_ hs => ?_) ?_
    · have q124 := hs.val 51 rfl rfl rfl
      have q130 := hs.val 57 rfl rfl rfl
      refine Rn.val fun K hK => ?_
      go_simp
      exact hK.out _ (Ext.refl _)
    refine RnL.cons (fun g15 A_ W_ hs => ?_) ?_
    · have q131 := hs.val 58 rfl rfl rfl
      refine Rn.val fun K hK => ?_
      go_simp
      exact hK.out _ (Ext.refl _)
    exact RnL.nil
  simp only [fs, Kd.value, puts, Act.put, List.setIfInBounds_toArray, List.set_cons_zero, List.set_cons_succ, Nat.reduceAdd]
  have HX16 : Hid (Ext w w16) := Lib.hid (HX15.out.drew.trans hx)
  have HB8_16 : Hid (Blk w16 (g15 7) #[.int .i64 0, .int .i64 0, .int .i64 0, .int .i64 0, .int .i64 0, .int .i64 0, .int .i64 0] 32) := Lib.hid (hm 7 _ _ _ _ rfl).2; have HGEB8 : Hid (w.heap.size ≤ g15 7) := Lib.hid (Nat.le_trans HX15.out.size (hm 7 _ _ _ _ rfl).1)
  clear hx hm hne
  generalize g15 7 = i8 at *
  clear g15
  go_wp2
  go_ret
  exact ⟨rfl, HX16.out⟩
end Go.Proofs.YtglppcmegocphaaGreatDoor
