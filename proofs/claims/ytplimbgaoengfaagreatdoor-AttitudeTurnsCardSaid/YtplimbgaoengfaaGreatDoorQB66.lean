/- Part 66 of the proof: N12, N12w. -/
import Derived.Test.YtplimbgaoengfaaGreatDoorQB1
import Derived.Test.YtplimbgaoengfaaGreatDoorQB2
import Derived.Test.YtplimbgaoengfaaGreatDoorQB3
import Derived.Test.YtplimbgaoengfaaGreatDoorQB4
import Derived.Test.YtplimbgaoengfaaGreatDoorQB5
import Derived.Test.YtplimbgaoengfaaGreatDoorQB6
import Derived.Test.YtplimbgaoengfaaGreatDoorQB7
import Derived.Test.YtplimbgaoengfaaGreatDoorQB8
import Derived.Test.YtplimbgaoengfaaGreatDoorQB9
import Derived.Test.YtplimbgaoengfaaGreatDoorQB10
import Derived.Test.YtplimbgaoengfaaGreatDoorQB11
import Derived.Test.YtplimbgaoengfaaGreatDoorQB12
import Derived.Test.YtplimbgaoengfaaGreatDoorQB13
import Derived.Test.YtplimbgaoengfaaGreatDoorQB14
import Derived.Test.YtplimbgaoengfaaGreatDoorQB15
import Derived.Test.YtplimbgaoengfaaGreatDoorQB16
import Derived.Test.YtplimbgaoengfaaGreatDoorQB17
import Derived.Test.YtplimbgaoengfaaGreatDoorQB18
import Derived.Test.YtplimbgaoengfaaGreatDoorQB19
import Derived.Test.YtplimbgaoengfaaGreatDoorQB20
import Derived.Test.YtplimbgaoengfaaGreatDoorQB21
import Derived.Test.YtplimbgaoengfaaGreatDoorQB22
import Derived.Test.YtplimbgaoengfaaGreatDoorQB23
import Derived.Test.YtplimbgaoengfaaGreatDoorQB24
import Derived.Test.YtplimbgaoengfaaGreatDoorQB25
import Derived.Test.YtplimbgaoengfaaGreatDoorQB26
import Derived.Test.YtplimbgaoengfaaGreatDoorQB28
import Derived.Test.YtplimbgaoengfaaGreatDoorQB30
import Derived.Test.YtplimbgaoengfaaGreatDoorQB32
import Derived.Test.YtplimbgaoengfaaGreatDoorQB40
import Derived.Test.YtplimbgaoengfaaGreatDoorQB44
import Derived.Test.YtplimbgaoengfaaGreatDoorQB45
import Derived.Test.YtplimbgaoengfaaGreatDoorQB50
import Derived.Test.YtplimbgaoengfaaGreatDoorQB57
import Derived.Test.YtplimbgaoengfaaGreatDoorQB58
import Derived.Test.YtplimbgaoengfaaGreatDoorQB60
import Derived.Test.YtplimbgaoengfaaGreatDoorQB64
namespace Go.Proofs.YtplimbgaoengfaaGreatDoor
open Go Go.RowKit
set_option linter.unusedVariables false
theorem new1_c (m : Int) (w : World) (g : Gd w) (h : IB 1 m) : Calls Tryz.prog 97 #[.string (zs m), .string (zs 1)] w (Ret w (.tuple #[.string (qs (m : Rat)), .int .i64 0])) := by
  have := new_c m 1 (by decide) w g h (⟨by decide⟩ : IB 1 ((1 : Nat) : Int)) (by decide) (by decide)
  rw [mkRat_one] at this
  exact this
theorem rof1_c (m : Int) (w : World) (g : Gd w) (h : -9 ≤ m ∧ m ≤ 9) : Calls Tryz.prog 102 #[.int .i64 m, .int .i64 1] w (Ret w (.tuple #[.string (qs (m : Rat)), .int .i64 0])) := by
  have HG := Lib.hid g; have H := Lib.hid h
  clear g h
  have i1 : IB 1 m := ⟨by have := H.out; omega⟩
  have i2 : IB 1 ((1 : Nat) : Int) := ⟨by decide⟩
  have HI1 := Lib.hid i1; have HI2 := Lib.hid i2; clear i1 i2
  go_enter Tryz.func102, Tryz.ntmps102
  go_wp2_with fail
  refine (of_c m (by have := H.out; omega) (by have := H.out; omega) _ HG.out).mono ?_; rintro e w1 ⟨rfl, e1⟩
  go_wp2_with fail
  refine (of_c 1 (by decide) (by decide) _ (HG.out.ext e1)).mono ?_; rintro e w2 ⟨rfl, e2⟩
  go_wp2_with fail
  refine (new1_c m _ (HG.out.ext (e1.trans e2)) HI1.out).mono ?_; rintro e w3 ⟨rfl, e3⟩
  go_wp2
  go_ret2
  exact ⟨rfl, (e1.trans e2).trans e3⟩
def sv3 (i j k : Int) : V3 := ⟨((i.tmod 10 : Int) : Rat), ((j.tmod 10 : Int) : Rat), ((k.tmod 10 : Int) : Rat)⟩
theorem tmod10 (i : Int) : -9 ≤ i.tmod 10 ∧ i.tmod 10 ≤ 9 := by
  have h := Int.natAbs_tmod i 10
  have := Nat.mod_lt i.natAbs (y := 10) (by decide)
  simp only [show (10 : Int).natAbs = 10 from rfl] at h
  omega
theorem sv3_vb (i j k : Int) : VB 1 (sv3 i j k) := by
  have q : ∀ m : Int, -9 ≤ m ∧ m ≤ 9 → QB 1 (m : Rat) := fun m h => QB.int ⟨by omega⟩ (by decide)
  exact ⟨q _ (tmod10 i), q _ (tmod10 j), q _ (tmod10 k)⟩

set_option maxRecDepth 100000 in
set_option maxHeartbeats 2000000 in
theorem lwhole_c (m : Int) (w : World) (g : Gd w) (h : -9 ≤ m ∧ m ≤ 9) : Calls Tryz.prog 65 #[.int .i64 m] w (Ret w (.string (qs (m : Rat)))) := by
  have H := Lib.hid h
  have HG := Lib.hid g
  clear h g
  go_enter Tryz.func65, Tryz.ntmps65
  go_wp2_with fail
  refine (rof1_c m _ (HG.out.ext (Ext.refl w)) H.out).mono ?_; rintro e w1 ⟨rfl, e1⟩
  have HX1 : Hid (Ext w w1) := Lib.hid ((Ext.refl w).trans e1)
  clear e1
  go_wp2
  go_ret
  exact ⟨rfl, HX1.out⟩

set_option maxRecDepth 100000 in
set_option maxHeartbeats 2000000 in
theorem lvec_c (i j k : Int) (w : World) (g : Gd w) (hi0 : -128 ≤ i ∧ i ≤ 127) (hj0 : -128 ≤ j ∧ j ≤ 127) (hk0 : -128 ≤ k ∧ k ≤ 127) : Calls Tryz.prog 37 #[.agg #[.int .i8 i, .int .i8 j, .int .i8 k]] w (Ret w (.agg #[.string (qs ((sv3 i j k).x)), .string (qs ((sv3 i j k).y)), .string (qs ((sv3 i j k).z))])) := by
  have HG := Lib.hid g
  clear g
  have wi_ : IntKind.i64.wrap i = i := IntWalk.i64_in i (by omega)
  have wj_ : IntKind.i64.wrap j = j := IntWalk.i64_in j (by omega)
  have wk_ : IntKind.i64.wrap k = k := IntWalk.i64_in k (by omega)
  go_enter Tryz.func37, Tryz.ntmps37
  go_wp2_with fail
  refine wp_name (fun W => Ext w W ∧ Blk W (w.heap.size) #[.int .i8 i, .int .i8 j, .int .i8 k] 63 ∧ Blk W (w.heap.size + 1) #[.string ⟨#[]⟩, .string ⟨#[]⟩, .string ⟨#[]⟩] 37) ⟨(((Ext.refl w).alloc _).alloc _), ((Blk.new' (w := _) (cs := #[.int .i8 i, .int .i8 j, .int .i8 k]) (t := 63) (by first | rfl | (simp only [World.size_alloc]; done) | (simp only [World.size_alloc]; omega) | simp)).alloc _), (Blk.new' (w := _) (cs := #[.string ⟨#[]⟩, .string ⟨#[]⟩, .string ⟨#[]⟩]) (t := 37) (by first | rfl | (simp only [World.size_alloc]; done) | (simp only [World.size_alloc]; omega) | simp))⟩ ?_
  rintro w1 ⟨e1, bB0_1, bB1_1⟩
  have HX1 := Lib.hid e1; have HB0_1 := Lib.hid bB0_1; have HB1_1 := Lib.hid bB1_1
  have HGEB0 : Hid (w.heap.size ≤ w.heap.size) := Lib.hid (by first | omega | (simp only []; omega) | (simp; omega))
  have HGEB1 : Hid (w.heap.size ≤ w.heap.size + 1) := Lib.hid (by first | omega | (simp only []; omega) | (simp; omega))
  clear e1 bB0_1 bB1_1
  refine region_lin_s (X := w) [⟨w.heap.size + 1, #[.string ⟨#[]⟩, .string ⟨#[]⟩, .string ⟨#[]⟩], #[.string (qs ((sv3 i j k).x)), .string (qs ((sv3 i j k).y)), .string (qs ((sv3 i j k).z))], 37⟩] [.val (.pointer (some ⟨w.heap.size, 0, none⟩)), .val (.int .i8 i), .val (.int .i64 i), .val (.int .i64 (i.tmod 10)), .val (.string (qs ((sv3 i j k).x))), .val (.pointer (some ⟨w.heap.size, 1, none⟩)), .val (.int .i8 j), .val (.int .i64 j), .val (.int .i64 (j.tmod 10)), .val (.string (qs ((sv3 i j k).y))), .val (.pointer (some ⟨w.heap.size, 2, none⟩)), .val (.int .i8 k), .val (.int .i64 k), .val (.int .i64 (k.tmod 10)), .val (.string (qs ((sv3 i j k).z))), .val (.agg #[.string (qs ((sv3 i j k).x)), .string (qs ((sv3 i j k).y)), .string (qs ((sv3 i j k).z))]), .st 0] (by kernel_rfl) (by kernel_rfl) (by kernel_rfl) HX1.out.drew (List.forall_mem_cons.2 ⟨⟨HGEB1.out, HB1_1.out.drew⟩, (fun _ h => by cases h)⟩) dis1 ?_ (fun g1 w2 hx_ hk_ hb_ hm_ hne_ => ?_)
  · skip
    refine RnL.cons (fun g1 A_ W_ hs_ => ?_) ?_
    · have q1_ := (hs_.old 1 (by kernel_rfl) : A_.tmps[1]?.getD undef = .pointer (some ⟨w.heap.size, 0, none⟩))
      refine Rn.val fun K_ hK_ => ?_
      go_simp
      exact hK_.out _ (Ext.refl _)
    refine RnL.cons (fun g1 A_ W_ hs_ => ?_) ?_
    · have q3_ := hs_.val 0 rfl rfl rfl
      have cB0_0 := ((hs_.keep (fm2 (show w.heap.size + 1 ≠ w.heap.size from by first | omega | (simp only []; omega) | (simp; omega)) fm0) HB0_1.out.drew)).cell 0 rfl
      refine Rn.val fun K_ hK_ => ?_
      go_simp
      exact hK_.out _ (Ext.refl _)
    refine RnL.cons (fun g1 A_ W_ hs_ => ?_) ?_
    · have q4_ := hs_.val 1 rfl rfl rfl
      refine Rn.val fun K_ hK_ => ?_
      go_simp
      exact hK_.out _ (Ext.refl _)
    refine RnL.cons (fun g1 A_ W_ hs_ => ?_) ?_
    · have q5_ := hs_.val 2 rfl rfl rfl
      refine Rn.val fun K_ hK_ => ?_
      go_simp
      exact hK_.out _ (Ext.refl _)
    refine RnL.cons (fun g1 A_ W_ hs_ => ?_) ?_
    · have q6_ := hs_.val 3 rfl rfl rfl
      refine Rn.val fun K_ hK_ => ?_
      go_simp
      refine ((lwhole_c (i.tmod 10) _ (HG.out.ext hs_.1) (tmod10 _) : Calls _ _ _ _ (Ret _ (.string (qs (sv3 i j k).x))))).mono ?_; rintro e W9_ ⟨rfl, e9_⟩; exact hK_.out _ e9_
    refine RnL.cons (fun g1 A_ W_ hs_ => ?_) ?_
    · have q1_ := (hs_.old 1 (by kernel_rfl) : A_.tmps[1]?.getD undef = .pointer (some ⟨w.heap.size, 0, none⟩))
      refine Rn.val fun K_ hK_ => ?_
      go_simp
      exact hK_.out _ (Ext.refl _)
    refine RnL.cons (fun g1 A_ W_ hs_ => ?_) ?_
    · have q8_ := hs_.val 5 rfl rfl rfl
      have cB0_1 := ((hs_.keep (fm2 (show w.heap.size + 1 ≠ w.heap.size from by first | omega | (simp only []; omega) | (simp; omega)) fm0) HB0_1.out.drew)).cell 1 rfl
      refine Rn.val fun K_ hK_ => ?_
      go_simp
      exact hK_.out _ (Ext.refl _)
    refine RnL.cons (fun g1 A_ W_ hs_ => ?_) ?_
    · have q9_ := hs_.val 6 rfl rfl rfl
      refine Rn.val fun K_ hK_ => ?_
      go_simp
      exact hK_.out _ (Ext.refl _)
    refine RnL.cons (fun g1 A_ W_ hs_ => ?_) ?_
    · have q10_ := hs_.val 7 rfl rfl rfl
      refine Rn.val fun K_ hK_ => ?_
      go_simp
      exact hK_.out _ (Ext.refl _)
    refine RnL.cons (fun g1 A_ W_ hs_ => ?_) ?_
    · have q11_ := hs_.val 8 rfl rfl rfl
      refine Rn.val fun K_ hK_ => ?_
      go_simp
      refine ((lwhole_c (j.tmod 10) _ (HG.out.ext hs_.1) (tmod10 _) : Calls _ _ _ _ (Ret _ (.string (qs (sv3 i j k).y))))).mono ?_; rintro e W9_ ⟨rfl, e9_⟩; exact hK_.out _ e9_
    refine RnL.cons (fun g1 A_ W_ hs_ => ?_) ?_
    · have q1_ := (hs_.old 1 (by kernel_rfl) : A_.tmps[1]?.getD undef = .pointer (some ⟨w.heap.size, 0, none⟩))
      refine Rn.val fun K_ hK_ => ?_
      go_simp
      exact hK_.out _ (Ext.refl _)
    refine RnL.cons (fun g1 A_ W_ hs_ => ?_) ?_
    · have q13_ := hs_.val 10 rfl rfl rfl
      have cB0_2 := ((hs_.keep (fm2 (show w.heap.size + 1 ≠ w.heap.size from by first | omega | (simp only []; omega) | (simp; omega)) fm0) HB0_1.out.drew)).cell 2 rfl
      refine Rn.val fun K_ hK_ => ?_
      go_simp
      exact hK_.out _ (Ext.refl _)
    refine RnL.cons (fun g1 A_ W_ hs_ => ?_) ?_
    · have q14_ := hs_.val 11 rfl rfl rfl
      refine Rn.val fun K_ hK_ => ?_
      go_simp
      exact hK_.out _ (Ext.refl _)
    refine RnL.cons (fun g1 A_ W_ hs_ => ?_) ?_
    · have q15_ := hs_.val 12 rfl rfl rfl
      refine Rn.val fun K_ hK_ => ?_
      go_simp
      exact hK_.out _ (Ext.refl _)
    refine RnL.cons (fun g1 A_ W_ hs_ => ?_) ?_
    · have q16_ := hs_.val 13 rfl rfl rfl
      refine Rn.val fun K_ hK_ => ?_
      go_simp
      refine ((lwhole_c (k.tmod 10) _ (HG.out.ext hs_.1) (tmod10 _) : Calls _ _ _ _ (Ret _ (.string (qs (sv3 i j k).z))))).mono ?_; rintro e W9_ ⟨rfl, e9_⟩; exact hK_.out _ e9_
    refine RnL.cons (fun g1 A_ W_ hs_ => ?_) ?_
    · have q7_ := hs_.val 4 rfl rfl rfl
      have q12_ := hs_.val 9 rfl rfl rfl
      have q17_ := hs_.val 14 rfl rfl rfl
      refine Rn.val fun K_ hK_ => ?_
      go_simp
      exact hK_.out _ (Ext.refl _)
    refine RnL.cons (fun g1 A_ W_ hs_ => ?_) ?_
    · have q2_ := (hs_.old 2 (by kernel_rfl) : A_.tmps[2]?.getD undef = .pointer (some ⟨w.heap.size + 1, 0, none⟩))
      have q18_ := hs_.val 15 rfl rfl rfl
      refine Rn.st (n := 0) rfl fun hB0 K_ hK_ => ?_
      have hB : Blk W_ (w.heap.size + 1) #[.string ⟨#[]⟩, .string ⟨#[]⟩, .string ⟨#[]⟩] 37 := hB0; clear hB0
      have c_0 := hB.cell 0 rfl; have f_0 := hB.free 0
      have c_1 := hB.cell 1 rfl; have f_1 := hB.free 1
      have c_2 := hB.cell 2 rfl; have f_2 := hB.free 2
      have HB := Lib.hid hB; clear hB
      go_simp
      exact hK_.out _ ((((Only.refl _ _).set 0 _).set 1 _).set 2 _) (((HB.out.set 0 _).set 1 _).set 2 _)
    exact RnL.nil
  simp only [fs, Kd.value, puts, Act.put, List.setIfInBounds_toArray, List.set_cons_zero, List.set_cons_succ]
  have HX2 : Hid (Ext w w2) := Lib.hid hx_
  have HB1_2 : Hid (Blk w2 (w.heap.size + 1) #[.string (qs ((sv3 i j k).x)), .string (qs ((sv3 i j k).y)), .string (qs ((sv3 i j k).z))] 37) := Lib.hid (hb_ 0 _ rfl)
  clear hx_ hm_ hne_ hk_ hb_
  go_wp2_with fail
  have gB1_0 := HB1_2.out.cell 0 rfl
  have gB1_1 := HB1_2.out.cell 1 rfl
  have gB1_2 := HB1_2.out.cell 2 rfl
  refine bodyPost_ret (v := .agg #[.string (qs ((sv3 i j k).x)), .string (qs ((sv3 i j k).y)), .string (qs ((sv3 i j k).z))]) (by simp [results, Tryz.results37, go_sem, gB1_0, gB1_1, gB1_2]) rfl ⟨rfl, HX2.out⟩

set_option maxRecDepth 100000 in
set_option maxHeartbeats 2000000 in
theorem asq_c (n : V3) {q : Nat} (w : World) (g : Gd w) (hn : VB q n) (hq : q ≤ 100) : Calls Tryz.prog 66 #[.agg #[.string (qs n.x), .string (qs n.y), .string (qs n.z)]] w (Ret w (.tuple #[.string (qs (n.x * n.x + n.y * n.y)), .string (qs (n.z * n.z))])) := by
  have HN := Lib.hid hn
  have HG := Lib.hid g
  clear hn g
  go_enter Tryz.func66, Tryz.ntmps66
  go_wp2_with fail
  refine wp_name (fun W => Ext w W ∧ Blk W (w.heap.size) #[.string (qs n.x), .string (qs n.y), .string (qs n.z)] 37) ⟨((Ext.refl w).alloc _), (Blk.new' (w := _) (cs := #[.string (qs n.x), .string (qs n.y), .string (qs n.z)]) (t := 37) (by first | rfl | (simp only [World.size_alloc]; done) | (simp only [World.size_alloc]; omega) | simp))⟩ ?_
  rintro w1 ⟨e1, bB0_1⟩
  have HX1 := Lib.hid e1; have HB0_1 := Lib.hid bB0_1
  have HGEB0 : Hid (w.heap.size ≤ w.heap.size) := Lib.hid (by first | omega | (simp only []; omega) | (simp; omega))
  clear e1 bB0_1
  refine region_lin [.val (.pointer (some ⟨w.heap.size, 0, none⟩)), .val (.string (qs n.x)), .val (.pointer (some ⟨w.heap.size, 0, none⟩)), .val (.string (qs n.x)), .val (.string (qs (n.x * n.x))), .val (.pointer (some ⟨w.heap.size, 1, none⟩)), .val (.string (qs n.y)), .val (.pointer (some ⟨w.heap.size, 1, none⟩)), .val (.string (qs n.y)), .val (.string (qs (n.y * n.y))), .val (.string (qs (n.x * n.x + n.y * n.y))), .val (.pointer (some ⟨w.heap.size, 2, none⟩)), .val (.string (qs n.z)), .val (.pointer (some ⟨w.heap.size, 2, none⟩)), .val (.string (qs n.z)), .val (.string (qs (n.z * n.z))), .val (.string (qs (n.x * n.x + n.y * n.y))), .val (.string (qs (n.z * n.z)))] (by kernel_rfl) (by kernel_rfl) (by kernel_rfl) ?_ (fun g1 w2 hx_ hm_ hne_ => ?_)
  · skip
    refine RnL.cons (fun g1 A_ W_ hs_ => ?_) ?_
    · have q1_ := (hs_.old 1 (by kernel_rfl) : A_.tmps[1]?.getD undef = .pointer (some ⟨w.heap.size, 0, none⟩))
      refine Rn.val fun K_ hK_ => ?_
      go_simp
      exact hK_.out _ (Ext.refl _)
    refine RnL.cons (fun g1 A_ W_ hs_ => ?_) ?_
    · have q4_ := hs_.val 0 rfl rfl rfl
      have cB0_0 := ((HB0_1.out.drew.ext hs_.1)).cell 0 rfl
      refine Rn.val fun K_ hK_ => ?_
      go_simp
      exact hK_.out _ (Ext.refl _)
    refine RnL.cons (fun g1 A_ W_ hs_ => ?_) ?_
    · have q1_ := (hs_.old 1 (by kernel_rfl) : A_.tmps[1]?.getD undef = .pointer (some ⟨w.heap.size, 0, none⟩))
      refine Rn.val fun K_ hK_ => ?_
      go_simp
      exact hK_.out _ (Ext.refl _)
    refine RnL.cons (fun g1 A_ W_ hs_ => ?_) ?_
    · have q6_ := hs_.val 2 rfl rfl rfl
      have cB0_0 := ((HB0_1.out.drew.ext hs_.1)).cell 0 rfl
      refine Rn.val fun K_ hK_ => ?_
      go_simp
      exact hK_.out _ (Ext.refl _)
    refine RnL.cons (fun g1 A_ W_ hs_ => ?_) ?_
    · have q5_ := hs_.val 1 rfl rfl rfl
      have q7_ := hs_.val 3 rfl rfl rfl
      refine Rn.val fun K_ hK_ => ?_
      go_simp
      refine (rmul_c n.x n.x _ (HG.out.ext (HX1.out.drew.trans hs_.1)) HN.out.x HN.out.x (by omega) (by omega)).mono ?_; rintro e W9_ ⟨rfl, e9_⟩; exact hK_.out _ e9_
    refine RnL.cons (fun g1 A_ W_ hs_ => ?_) ?_
    · have q1_ := (hs_.old 1 (by kernel_rfl) : A_.tmps[1]?.getD undef = .pointer (some ⟨w.heap.size, 0, none⟩))
      refine Rn.val fun K_ hK_ => ?_
      go_simp
      exact hK_.out _ (Ext.refl _)
    refine RnL.cons (fun g1 A_ W_ hs_ => ?_) ?_
    · have q9_ := hs_.val 5 rfl rfl rfl
      have cB0_1 := ((HB0_1.out.drew.ext hs_.1)).cell 1 rfl
      refine Rn.val fun K_ hK_ => ?_
      go_simp
      exact hK_.out _ (Ext.refl _)
    refine RnL.cons (fun g1 A_ W_ hs_ => ?_) ?_
    · have q1_ := (hs_.old 1 (by kernel_rfl) : A_.tmps[1]?.getD undef = .pointer (some ⟨w.heap.size, 0, none⟩))
      refine Rn.val fun K_ hK_ => ?_
      go_simp
      exact hK_.out _ (Ext.refl _)
    refine RnL.cons (fun g1 A_ W_ hs_ => ?_) ?_
    · have q11_ := hs_.val 7 rfl rfl rfl
      have cB0_1 := ((HB0_1.out.drew.ext hs_.1)).cell 1 rfl
      refine Rn.val fun K_ hK_ => ?_
      go_simp
      exact hK_.out _ (Ext.refl _)
    refine RnL.cons (fun g1 A_ W_ hs_ => ?_) ?_
    · have q10_ := hs_.val 6 rfl rfl rfl
      have q12_ := hs_.val 8 rfl rfl rfl
      refine Rn.val fun K_ hK_ => ?_
      go_simp
      refine (rmul_c n.y n.y _ (HG.out.ext (HX1.out.drew.trans hs_.1)) HN.out.y HN.out.y (by omega) (by omega)).mono ?_; rintro e W9_ ⟨rfl, e9_⟩; exact hK_.out _ e9_
    refine RnL.cons (fun g1 A_ W_ hs_ => ?_) ?_
    · have q8_ := hs_.val 4 rfl rfl rfl
      have q13_ := hs_.val 9 rfl rfl rfl
      refine Rn.val fun K_ hK_ => ?_
      go_simp
      refine (radd_c (n.x * n.x) (n.y * n.y) _ (HG.out.ext (HX1.out.drew.trans hs_.1)) (HN.out.x.mul HN.out.x) (HN.out.y.mul HN.out.y) (by omega) (by omega)).mono ?_; rintro e W9_ ⟨rfl, e9_⟩; exact hK_.out _ e9_
    refine RnL.cons (fun g1 A_ W_ hs_ => ?_) ?_
    · have q1_ := (hs_.old 1 (by kernel_rfl) : A_.tmps[1]?.getD undef = .pointer (some ⟨w.heap.size, 0, none⟩))
      refine Rn.val fun K_ hK_ => ?_
      go_simp
      exact hK_.out _ (Ext.refl _)
    refine RnL.cons (fun g1 A_ W_ hs_ => ?_) ?_
    · have q15_ := hs_.val 11 rfl rfl rfl
      have cB0_2 := ((HB0_1.out.drew.ext hs_.1)).cell 2 rfl
      refine Rn.val fun K_ hK_ => ?_
      go_simp
      exact hK_.out _ (Ext.refl _)
    refine RnL.cons (fun g1 A_ W_ hs_ => ?_) ?_
    · have q1_ := (hs_.old 1 (by kernel_rfl) : A_.tmps[1]?.getD undef = .pointer (some ⟨w.heap.size, 0, none⟩))
      refine Rn.val fun K_ hK_ => ?_
      go_simp
      exact hK_.out _ (Ext.refl _)
    refine RnL.cons (fun g1 A_ W_ hs_ => ?_) ?_
    · have q17_ := hs_.val 13 rfl rfl rfl
      have cB0_2 := ((HB0_1.out.drew.ext hs_.1)).cell 2 rfl
      refine Rn.val fun K_ hK_ => ?_
      go_simp
      exact hK_.out _ (Ext.refl _)
    refine RnL.cons (fun g1 A_ W_ hs_ => ?_) ?_
    · have q16_ := hs_.val 12 rfl rfl rfl
      have q18_ := hs_.val 14 rfl rfl rfl
      refine Rn.val fun K_ hK_ => ?_
      go_simp
      refine (rmul_c n.z n.z _ (HG.out.ext (HX1.out.drew.trans hs_.1)) HN.out.z HN.out.z (by omega) (by omega)).mono ?_; rintro e W9_ ⟨rfl, e9_⟩; exact hK_.out _ e9_
    refine RnL.cons (fun g1 A_ W_ hs_ => ?_) ?_
    · have q14_ := hs_.val 10 rfl rfl rfl
      refine Rn.val fun K_ hK_ => ?_
      go_simp
      exact hK_.out _ (Ext.refl _)
    refine RnL.cons (fun g1 A_ W_ hs_ => ?_) ?_
    · have q19_ := hs_.val 15 rfl rfl rfl
      refine Rn.val fun K_ hK_ => ?_
      go_simp
      exact hK_.out _ (Ext.refl _)
    exact RnL.nil
  simp only [fs, Kd.value, puts, Act.put, List.setIfInBounds_toArray, List.set_cons_zero, List.set_cons_succ]
  have HX2 : Hid (Ext w w2) := Lib.hid (HX1.out.drew.trans hx_)
  clear hx_ hm_ hne_
  go_wp2
  go_ret2
  exact ⟨rfl, HX2.out⟩

theorem neg_nz {n : V3} (h : ¬ (n.x = 0 ∧ n.y = 0 ∧ n.z = 0)) : ¬ ((⟨-n.x, -n.y, -n.z⟩ : V3).x = 0 ∧ (⟨-n.x, -n.y, -n.z⟩ : V3).y = 0 ∧ (⟨-n.x, -n.y, -n.z⟩ : V3).z = 0) := by
  rintro ⟨h1, h2, h3⟩
  simp only at h1 h2 h3
  exact h ⟨by grind, by grind, by grind⟩
theorem VB.negv {n : V3} {q : Nat} (h : VB q n) : VB q ⟨-n.x, -n.y, -n.z⟩ := ⟨h.x.neg, h.y.neg, h.z.neg⟩

set_option maxRecDepth 100000 in
set_option maxHeartbeats 2000000 in
theorem aflat_neg (n : V3) (w : World) (g : Gd w) (hn : VB 1 n) (hz : ¬ (n.x = 0 ∧ n.y = 0 ∧ n.z = 0)) : Calls Tryz.prog 38 #[.agg #[.string (qs (-n.x)), .string (qs (-n.y)), .string (qs (-n.z))], .agg #[.string (qs n.x), .string (qs n.y), .string (qs n.z)]] w (Ret w (.tuple #[.int .i64 0, .int .i64 0])) := by
  have HN := Lib.hid hn
  have HZ := Lib.hid hz
  have HG := Lib.hid g
  clear hn hz g
  have HZM := Lib.hid (neg_nz HZ.out)
  have ix0 : ∀ W, (Instr.index 95 (.agg #[.string (qs (-n.x)), .string (qs (-n.y)), .string (qs (-n.z)), .string (qs n.x), .string (qs n.y), .string (qs n.z)]) (.int .i64 0)).run Tryz.prog W = .ok (.agg #[.string (qs (-n.x)), .string (qs (-n.y)), .string (qs (-n.z))]) W := fun W => by kernel_rfl
  have ix1 : ∀ W, (Instr.index 95 (.agg #[.string (qs (-n.x)), .string (qs (-n.y)), .string (qs (-n.z)), .string (qs n.x), .string (qs n.y), .string (qs n.z)]) (.int .i64 1)).run Tryz.prog W = .ok (.agg #[.string (qs n.x), .string (qs n.y), .string (qs n.z)]) W := fun W => by kernel_rfl
  go_enter Tryz.func38, Tryz.ntmps38
  go_wp2_with fail
  refine wp_loop_rounds 3 ?_
  rw [rounds_succ]
  go_wp2_with fail
  refine (acheck_ok ⟨-n.x, -n.y, -n.z⟩ _ (HG.out.ext ((((Ext.refl w).alloc _).alloc _).alloc _)) (HN.out.negv.mono (by decide)) HZM.out).mono ?_; rintro e w1 ⟨rfl, e1⟩
  have HX1 : Hid (Ext w w1) := Lib.hid (((((Ext.refl w).alloc _).alloc _).alloc _).trans e1)
  have HB0_1 : Hid (Blk w1 (w.heap.size) #[.string (qs (-n.x)), .string (qs (-n.y)), .string (qs (-n.z))] 37) := Lib.hid (Blk.ext (((Blk.new' (w := _) (cs := #[.string (qs (-n.x)), .string (qs (-n.y)), .string (qs (-n.z))]) (t := 37) (by first | rfl | (simp only [World.size_alloc]; done) | (simp only [World.size_alloc]; omega) | simp)).alloc _).alloc _) e1)
  have HB1_1 : Hid (Blk w1 (w.heap.size + 1) #[.string (qs n.x), .string (qs n.y), .string (qs n.z)] 37) := Lib.hid (Blk.ext ((Blk.new' (w := _) (cs := #[.string (qs n.x), .string (qs n.y), .string (qs n.z)]) (t := 37) (by first | rfl | (simp only [World.size_alloc]; done) | (simp only [World.size_alloc]; omega) | simp)).alloc _) e1)
  have HGEB0 : Hid (w.heap.size ≤ w.heap.size) := Lib.hid (by first | omega | (simp only []; omega) | (simp; omega))
  have HGEB1 : Hid (w.heap.size ≤ w.heap.size + 1) := Lib.hid (by first | omega | (simp only []; omega) | (simp; omega))
  clear e1
  go_wp2_with fail
  rw [rounds_succ]
  go_upto_region 4 with fail
  refine wp_name (fun W => Ext w W ∧ Blk W (w.heap.size) #[.string (qs (-n.x)), .string (qs (-n.y)), .string (qs (-n.z))] 37 ∧ Blk W (w.heap.size + 1) #[.string (qs n.x), .string (qs n.y), .string (qs n.z)] 37 ∧ Blk W (w1.heap.size) #[.string (qs n.x), .string (qs n.y), .string (qs n.z)] 37) ⟨(HX1.out.alloc _), (HB0_1.out.alloc _), (HB1_1.out.alloc _), (Blk.new' (w := _) (cs := #[.string (qs n.x), .string (qs n.y), .string (qs n.z)]) (t := 37) (by first | rfl | (simp only [World.size_alloc]; done) | (simp only [World.size_alloc]; omega) | simp))⟩ ?_
  rintro w2 ⟨e2, bB0_2, bB1_2, bB3_2⟩
  have HX2 := Lib.hid e2; have HB0_2 := Lib.hid bB0_2; have HB1_2 := Lib.hid bB1_2; have HB3_2 := Lib.hid bB3_2
  have HGEB3 : Hid (w.heap.size ≤ w1.heap.size) := Lib.hid (by have := HX1.out.size; first | omega | (simp only []; omega) | (simp; omega))
  clear e2 bB0_2 bB1_2 bB3_2
  have c3_0 := HB3_2.out.cell 0 rfl
  have c3_1 := HB3_2.out.cell 1 rfl
  have c3_2 := HB3_2.out.cell 2 rfl
  go_wp2_with fail
  refine (acheck_ok n _ (HG.out.ext HX2.out) (HN.out.mono (by decide)) HZ.out).mono ?_; rintro e w3 ⟨rfl, e3⟩
  have HX3 : Hid (Ext w w3) := Lib.hid (HX2.out.trans e3)
  have HB0_3 := Lib.hid (Blk.ext HB0_2.out e3)
  have HB1_3 := Lib.hid (Blk.ext HB1_2.out e3)
  clear e3 c3_0 c3_1 c3_2
  go_wp2_with fail
  rw [rounds_succ]
  have c0_0 := HB0_3.out.cell 0 rfl
  have c0_1 := HB0_3.out.cell 1 rfl
  have c0_2 := HB0_3.out.cell 2 rfl
  go_wp2_with fail
  refine (asq_c ⟨-n.x, -n.y, -n.z⟩ _ (HG.out.ext HX3.out) HN.out.negv (by decide)).mono ?_; rintro e w4 ⟨rfl, e4⟩
  have HX4 : Hid (Ext w w4) := Lib.hid (HX3.out.trans e4)
  have HB1_4 := Lib.hid (Blk.ext HB1_3.out e4)
  clear e4 c0_0 c0_1 c0_2
  have c1_0 := HB1_4.out.cell 0 rfl
  have c1_1 := HB1_4.out.cell 1 rfl
  have c1_2 := HB1_4.out.cell 2 rfl
  go_wp2_with fail
  refine (asq_c n _ (HG.out.ext HX4.out) HN.out (by decide)).mono ?_; rintro e w5 ⟨rfl, e5⟩
  have HX5 : Hid (Ext w w5) := Lib.hid (HX4.out.trans e5)
  clear e5 c1_0 c1_1 c1_2
  go_wp2_with fail
  refine (rmul_c (-n.x * -n.x + -n.y * -n.y) (n.z * n.z) _ (HG.out.ext HX5.out) ((HN.out.x.neg.mul HN.out.x.neg).add (HN.out.y.neg.mul HN.out.y.neg)) (HN.out.z.mul HN.out.z) (by omega) (by omega)).mono ?_; rintro e w6 ⟨rfl, e6⟩
  have HX6 : Hid (Ext w w6) := Lib.hid (HX5.out.trans e6)
  clear e6
  go_wp2_with fail
  refine (rmul_c (n.x * n.x + n.y * n.y) (-n.z * -n.z) _ (HG.out.ext HX6.out) ((HN.out.x.mul HN.out.x).add (HN.out.y.mul HN.out.y)) (HN.out.z.neg.mul HN.out.z.neg) (by omega) (by omega)).mono ?_; rintro e w7 ⟨rfl, e7⟩
  have HX7 : Hid (Ext w w7) := Lib.hid (HX6.out.trans e7)
  clear e7
  go_wp2_with fail
  refine ((qcmp_zero (show (-n.x * -n.x + -n.y * -n.y) * (n.z * n.z) = (n.x * n.x + n.y * n.y) * (-n.z * -n.z) by grind) ▸ rcompare_c ((-n.x * -n.x + -n.y * -n.y) * (n.z * n.z)) ((n.x * n.x + n.y * n.y) * (-n.z * -n.z)) _ (HG.out.ext HX7.out) (((HN.out.x.neg.mul HN.out.x.neg).add (HN.out.y.neg.mul HN.out.y.neg)).mul (HN.out.z.mul HN.out.z)) (((HN.out.x.mul HN.out.x).add (HN.out.y.mul HN.out.y)).mul (HN.out.z.neg.mul HN.out.z.neg)) (by omega) (by omega))).mono ?_; rintro e w8 ⟨rfl, e8⟩
  have HX8 : Hid (Ext w w8) := Lib.hid (HX7.out.trans e8)
  clear e8
  go_wp2
  go_ret2
  exact ⟨rfl, HX8.out⟩

theorem flat_neg {n : V3} (hz : n.z ≠ 0) : flatv ⟨-n.x, -n.y, -n.z⟩ = flatv n := by
  unfold flatv
  by_cases h : n.z < 0
  · rw [if_pos h, if_neg (show ¬ -n.z < 0 by grind)]
  · rw [if_neg h, if_pos (show -n.z < 0 by grind), Rat.neg_neg, Rat.neg_neg]
theorem todir_neg {n : V3} (hz : n.z ≠ 0) : todir ⟨-n.x, -n.y, -n.z⟩ = todir n := by unfold todir; rw [flat_neg hz]
theorem astr_neg (n : V3) (w : World) (g : Gd w) (hn : VB 1 n) (h : ¬ (n.x = 0 ∧ n.y = 0)) (hz : n.z ≠ 0) : Calls Tryz.prog 35 #[.agg #[.string (qs (-n.x)), .string (qs (-n.y)), .string (qs (-n.z))]] w (Ret w (.tuple #[.agg #[.string (qs (-(todir n).y)), .string (qs (todir n).x)], .int .i64 0])) := by
  have := astr_ok ⟨-n.x, -n.y, -n.z⟩ w g (hn.negv.mono (by decide)) (fun e => h ⟨by have := e.1; simp only at this; grind, by have := e.2; simp only at this; grind⟩)
  rw [todir_neg hz] at this
  exact this
theorem agrad_neg (n : V3) (w : World) (g : Gd w) (hn : VB 1 n) (h0 : n.z ≠ 0) (hz : ¬ (n.x = 0 ∧ n.y = 0 ∧ n.z = 0)) : Calls Tryz.prog 27 #[.agg #[.string (qs (-n.x)), .string (qs (-n.y)), .string (qs (-n.z))]] w (Ret w (.tuple #[.agg #[.string (qs (-n.x / n.z)), .string (qs (-n.y / n.z))], .int .i64 0])) := by
  have := agrad_ok ⟨-n.x, -n.y, -n.z⟩ w g (hn.negv.mono (by decide)) (hn.negv.mono (by decide)) (neg_nz hz) (show -n.z ≠ 0 by intro e; exact h0 (by grind))
  have e1 : -(-n.x) / -n.z = -n.x / n.z := by grind
  have e2 : -(-n.y) / -n.z = -n.y / n.z := by grind
  simp only [e1, e2] at this
  exact this
theorem tow_nz {n : V3} {q : Nat} {d : P2} (h : TowOk n q d) : ¬ (d.x = 0 ∧ d.y = 0) := by
  rintro ⟨h1, h2⟩
  have := h.gcd
  rw [h1, h2] at this
  exact absurd this (by decide)
theorem sq2_pos' {n : V3} (h : ¬ (n.x = 0 ∧ n.y = 0)) : 0 < n.x * n.x + n.y * n.y := by
  have a := sq_nonneg' n.x; have b := sq_nonneg' n.y
  by_cases hx : n.x = 0
  · have := sq_pos' (fun e => h ⟨hx, e⟩ : n.y ≠ 0); grind
  · have := sq_pos' hx; grind
theorem along_strike {n : V3} {q : Nat} {d : P2} (h : TowOk n q d) : (n.x * -d.y + n.y * d.x) / n.z = 0 := by
  obtain ⟨c, _, e1, e2⟩ := h.scale
  have : n.x * -d.y + n.y * d.x = 0 := by
    rw [e1, e2]; unfold flatv
    by_cases hz : n.z < 0
    · rw [if_pos hz]; grind
    · rw [if_neg hz]; grind
  rw [this, Rat.div_def, Rat.zero_mul]
theorem along_dip {n : V3} {q : Nat} {d : P2} (h : TowOk n q d) (hz : n.z ≠ 0) (hn : ¬ (n.x = 0 ∧ n.y = 0)) : 0 < (n.x * d.x + n.y * d.y) / n.z := by
  obtain ⟨c, hc, e1, e2⟩ := h.scale
  have hs := Rat.mul_pos (sq2_pos' hn) hc
  rw [e1, e2, Rat.div_def]; unfold flatv
  by_cases h0 : n.z < 0
  · rw [if_pos h0]
    have h1 : 0 < (-n.z)⁻¹ := Rat.inv_pos.2 (by grind)
    have h2 := Rat.mul_pos hs h1
    have h3 : (n.x * (-n.x * c) + n.y * (-n.y * c)) * n.z⁻¹ = (n.x * n.x + n.y * n.y) * c * (-n.z)⁻¹ := by grind
    simp only
    rw [h3]; exact h2
  · rw [if_neg h0]
    have h1 : 0 < n.z⁻¹ := Rat.inv_pos.2 (by grind)
    have h2 := Rat.mul_pos hs h1
    have h3 : (n.x * (n.x * c) + n.y * (n.y * c)) * n.z⁻¹ = (n.x * n.x + n.y * n.y) * c * n.z⁻¹ := by grind
    simp only
    rw [h3]; exact h2
theorem aapp_strike (n : V3) (d : P2) (w : World) (g : Gd w) (hn : VB 1 n) (hd : TowOk n 1 d) (h0 : n.z ≠ 0) (hz : ¬ (n.x = 0 ∧ n.y = 0 ∧ n.z = 0)) : Calls Tryz.prog 30 #[vv n, .agg #[.string (qs (-d.y)), .string (qs d.x)]] w (Ret w (.tuple #[.string ⟨#[48]⟩, .int .i64 0])) := by
  have hb : PB 10 (⟨-d.y, d.x⟩ : P2) := ⟨hd.pb.y.neg, hd.pb.x⟩
  have := aapp_ok n ⟨-d.y, d.x⟩ w g (hn.mono (by decide)) (hb.mono (by decide)) (.ok n rfl (hn.mono (by decide)) hz) (.ok ⟨-d.y, d.x⟩ rfl (hb.mono (by decide)) (fun e => tow_nz hd ⟨e.2, by have := e.1; simp only at this; grind⟩)) h0
  simp only [along_strike hd, qs_zero] at this
  exact this
theorem aapp_dip (n : V3) (d : P2) (w : World) (g : Gd w) (hn : VB 1 n) (hd : TowOk n 1 d) (h0 : n.z ≠ 0) (hz : ¬ (n.x = 0 ∧ n.y = 0 ∧ n.z = 0)) : Calls Tryz.prog 30 #[vv n, pv d] w (Ret w (.tuple #[.string (qs ((n.x * d.x + n.y * d.y) / n.z)), .int .i64 0])) :=
  aapp_ok n d w g (hn.mono (by decide)) (hd.pb.mono (by decide)) (.ok n rfl (hn.mono (by decide)) hz) (.ok d rfl (hd.pb.mono (by decide)) (tow_nz hd)) h0
end Go.Proofs.YtplimbgaoengfaaGreatDoor

namespace Go.Proofs.YtplimbgaoengfaaGreatDoor
open Go Go.RowKit
set_option linter.unusedVariables false
set_option maxRecDepth 100000 in
set_option maxHeartbeats 8000000 in
theorem turns15_A (i j k : Int) (w : World) (g : Gd w) (hi0 : -128 ≤ i ∧ i ≤ 127) (hj0 : -128 ≤ j ∧ j ≤ 127) (hk0 : -128 ≤ k ∧ k ≤ 127) (hx : (sv3 i j k).x = 0) (hy : (sv3 i j k).y = 0) : Calls Tryz.prog 9 #[.agg #[.int .i8 i, .int .i8 j, .int .i8 k]] w (Ret w (.bool true)) := by
  have HG := Lib.hid g
  clear g
  obtain ⟨n, en⟩ : ∃ n, sv3 i j k = n := ⟨_, rfl⟩
  have HN : Hid (VB 1 n) := Lib.hid (en ▸ sv3_vb i j k)
  have HEN := Lib.hid en
  have HI0 := Lib.hid hi0
  have HJ0 := Lib.hid hj0
  have HK0 := Lib.hid hk0
  rw [en] at hx hy
  have hx_t := qs_is0 hx
  have hy_t := qs_is0 hy
  clear hx hy en hi0 hj0 hk0
  go_enter Tryz.func9, Tryz.ntmps9
  go_wp2_with fail
  refine ((HEN.out ▸ lvec_c i j k _ (HG.out.ext ((Ext.refl w).alloc _)) HI0.out HJ0.out HK0.out)).mono ?_; rintro e w1 ⟨rfl, e1⟩
  have HX1 : Hid (Ext w w1) := Lib.hid (((Ext.refl w).alloc _).trans e1)
  clear e1
  go_wp2_with fail
  refine (known15_c _ (HG.out.ext (HX1.out.alloc _))).mono ?_; rintro e w2 ⟨rfl, e2⟩
  have HX2 : Hid (Ext w w2) := Lib.hid ((HX1.out.alloc _).trans e2)
  have HB1_2 : Hid (Blk w2 (w1.heap.size) #[.string (qs n.x), .string (qs n.y), .string (qs n.z)] 37) := Lib.hid (Blk.ext (Blk.new' (w := _) (cs := #[.string (qs n.x), .string (qs n.y), .string (qs n.z)]) (t := 37) (by first | rfl | (simp only [World.size_alloc]; done) | (simp only [World.size_alloc]; omega) | simp)) e2)
  have HGEB1 : Hid (w.heap.size ≤ w1.heap.size) := Lib.hid (by have := HX1.out.size; first | omega | (simp only []; omega) | (simp; omega))
  clear e2
  have c1_0 := HB1_2.out.cell 0 rfl
  have c1_1 := HB1_2.out.cell 1 rfl
  go_wp2_with fail
  refine (known15_c _ (HG.out.ext HX2.out)).mono ?_; rintro e w3 ⟨rfl, e3⟩
  have HX3 : Hid (Ext w w3) := Lib.hid (HX2.out.trans e3)
  clear e3 c1_0 c1_1
  go_wp2
  go_ret
  exact ⟨rfl, HX3.out⟩

set_option maxRecDepth 100000 in
set_option maxHeartbeats 8000000 in
theorem turns15_B0 (i j k : Int) (w : World) (g : Gd w) (hi0 : -128 ≤ i ∧ i ≤ 127) (hj0 : -128 ≤ j ∧ j ≤ 127) (hk0 : -128 ≤ k ∧ k ≤ 127) (hx : (sv3 i j k).x ≠ 0) (hz : (sv3 i j k).z = 0) : Calls Tryz.prog 9 #[.agg #[.int .i8 i, .int .i8 j, .int .i8 k]] w (Ret w (.bool true)) := by
  have HG := Lib.hid g
  clear g
  obtain ⟨n, en⟩ : ∃ n, sv3 i j k = n := ⟨_, rfl⟩
  have HN : Hid (VB 1 n) := Lib.hid (en ▸ sv3_vb i j k)
  have HEN := Lib.hid en
  have HI0 := Lib.hid hi0
  have HJ0 := Lib.hid hj0
  have HK0 := Lib.hid hk0
  rw [en] at hx hz
  have hx_t := qs_not0 hx
  have hz_t := qs_is0 hz
  clear hx hz en hi0 hj0 hk0
  go_enter Tryz.func9, Tryz.ntmps9
  go_wp2_with fail
  refine ((HEN.out ▸ lvec_c i j k _ (HG.out.ext ((Ext.refl w).alloc _)) HI0.out HJ0.out HK0.out)).mono ?_; rintro e w1 ⟨rfl, e1⟩
  have HX1 : Hid (Ext w w1) := Lib.hid (((Ext.refl w).alloc _).trans e1)
  clear e1
  go_wp2_with fail
  refine (known15_c _ (HG.out.ext (HX1.out.alloc _))).mono ?_; rintro e w2 ⟨rfl, e2⟩
  have HX2 : Hid (Ext w w2) := Lib.hid ((HX1.out.alloc _).trans e2)
  have HB1_2 : Hid (Blk w2 (w1.heap.size) #[.string (qs n.x), .string (qs n.y), .string (qs n.z)] 37) := Lib.hid (Blk.ext (Blk.new' (w := _) (cs := #[.string (qs n.x), .string (qs n.y), .string (qs n.z)]) (t := 37) (by first | rfl | (simp only [World.size_alloc]; done) | (simp only [World.size_alloc]; omega) | simp)) e2)
  have HGEB1 : Hid (w.heap.size ≤ w1.heap.size) := Lib.hid (by have := HX1.out.size; first | omega | (simp only []; omega) | (simp; omega))
  clear e2
  have c1_0 := HB1_2.out.cell 0 rfl
  have c1_2 := HB1_2.out.cell 2 rfl
  go_wp2_with fail
  refine (known15_c _ (HG.out.ext HX2.out)).mono ?_; rintro e w3 ⟨rfl, e3⟩
  have HX3 : Hid (Ext w w3) := Lib.hid (HX2.out.trans e3)
  clear e3 c1_0 c1_2
  go_wp2
  go_ret
  exact ⟨rfl, HX3.out⟩

set_option maxRecDepth 100000 in
set_option maxHeartbeats 8000000 in
theorem turns15_B1 (i j k : Int) (w : World) (g : Gd w) (hi0 : -128 ≤ i ∧ i ≤ 127) (hj0 : -128 ≤ j ∧ j ≤ 127) (hk0 : -128 ≤ k ∧ k ≤ 127) (hx : (sv3 i j k).x = 0) (hy : (sv3 i j k).y ≠ 0) (hz : (sv3 i j k).z = 0) : Calls Tryz.prog 9 #[.agg #[.int .i8 i, .int .i8 j, .int .i8 k]] w (Ret w (.bool true)) := by
  have HG := Lib.hid g
  clear g
  obtain ⟨n, en⟩ : ∃ n, sv3 i j k = n := ⟨_, rfl⟩
  have HN : Hid (VB 1 n) := Lib.hid (en ▸ sv3_vb i j k)
  have HEN := Lib.hid en
  have HI0 := Lib.hid hi0
  have HJ0 := Lib.hid hj0
  have HK0 := Lib.hid hk0
  rw [en] at hx hy hz
  have hx_t := qs_is0 hx
  have hy_t := qs_not0 hy
  have hz_t := qs_is0 hz
  clear hx hy hz en hi0 hj0 hk0
  go_enter Tryz.func9, Tryz.ntmps9
  go_wp2_with fail
  refine ((HEN.out ▸ lvec_c i j k _ (HG.out.ext ((Ext.refl w).alloc _)) HI0.out HJ0.out HK0.out)).mono ?_; rintro e w1 ⟨rfl, e1⟩
  have HX1 : Hid (Ext w w1) := Lib.hid (((Ext.refl w).alloc _).trans e1)
  clear e1
  go_wp2_with fail
  refine (known15_c _ (HG.out.ext (HX1.out.alloc _))).mono ?_; rintro e w2 ⟨rfl, e2⟩
  have HX2 : Hid (Ext w w2) := Lib.hid ((HX1.out.alloc _).trans e2)
  have HB1_2 : Hid (Blk w2 (w1.heap.size) #[.string (qs n.x), .string (qs n.y), .string (qs n.z)] 37) := Lib.hid (Blk.ext (Blk.new' (w := _) (cs := #[.string (qs n.x), .string (qs n.y), .string (qs n.z)]) (t := 37) (by first | rfl | (simp only [World.size_alloc]; done) | (simp only [World.size_alloc]; omega) | simp)) e2)
  have HGEB1 : Hid (w.heap.size ≤ w1.heap.size) := Lib.hid (by have := HX1.out.size; first | omega | (simp only []; omega) | (simp; omega))
  clear e2
  have c1_0 := HB1_2.out.cell 0 rfl
  have c1_1 := HB1_2.out.cell 1 rfl
  have c1_2 := HB1_2.out.cell 2 rfl
  go_wp2_with fail
  refine (known15_c _ (HG.out.ext HX2.out)).mono ?_; rintro e w3 ⟨rfl, e3⟩
  have HX3 : Hid (Ext w w3) := Lib.hid (HX2.out.trans e3)
  clear e3 c1_0 c1_1 c1_2
  go_wp2
  go_ret
  exact ⟨rfl, HX3.out⟩

set_option maxRecDepth 100000 in
set_option maxHeartbeats 16000000 in
theorem turns15_M0 (i j k : Int) (w : World) (g : Gd w) (hi0 : -128 ≤ i ∧ i ≤ 127) (hj0 : -128 ≤ j ∧ j ≤ 127) (hk0 : -128 ≤ k ∧ k ≤ 127) (hx : (sv3 i j k).x ≠ 0) (hz : (sv3 i j k).z ≠ 0) : Calls Tryz.prog 9 #[.agg #[.int .i8 i, .int .i8 j, .int .i8 k]] w (Ret w (.bool true)) := by
  have HG := Lib.hid g
  clear g
  obtain ⟨n, en⟩ : ∃ n, sv3 i j k = n := ⟨_, rfl⟩
  have HN : Hid (VB 1 n) := Lib.hid (en ▸ sv3_vb i j k)
  have HEN := Lib.hid en
  have HI0 := Lib.hid hi0
  have HJ0 := Lib.hid hj0
  have HK0 := Lib.hid hk0
  rw [en] at hx hz
  have hx_t := qs_not0 hx
  have hz_t := qs_not0 hz
  have HZ2 : Hid (¬ (n.x = 0 ∧ n.y = 0)) := Lib.hid (fun e => hx e.1)
  have HZ : Hid (¬ (n.x = 0 ∧ n.y = 0 ∧ n.z = 0)) := Lib.hid (fun e => hz e.2.2)
  have H0 := Lib.hid hz
  obtain ⟨d, ed⟩ : ∃ d, todir n = d := ⟨_, rfl⟩
  have HD : Hid (TowOk n 1 d) := Lib.hid (ed ▸ tow_ok (by decide) (by decide) HN.out HZ2.out)
  have HED := Lib.hid ed
  obtain ⟨tt, et⟩ : ∃ tt, (n.x * d.x + n.y * d.y) / n.z = tt := ⟨_, rfl⟩
  have HTS : Hid (tt.num.sign = 1) := Lib.hid (et ▸ sgn_of_pos (along_dip HD.out H0.out HZ2.out))
  have HET := Lib.hid et
  clear hx hz en ed et hi0 hj0 hk0
  go_enter Tryz.func9, Tryz.ntmps9
  go_wp2_with fail
  refine ((HEN.out ▸ lvec_c i j k _ (HG.out.ext ((Ext.refl w).alloc _)) HI0.out HJ0.out HK0.out)).mono ?_; rintro e w1 ⟨rfl, e1⟩
  have HX1 : Hid (Ext w w1) := Lib.hid (((Ext.refl w).alloc _).trans e1)
  clear e1
  go_wp2_with fail
  refine (known15_c _ (HG.out.ext (HX1.out.alloc _))).mono ?_; rintro e w2 ⟨rfl, e2⟩
  have HX2 : Hid (Ext w w2) := Lib.hid ((HX1.out.alloc _).trans e2)
  have HB1_2 : Hid (Blk w2 (w1.heap.size) #[.string (qs n.x), .string (qs n.y), .string (qs n.z)] 37) := Lib.hid (Blk.ext (Blk.new' (w := _) (cs := #[.string (qs n.x), .string (qs n.y), .string (qs n.z)]) (t := 37) (by first | rfl | (simp only [World.size_alloc]; done) | (simp only [World.size_alloc]; omega) | simp)) e2)
  have HGEB1 : Hid (w.heap.size ≤ w1.heap.size) := Lib.hid (by have := HX1.out.size; first | omega | (simp only []; omega) | (simp; omega))
  clear e2
  have c1_0 := HB1_2.out.cell 0 rfl
  have c1_2 := HB1_2.out.cell 2 rfl
  go_wp2_with fail
  refine wp_name (fun W => Ext w W ∧ Blk W (w1.heap.size) #[.string (qs n.x), .string (qs n.y), .string (qs n.z)] 37) ⟨HX2.out, HB1_2.out⟩ ?_
  rintro w3 ⟨e3, bB1_3⟩
  have HX3 := Lib.hid e3; have HB1_3 := Lib.hid bB1_3
  clear e3 bB1_3 c1_0 c1_2
  refine region_lin [.val (.pointer (some ⟨w1.heap.size, 0, none⟩)), .val (.string (qs n.x)), .val (.string (qs (-n.x))), .val (.pointer (some ⟨w1.heap.size, 1, none⟩)), .val (.string (qs n.y)), .val (.string (qs (-n.y))), .val (.pointer (some ⟨w1.heap.size, 2, none⟩)), .val (.string (qs n.z)), .val (.string (qs (-n.z))), .val (.agg #[.string (qs (-n.x)), .string (qs (-n.y)), .string (qs (-n.z))]), .mem (fun b_ => .pointer (some ⟨b_, 0, none⟩)) #[.string ⟨#[]⟩, .string ⟨#[]⟩, .string ⟨#[]⟩] 37 (Option.some 11), .put 10 #[.string (qs (-n.x)), .string (qs (-n.y)), .string (qs (-n.z))]] (by kernel_rfl) (by kernel_rfl) (by kernel_rfl) ?_ (fun g3 w4 hx_ hm_ hne_ => ?_)
  · skip
    refine RnL.cons (fun g3 A_ W_ hs_ => ?_) ?_
    · have q3_ := (hs_.old 3 (by kernel_rfl) : A_.tmps[3]?.getD undef = .pointer (some ⟨w1.heap.size, 0, none⟩))
      refine Rn.val fun K_ hK_ => ?_
      go_simp
      exact hK_.out _ (Ext.refl _)
    refine RnL.cons (fun g3 A_ W_ hs_ => ?_) ?_
    · have q41_ := hs_.val 0 rfl rfl rfl
      have cB1_0 := ((HB1_3.out.drew.ext hs_.1)).cell 0 rfl
      refine Rn.val fun K_ hK_ => ?_
      go_simp
      exact hK_.out _ (Ext.refl _)
    refine RnL.cons (fun g3 A_ W_ hs_ => ?_) ?_
    · have q42_ := hs_.val 1 rfl rfl rfl
      refine Rn.val fun K_ hK_ => ?_
      go_simp
      refine (rneg_c n.x _ HN.out.x (by omega)).mono ?_; rintro e W9_ ⟨rfl, e9_⟩; exact hK_.out _ e9_
    refine RnL.cons (fun g3 A_ W_ hs_ => ?_) ?_
    · have q3_ := (hs_.old 3 (by kernel_rfl) : A_.tmps[3]?.getD undef = .pointer (some ⟨w1.heap.size, 0, none⟩))
      refine Rn.val fun K_ hK_ => ?_
      go_simp
      exact hK_.out _ (Ext.refl _)
    refine RnL.cons (fun g3 A_ W_ hs_ => ?_) ?_
    · have q44_ := hs_.val 3 rfl rfl rfl
      have cB1_1 := ((HB1_3.out.drew.ext hs_.1)).cell 1 rfl
      refine Rn.val fun K_ hK_ => ?_
      go_simp
      exact hK_.out _ (Ext.refl _)
    refine RnL.cons (fun g3 A_ W_ hs_ => ?_) ?_
    · have q45_ := hs_.val 4 rfl rfl rfl
      refine Rn.val fun K_ hK_ => ?_
      go_simp
      refine (rneg_c n.y _ HN.out.y (by omega)).mono ?_; rintro e W9_ ⟨rfl, e9_⟩; exact hK_.out _ e9_
    refine RnL.cons (fun g3 A_ W_ hs_ => ?_) ?_
    · have q3_ := (hs_.old 3 (by kernel_rfl) : A_.tmps[3]?.getD undef = .pointer (some ⟨w1.heap.size, 0, none⟩))
      refine Rn.val fun K_ hK_ => ?_
      go_simp
      exact hK_.out _ (Ext.refl _)
    refine RnL.cons (fun g3 A_ W_ hs_ => ?_) ?_
    · have q47_ := hs_.val 6 rfl rfl rfl
      have cB1_2 := ((HB1_3.out.drew.ext hs_.1)).cell 2 rfl
      refine Rn.val fun K_ hK_ => ?_
      go_simp
      exact hK_.out _ (Ext.refl _)
    refine RnL.cons (fun g3 A_ W_ hs_ => ?_) ?_
    · have q48_ := hs_.val 7 rfl rfl rfl
      refine Rn.val fun K_ hK_ => ?_
      go_simp
      refine (rneg_c n.z _ HN.out.z (by omega)).mono ?_; rintro e W9_ ⟨rfl, e9_⟩; exact hK_.out _ e9_
    refine RnL.cons (fun g3 A_ W_ hs_ => ?_) ?_
    · have q43_ := hs_.val 2 rfl rfl rfl
      have q46_ := hs_.val 5 rfl rfl rfl
      have q49_ := hs_.val 8 rfl rfl rfl
      refine Rn.val fun K_ hK_ => ?_
      go_simp
      exact hK_.out _ (Ext.refl _)
    refine RnL.cons (fun g3 A_ W_ hs_ => ?_) ?_
    · refine Rn.mem fun K_ hK_ => ?_
      go_simp
      exact hK_.out
    refine RnL.cons (fun g3 A_ W_ hs_ => ?_) ?_
    · have q4_ := (hs_.mem 10 rfl rfl rfl).1
      have q50_ := hs_.val 9 rfl rfl rfl
      refine Rn.put (z := #[.string ⟨#[]⟩, .string ⟨#[]⟩, .string ⟨#[]⟩]) (t := 37) rfl fun hB K_ hK_ => ?_
      have c_0 := hB.cell 0 rfl; have f_0 := hB.free 0
      have c_1 := hB.cell 1 rfl; have f_1 := hB.free 1
      have c_2 := hB.cell 2 rfl; have f_2 := hB.free 2
      have HB := Lib.hid hB; clear hB
      go_simp
      exact hK_.out _ ((((Only.refl _ _).set 0 _).set 1 _).set 2 _) (((HB.out.set 0 _).set 1 _).set 2 _)
    exact RnL.nil
  simp only [fs, Kd.value, puts, Act.put, List.setIfInBounds_toArray, List.set_cons_zero, List.set_cons_succ, Nat.reduceAdd]
  have HX4 : Hid (Ext w w4) := Lib.hid (HX3.out.drew.trans hx_)
  have HB1_4 := Lib.hid (HB1_3.out.drew.ext hx_)
  have HB2_4 : Hid (Blk w4 (g3 10) #[.string (qs (-n.x)), .string (qs (-n.y)), .string (qs (-n.z))] 37) := Lib.hid (hm_ 10 _ _ _ _ rfl).2; have HGEB2 : Hid (w.heap.size ≤ g3 10) := Lib.hid (Nat.le_trans HX3.out.size (hm_ 10 _ _ _ _ rfl).1)
  have HNEB1B2 : Hid (w1.heap.size ≠ g3 10) := Lib.hid (Nat.ne_of_lt (Nat.lt_of_lt_of_le HB1_3.out.lt (hm_ 10 _ _ _ _ rfl).1))
  clear hx_ hm_ hne_
  generalize g3 10 = i2 at *
  clear g3
  have c1_0 := HB1_4.out.cell 0 rfl
  have c1_1 := HB1_4.out.cell 1 rfl
  have c1_2 := HB1_4.out.cell 2 rfl
  go_wp2_with fail
  refine ((HED.out ▸ astr_ok n _ (HG.out.ext HX4.out) (HN.out.mono (by decide)) HZ2.out)).mono ?_; rintro e w5 ⟨rfl, e5⟩
  have HX5 : Hid (Ext w w5) := Lib.hid (HX4.out.trans e5)
  have HB1_5 := Lib.hid (Blk.ext HB1_4.out e5)
  have HB2_5 := Lib.hid (Blk.ext HB2_4.out e5)
  clear e5 c1_0 c1_1 c1_2
  go_upto_region 6 with fail
  refine wp_name (fun W => Ext w W ∧ Blk W (w1.heap.size) #[.string (qs n.x), .string (qs n.y), .string (qs n.z)] 37 ∧ Blk W (i2) #[.string (qs (-n.x)), .string (qs (-n.y)), .string (qs (-n.z))] 37 ∧ Blk W (w5.heap.size) #[.string (qs (-d.y)), .string (qs d.x)] 24) ⟨(HX5.out.alloc _), (HB1_5.out.alloc _), (HB2_5.out.alloc _), (Blk.new' (w := _) (cs := #[.string (qs (-d.y)), .string (qs d.x)]) (t := 24) (by first | rfl | (simp only [World.size_alloc]; done) | (simp only [World.size_alloc]; omega) | simp))⟩ ?_
  rintro w6 ⟨e6, bB1_6, bB2_6, bB3_6⟩
  have HX6 := Lib.hid e6; have HB1_6 := Lib.hid bB1_6; have HB2_6 := Lib.hid bB2_6; have HB3_6 := Lib.hid bB3_6
  have HGEB3 : Hid (w.heap.size ≤ w5.heap.size) := Lib.hid (by have := HX5.out.size; first | omega | (simp only []; omega) | (simp; omega))
  clear e6 bB1_6 bB2_6 bB3_6
  have c2_0 := HB2_6.out.cell 0 rfl
  have c2_1 := HB2_6.out.cell 1 rfl
  have c2_2 := HB2_6.out.cell 2 rfl
  go_wp2_with fail
  refine ((HED.out ▸ astr_neg n _ (HG.out.ext HX6.out) HN.out HZ2.out H0.out)).mono ?_; rintro e w7 ⟨rfl, e7⟩
  have HX7 : Hid (Ext w w7) := Lib.hid (HX6.out.trans e7)
  have HB1_7 := Lib.hid (Blk.ext HB1_6.out e7)
  have HB2_7 := Lib.hid (Blk.ext HB2_6.out e7)
  have HB3_7 := Lib.hid (Blk.ext HB3_6.out e7)
  clear e7 c2_0 c2_1 c2_2
  go_upto_region 7 with fail
  refine wp_name (fun W => Ext w W ∧ Blk W (w1.heap.size) #[.string (qs n.x), .string (qs n.y), .string (qs n.z)] 37 ∧ Blk W (i2) #[.string (qs (-n.x)), .string (qs (-n.y)), .string (qs (-n.z))] 37 ∧ Blk W (w5.heap.size) #[.string (qs (-d.y)), .string (qs d.x)] 24 ∧ Blk W (w7.heap.size) #[.string (qs (-d.y)), .string (qs d.x)] 24) ⟨(HX7.out.alloc _), (HB1_7.out.alloc _), (HB2_7.out.alloc _), (HB3_7.out.alloc _), (Blk.new' (w := _) (cs := #[.string (qs (-d.y)), .string (qs d.x)]) (t := 24) (by first | rfl | (simp only [World.size_alloc]; done) | (simp only [World.size_alloc]; omega) | simp))⟩ ?_
  rintro w8 ⟨e8, bB1_8, bB2_8, bB3_8, bB4_8⟩
  have HX8 := Lib.hid e8; have HB1_8 := Lib.hid bB1_8; have HB2_8 := Lib.hid bB2_8; have HB3_8 := Lib.hid bB3_8; have HB4_8 := Lib.hid bB4_8
  have HGEB4 : Hid (w.heap.size ≤ w7.heap.size) := Lib.hid (by have := HX7.out.size; first | omega | (simp only []; omega) | (simp; omega))
  clear e8 bB1_8 bB2_8 bB3_8 bB4_8
  have c2_0 := HB2_8.out.cell 0 rfl
  have c2_1 := HB2_8.out.cell 1 rfl
  have c2_2 := HB2_8.out.cell 2 rfl
  have c1_0 := HB1_8.out.cell 0 rfl
  have c1_1 := HB1_8.out.cell 1 rfl
  have c1_2 := HB1_8.out.cell 2 rfl
  go_wp2_with fail
  refine (aflat_neg n _ (HG.out.ext HX8.out) HN.out HZ.out).mono ?_; rintro e w9 ⟨rfl, e9⟩
  have HX9 : Hid (Ext w w9) := Lib.hid (HX8.out.trans e9)
  have HB1_9 := Lib.hid (Blk.ext HB1_8.out e9)
  have HB2_9 := Lib.hid (Blk.ext HB2_8.out e9)
  have HB3_9 := Lib.hid (Blk.ext HB3_8.out e9)
  have HB4_9 := Lib.hid (Blk.ext HB4_8.out e9)
  clear e9 c2_0 c2_1 c2_2 c1_0 c1_1 c1_2
  have c1_0 := HB1_9.out.cell 0 rfl
  have c1_1 := HB1_9.out.cell 1 rfl
  have c1_2 := HB1_9.out.cell 2 rfl
  go_wp2_with fail
  refine (agrad_ok n _ (HG.out.ext HX9.out) (HN.out.mono (by decide)) (HN.out.mono (by decide)) HZ.out H0.out).mono ?_; rintro e w10 ⟨rfl, e10⟩
  have HX10 : Hid (Ext w w10) := Lib.hid (HX9.out.trans e10)
  have HB1_10 := Lib.hid (Blk.ext HB1_9.out e10)
  have HB2_10 := Lib.hid (Blk.ext HB2_9.out e10)
  have HB3_10 := Lib.hid (Blk.ext HB3_9.out e10)
  have HB4_10 := Lib.hid (Blk.ext HB4_9.out e10)
  clear e10 c1_0 c1_1 c1_2
  go_upto_region 9 with fail
  refine wp_name (fun W => Ext w W ∧ Blk W (w1.heap.size) #[.string (qs n.x), .string (qs n.y), .string (qs n.z)] 37 ∧ Blk W (i2) #[.string (qs (-n.x)), .string (qs (-n.y)), .string (qs (-n.z))] 37 ∧ Blk W (w5.heap.size) #[.string (qs (-d.y)), .string (qs d.x)] 24 ∧ Blk W (w7.heap.size) #[.string (qs (-d.y)), .string (qs d.x)] 24 ∧ Blk W (w10.heap.size) #[.string (qs (-n.x / n.z)), .string (qs (-n.y / n.z))] 24) ⟨(HX10.out.alloc _), (HB1_10.out.alloc _), (HB2_10.out.alloc _), (HB3_10.out.alloc _), (HB4_10.out.alloc _), (Blk.new' (w := _) (cs := #[.string (qs (-n.x / n.z)), .string (qs (-n.y / n.z))]) (t := 24) (by first | rfl | (simp only [World.size_alloc]; done) | (simp only [World.size_alloc]; omega) | simp))⟩ ?_
  rintro w11 ⟨e11, bB1_11, bB2_11, bB3_11, bB4_11, bB5_11⟩
  have HX11 := Lib.hid e11; have HB1_11 := Lib.hid bB1_11; have HB2_11 := Lib.hid bB2_11; have HB3_11 := Lib.hid bB3_11; have HB4_11 := Lib.hid bB4_11; have HB5_11 := Lib.hid bB5_11
  have HGEB5 : Hid (w.heap.size ≤ w10.heap.size) := Lib.hid (by have := HX10.out.size; first | omega | (simp only []; omega) | (simp; omega))
  clear e11 bB1_11 bB2_11 bB3_11 bB4_11 bB5_11
  have c2_0 := HB2_11.out.cell 0 rfl
  have c2_1 := HB2_11.out.cell 1 rfl
  have c2_2 := HB2_11.out.cell 2 rfl
  go_wp2_with fail
  refine (agrad_neg n _ (HG.out.ext HX11.out) HN.out H0.out HZ.out).mono ?_; rintro e w12 ⟨rfl, e12⟩
  have HX12 : Hid (Ext w w12) := Lib.hid (HX11.out.trans e12)
  have HB1_12 := Lib.hid (Blk.ext HB1_11.out e12)
  have HB3_12 := Lib.hid (Blk.ext HB3_11.out e12)
  have HB4_12 := Lib.hid (Blk.ext HB4_11.out e12)
  have HB5_12 := Lib.hid (Blk.ext HB5_11.out e12)
  clear e12 c2_0 c2_1 c2_2
  go_upto_region 10 with fail
  refine wp_name (fun W => Ext w W ∧ Blk W (w1.heap.size) #[.string (qs n.x), .string (qs n.y), .string (qs n.z)] 37 ∧ Blk W (w5.heap.size) #[.string (qs (-d.y)), .string (qs d.x)] 24 ∧ Blk W (w7.heap.size) #[.string (qs (-d.y)), .string (qs d.x)] 24 ∧ Blk W (w10.heap.size) #[.string (qs (-n.x / n.z)), .string (qs (-n.y / n.z))] 24 ∧ Blk W (w12.heap.size) #[.string (qs (-n.x / n.z)), .string (qs (-n.y / n.z))] 24) ⟨(HX12.out.alloc _), (HB1_12.out.alloc _), (HB3_12.out.alloc _), (HB4_12.out.alloc _), (HB5_12.out.alloc _), (Blk.new' (w := _) (cs := #[.string (qs (-n.x / n.z)), .string (qs (-n.y / n.z))]) (t := 24) (by first | rfl | (simp only [World.size_alloc]; done) | (simp only [World.size_alloc]; omega) | simp))⟩ ?_
  rintro w13 ⟨e13, bB1_13, bB3_13, bB4_13, bB5_13, bB6_13⟩
  have HX13 := Lib.hid e13; have HB1_13 := Lib.hid bB1_13; have HB3_13 := Lib.hid bB3_13; have HB4_13 := Lib.hid bB4_13; have HB5_13 := Lib.hid bB5_13; have HB6_13 := Lib.hid bB6_13
  have HGEB6 : Hid (w.heap.size ≤ w12.heap.size) := Lib.hid (by have := HX12.out.size; first | omega | (simp only []; omega) | (simp; omega))
  clear e13 bB1_13 bB3_13 bB4_13 bB5_13 bB6_13
  have c1_0 := HB1_13.out.cell 0 rfl
  have c1_1 := HB1_13.out.cell 1 rfl
  have c1_2 := HB1_13.out.cell 2 rfl
  go_wp2_with fail
  refine ((HED.out ▸ atow_ok n _ (HG.out.ext HX13.out) (HN.out.mono (by decide)) HZ2.out)).mono ?_; rintro e w14 ⟨rfl, e14⟩
  have HX14 : Hid (Ext w w14) := Lib.hid (HX13.out.trans e14)
  have HB1_14 := Lib.hid (Blk.ext HB1_13.out e14)
  have HB3_14 := Lib.hid (Blk.ext HB3_13.out e14)
  have HB4_14 := Lib.hid (Blk.ext HB4_13.out e14)
  have HB5_14 := Lib.hid (Blk.ext HB5_13.out e14)
  have HB6_14 := Lib.hid (Blk.ext HB6_13.out e14)
  clear e14 c1_0 c1_1 c1_2
  go_upto_region 11 with fail
  refine wp_name (fun W => Ext w W ∧ Blk W (w1.heap.size) #[.string (qs n.x), .string (qs n.y), .string (qs n.z)] 37 ∧ Blk W (w5.heap.size) #[.string (qs (-d.y)), .string (qs d.x)] 24 ∧ Blk W (w7.heap.size) #[.string (qs (-d.y)), .string (qs d.x)] 24 ∧ Blk W (w10.heap.size) #[.string (qs (-n.x / n.z)), .string (qs (-n.y / n.z))] 24 ∧ Blk W (w12.heap.size) #[.string (qs (-n.x / n.z)), .string (qs (-n.y / n.z))] 24 ∧ Blk W (w14.heap.size) #[.string (qs d.x), .string (qs d.y)] 24) ⟨(HX14.out.alloc _), (HB1_14.out.alloc _), (HB3_14.out.alloc _), (HB4_14.out.alloc _), (HB5_14.out.alloc _), (HB6_14.out.alloc _), (Blk.new' (w := _) (cs := #[.string (qs d.x), .string (qs d.y)]) (t := 24) (by first | rfl | (simp only [World.size_alloc]; done) | (simp only [World.size_alloc]; omega) | simp))⟩ ?_
  rintro w15 ⟨e15, bB1_15, bB3_15, bB4_15, bB5_15, bB6_15, bB7_15⟩
  have HX15 := Lib.hid e15; have HB1_15 := Lib.hid bB1_15; have HB3_15 := Lib.hid bB3_15; have HB4_15 := Lib.hid bB4_15; have HB5_15 := Lib.hid bB5_15; have HB6_15 := Lib.hid bB6_15; have HB7_15 := Lib.hid bB7_15
  have HGEB7 : Hid (w.heap.size ≤ w14.heap.size) := Lib.hid (by have := HX14.out.size; first | omega | (simp only []; omega) | (simp; omega))
  clear e15 bB1_15 bB3_15 bB4_15 bB5_15 bB6_15 bB7_15
  have c1_0 := HB1_15.out.cell 0 rfl
  have c1_1 := HB1_15.out.cell 1 rfl
  have c1_2 := HB1_15.out.cell 2 rfl
  have c3_0 := HB3_15.out.cell 0 rfl
  have c3_1 := HB3_15.out.cell 1 rfl
  go_wp2_with fail
  refine (aapp_strike n d _ (HG.out.ext HX15.out) HN.out HD.out H0.out HZ.out).mono ?_; rintro e w16 ⟨rfl, e16⟩
  have HX16 : Hid (Ext w w16) := Lib.hid (HX15.out.trans e16)
  have HB1_16 := Lib.hid (Blk.ext HB1_15.out e16)
  have HB3_16 := Lib.hid (Blk.ext HB3_15.out e16)
  have HB4_16 := Lib.hid (Blk.ext HB4_15.out e16)
  have HB5_16 := Lib.hid (Blk.ext HB5_15.out e16)
  have HB6_16 := Lib.hid (Blk.ext HB6_15.out e16)
  have HB7_16 := Lib.hid (Blk.ext HB7_15.out e16)
  clear e16 c1_0 c1_1 c1_2 c3_0 c3_1
  have c1_0 := HB1_16.out.cell 0 rfl
  have c1_1 := HB1_16.out.cell 1 rfl
  have c1_2 := HB1_16.out.cell 2 rfl
  have c7_0 := HB7_16.out.cell 0 rfl
  have c7_1 := HB7_16.out.cell 1 rfl
  go_wp2_with fail
  refine ((HET.out ▸ aapp_dip n d _ (HG.out.ext HX16.out) HN.out HD.out H0.out HZ.out)).mono ?_; rintro e w17 ⟨rfl, e17⟩
  have HX17 : Hid (Ext w w17) := Lib.hid (HX16.out.trans e17)
  have HB3_17 := Lib.hid (Blk.ext HB3_16.out e17)
  have HB4_17 := Lib.hid (Blk.ext HB4_16.out e17)
  have HB5_17 := Lib.hid (Blk.ext HB5_16.out e17)
  have HB6_17 := Lib.hid (Blk.ext HB6_16.out e17)
  clear e17 c1_0 c1_1 c1_2 c7_0 c7_1
  have c3_0 := HB3_17.out.cell 0 rfl
  have c3_1 := HB3_17.out.cell 1 rfl
  have c4_0 := HB4_17.out.cell 0 rfl
  have c4_1 := HB4_17.out.cell 1 rfl
  have c5_0 := HB5_17.out.cell 0 rfl
  have c5_1 := HB5_17.out.cell 1 rfl
  have c6_0 := HB6_17.out.cell 0 rfl
  have c6_1 := HB6_17.out.cell 1 rfl
  go_wp2_with fail
  refine ((HTS.out ▸ rsign_c tt _)).mono ?_; rintro e _ ⟨rfl, rfl⟩
  clear c3_0 c3_1 c4_0 c4_1 c5_0 c5_1 c6_0 c6_1
  go_wp2
  go_ret
  exact ⟨rfl, HX17.out⟩

set_option maxRecDepth 100000 in
set_option maxHeartbeats 16000000 in
theorem turns15_M1 (i j k : Int) (w : World) (g : Gd w) (hi0 : -128 ≤ i ∧ i ≤ 127) (hj0 : -128 ≤ j ∧ j ≤ 127) (hk0 : -128 ≤ k ∧ k ≤ 127) (hx : (sv3 i j k).x = 0) (hy : (sv3 i j k).y ≠ 0) (hz : (sv3 i j k).z ≠ 0) : Calls Tryz.prog 9 #[.agg #[.int .i8 i, .int .i8 j, .int .i8 k]] w (Ret w (.bool true)) := by
  have HG := Lib.hid g
  clear g
  obtain ⟨n, en⟩ : ∃ n, sv3 i j k = n := ⟨_, rfl⟩
  have HN : Hid (VB 1 n) := Lib.hid (en ▸ sv3_vb i j k)
  have HEN := Lib.hid en
  have HI0 := Lib.hid hi0
  have HJ0 := Lib.hid hj0
  have HK0 := Lib.hid hk0
  rw [en] at hx hy hz
  have hx_t := qs_is0 hx
  have hy_t := qs_not0 hy
  have hz_t := qs_not0 hz
  have HZ2 : Hid (¬ (n.x = 0 ∧ n.y = 0)) := Lib.hid (fun e => hy e.2)
  have HZ : Hid (¬ (n.x = 0 ∧ n.y = 0 ∧ n.z = 0)) := Lib.hid (fun e => hz e.2.2)
  have H0 := Lib.hid hz
  obtain ⟨d, ed⟩ : ∃ d, todir n = d := ⟨_, rfl⟩
  have HD : Hid (TowOk n 1 d) := Lib.hid (ed ▸ tow_ok (by decide) (by decide) HN.out HZ2.out)
  have HED := Lib.hid ed
  obtain ⟨tt, et⟩ : ∃ tt, (n.x * d.x + n.y * d.y) / n.z = tt := ⟨_, rfl⟩
  have HTS : Hid (tt.num.sign = 1) := Lib.hid (et ▸ sgn_of_pos (along_dip HD.out H0.out HZ2.out))
  have HET := Lib.hid et
  clear hx hy hz en ed et hi0 hj0 hk0
  go_enter Tryz.func9, Tryz.ntmps9
  go_wp2_with fail
  refine ((HEN.out ▸ lvec_c i j k _ (HG.out.ext ((Ext.refl w).alloc _)) HI0.out HJ0.out HK0.out)).mono ?_; rintro e w1 ⟨rfl, e1⟩
  have HX1 : Hid (Ext w w1) := Lib.hid (((Ext.refl w).alloc _).trans e1)
  clear e1
  go_wp2_with fail
  refine (known15_c _ (HG.out.ext (HX1.out.alloc _))).mono ?_; rintro e w2 ⟨rfl, e2⟩
  have HX2 : Hid (Ext w w2) := Lib.hid ((HX1.out.alloc _).trans e2)
  have HB1_2 : Hid (Blk w2 (w1.heap.size) #[.string (qs n.x), .string (qs n.y), .string (qs n.z)] 37) := Lib.hid (Blk.ext (Blk.new' (w := _) (cs := #[.string (qs n.x), .string (qs n.y), .string (qs n.z)]) (t := 37) (by first | rfl | (simp only [World.size_alloc]; done) | (simp only [World.size_alloc]; omega) | simp)) e2)
  have HGEB1 : Hid (w.heap.size ≤ w1.heap.size) := Lib.hid (by have := HX1.out.size; first | omega | (simp only []; omega) | (simp; omega))
  clear e2
  have c1_0 := HB1_2.out.cell 0 rfl
  have c1_1 := HB1_2.out.cell 1 rfl
  have c1_2 := HB1_2.out.cell 2 rfl
  go_wp2_with fail
  refine wp_name (fun W => Ext w W ∧ Blk W (w1.heap.size) #[.string (qs n.x), .string (qs n.y), .string (qs n.z)] 37) ⟨HX2.out, HB1_2.out⟩ ?_
  rintro w3 ⟨e3, bB1_3⟩
  have HX3 := Lib.hid e3; have HB1_3 := Lib.hid bB1_3
  clear e3 bB1_3 c1_0 c1_1 c1_2
  refine region_lin [.val (.pointer (some ⟨w1.heap.size, 0, none⟩)), .val (.string (qs n.x)), .val (.string (qs (-n.x))), .val (.pointer (some ⟨w1.heap.size, 1, none⟩)), .val (.string (qs n.y)), .val (.string (qs (-n.y))), .val (.pointer (some ⟨w1.heap.size, 2, none⟩)), .val (.string (qs n.z)), .val (.string (qs (-n.z))), .val (.agg #[.string (qs (-n.x)), .string (qs (-n.y)), .string (qs (-n.z))]), .mem (fun b_ => .pointer (some ⟨b_, 0, none⟩)) #[.string ⟨#[]⟩, .string ⟨#[]⟩, .string ⟨#[]⟩] 37 (Option.some 11), .put 10 #[.string (qs (-n.x)), .string (qs (-n.y)), .string (qs (-n.z))]] (by kernel_rfl) (by kernel_rfl) (by kernel_rfl) ?_ (fun g3 w4 hx_ hm_ hne_ => ?_)
  · skip
    refine RnL.cons (fun g3 A_ W_ hs_ => ?_) ?_
    · have q3_ := (hs_.old 3 (by kernel_rfl) : A_.tmps[3]?.getD undef = .pointer (some ⟨w1.heap.size, 0, none⟩))
      refine Rn.val fun K_ hK_ => ?_
      go_simp
      exact hK_.out _ (Ext.refl _)
    refine RnL.cons (fun g3 A_ W_ hs_ => ?_) ?_
    · have q41_ := hs_.val 0 rfl rfl rfl
      have cB1_0 := ((HB1_3.out.drew.ext hs_.1)).cell 0 rfl
      refine Rn.val fun K_ hK_ => ?_
      go_simp
      exact hK_.out _ (Ext.refl _)
    refine RnL.cons (fun g3 A_ W_ hs_ => ?_) ?_
    · have q42_ := hs_.val 1 rfl rfl rfl
      refine Rn.val fun K_ hK_ => ?_
      go_simp
      refine (rneg_c n.x _ HN.out.x (by omega)).mono ?_; rintro e W9_ ⟨rfl, e9_⟩; exact hK_.out _ e9_
    refine RnL.cons (fun g3 A_ W_ hs_ => ?_) ?_
    · have q3_ := (hs_.old 3 (by kernel_rfl) : A_.tmps[3]?.getD undef = .pointer (some ⟨w1.heap.size, 0, none⟩))
      refine Rn.val fun K_ hK_ => ?_
      go_simp
      exact hK_.out _ (Ext.refl _)
    refine RnL.cons (fun g3 A_ W_ hs_ => ?_) ?_
    · have q44_ := hs_.val 3 rfl rfl rfl
      have cB1_1 := ((HB1_3.out.drew.ext hs_.1)).cell 1 rfl
      refine Rn.val fun K_ hK_ => ?_
      go_simp
      exact hK_.out _ (Ext.refl _)
    refine RnL.cons (fun g3 A_ W_ hs_ => ?_) ?_
    · have q45_ := hs_.val 4 rfl rfl rfl
      refine Rn.val fun K_ hK_ => ?_
      go_simp
      refine (rneg_c n.y _ HN.out.y (by omega)).mono ?_; rintro e W9_ ⟨rfl, e9_⟩; exact hK_.out _ e9_
    refine RnL.cons (fun g3 A_ W_ hs_ => ?_) ?_
    · have q3_ := (hs_.old 3 (by kernel_rfl) : A_.tmps[3]?.getD undef = .pointer (some ⟨w1.heap.size, 0, none⟩))
      refine Rn.val fun K_ hK_ => ?_
      go_simp
      exact hK_.out _ (Ext.refl _)
    refine RnL.cons (fun g3 A_ W_ hs_ => ?_) ?_
    · have q47_ := hs_.val 6 rfl rfl rfl
      have cB1_2 := ((HB1_3.out.drew.ext hs_.1)).cell 2 rfl
      refine Rn.val fun K_ hK_ => ?_
      go_simp
      exact hK_.out _ (Ext.refl _)
    refine RnL.cons (fun g3 A_ W_ hs_ => ?_) ?_
    · have q48_ := hs_.val 7 rfl rfl rfl
      refine Rn.val fun K_ hK_ => ?_
      go_simp
      refine (rneg_c n.z _ HN.out.z (by omega)).mono ?_; rintro e W9_ ⟨rfl, e9_⟩; exact hK_.out _ e9_
    refine RnL.cons (fun g3 A_ W_ hs_ => ?_) ?_
    · have q43_ := hs_.val 2 rfl rfl rfl
      have q46_ := hs_.val 5 rfl rfl rfl
      have q49_ := hs_.val 8 rfl rfl rfl
      refine Rn.val fun K_ hK_ => ?_
      go_simp
      exact hK_.out _ (Ext.refl _)
    refine RnL.cons (fun g3 A_ W_ hs_ => ?_) ?_
    · refine Rn.mem fun K_ hK_ => ?_
      go_simp
      exact hK_.out
    refine RnL.cons (fun g3 A_ W_ hs_ => ?_) ?_
    · have q4_ := (hs_.mem 10 rfl rfl rfl).1
      have q50_ := hs_.val 9 rfl rfl rfl
      refine Rn.put (z := #[.string ⟨#[]⟩, .string ⟨#[]⟩, .string ⟨#[]⟩]) (t := 37) rfl fun hB K_ hK_ => ?_
      have c_0 := hB.cell 0 rfl; have f_0 := hB.free 0
      have c_1 := hB.cell 1 rfl; have f_1 := hB.free 1
      have c_2 := hB.cell 2 rfl; have f_2 := hB.free 2
      have HB := Lib.hid hB; clear hB
      go_simp
      exact hK_.out _ ((((Only.refl _ _).set 0 _).set 1 _).set 2 _) (((HB.out.set 0 _).set 1 _).set 2 _)
    exact RnL.nil
  simp only [fs, Kd.value, puts, Act.put, List.setIfInBounds_toArray, List.set_cons_zero, List.set_cons_succ, Nat.reduceAdd]
  have HX4 : Hid (Ext w w4) := Lib.hid (HX3.out.drew.trans hx_)
  have HB1_4 := Lib.hid (HB1_3.out.drew.ext hx_)
  have HB2_4 : Hid (Blk w4 (g3 10) #[.string (qs (-n.x)), .string (qs (-n.y)), .string (qs (-n.z))] 37) := Lib.hid (hm_ 10 _ _ _ _ rfl).2; have HGEB2 : Hid (w.heap.size ≤ g3 10) := Lib.hid (Nat.le_trans HX3.out.size (hm_ 10 _ _ _ _ rfl).1)
  have HNEB1B2 : Hid (w1.heap.size ≠ g3 10) := Lib.hid (Nat.ne_of_lt (Nat.lt_of_lt_of_le HB1_3.out.lt (hm_ 10 _ _ _ _ rfl).1))
  clear hx_ hm_ hne_
  generalize g3 10 = i2 at *
  clear g3
  have c1_0 := HB1_4.out.cell 0 rfl
  have c1_1 := HB1_4.out.cell 1 rfl
  have c1_2 := HB1_4.out.cell 2 rfl
  go_wp2_with fail
  refine ((HED.out ▸ astr_ok n _ (HG.out.ext HX4.out) (HN.out.mono (by decide)) HZ2.out)).mono ?_; rintro e w5 ⟨rfl, e5⟩
  have HX5 : Hid (Ext w w5) := Lib.hid (HX4.out.trans e5)
  have HB1_5 := Lib.hid (Blk.ext HB1_4.out e5)
  have HB2_5 := Lib.hid (Blk.ext HB2_4.out e5)
  clear e5 c1_0 c1_1 c1_2
  go_upto_region 6 with fail
  refine wp_name (fun W => Ext w W ∧ Blk W (w1.heap.size) #[.string (qs n.x), .string (qs n.y), .string (qs n.z)] 37 ∧ Blk W (i2) #[.string (qs (-n.x)), .string (qs (-n.y)), .string (qs (-n.z))] 37 ∧ Blk W (w5.heap.size) #[.string (qs (-d.y)), .string (qs d.x)] 24) ⟨(HX5.out.alloc _), (HB1_5.out.alloc _), (HB2_5.out.alloc _), (Blk.new' (w := _) (cs := #[.string (qs (-d.y)), .string (qs d.x)]) (t := 24) (by first | rfl | (simp only [World.size_alloc]; done) | (simp only [World.size_alloc]; omega) | simp))⟩ ?_
  rintro w6 ⟨e6, bB1_6, bB2_6, bB3_6⟩
  have HX6 := Lib.hid e6; have HB1_6 := Lib.hid bB1_6; have HB2_6 := Lib.hid bB2_6; have HB3_6 := Lib.hid bB3_6
  have HGEB3 : Hid (w.heap.size ≤ w5.heap.size) := Lib.hid (by have := HX5.out.size; first | omega | (simp only []; omega) | (simp; omega))
  clear e6 bB1_6 bB2_6 bB3_6
  have c2_0 := HB2_6.out.cell 0 rfl
  have c2_1 := HB2_6.out.cell 1 rfl
  have c2_2 := HB2_6.out.cell 2 rfl
  go_wp2_with fail
  refine ((HED.out ▸ astr_neg n _ (HG.out.ext HX6.out) HN.out HZ2.out H0.out)).mono ?_; rintro e w7 ⟨rfl, e7⟩
  have HX7 : Hid (Ext w w7) := Lib.hid (HX6.out.trans e7)
  have HB1_7 := Lib.hid (Blk.ext HB1_6.out e7)
  have HB2_7 := Lib.hid (Blk.ext HB2_6.out e7)
  have HB3_7 := Lib.hid (Blk.ext HB3_6.out e7)
  clear e7 c2_0 c2_1 c2_2
  go_upto_region 7 with fail
  refine wp_name (fun W => Ext w W ∧ Blk W (w1.heap.size) #[.string (qs n.x), .string (qs n.y), .string (qs n.z)] 37 ∧ Blk W (i2) #[.string (qs (-n.x)), .string (qs (-n.y)), .string (qs (-n.z))] 37 ∧ Blk W (w5.heap.size) #[.string (qs (-d.y)), .string (qs d.x)] 24 ∧ Blk W (w7.heap.size) #[.string (qs (-d.y)), .string (qs d.x)] 24) ⟨(HX7.out.alloc _), (HB1_7.out.alloc _), (HB2_7.out.alloc _), (HB3_7.out.alloc _), (Blk.new' (w := _) (cs := #[.string (qs (-d.y)), .string (qs d.x)]) (t := 24) (by first | rfl | (simp only [World.size_alloc]; done) | (simp only [World.size_alloc]; omega) | simp))⟩ ?_
  rintro w8 ⟨e8, bB1_8, bB2_8, bB3_8, bB4_8⟩
  have HX8 := Lib.hid e8; have HB1_8 := Lib.hid bB1_8; have HB2_8 := Lib.hid bB2_8; have HB3_8 := Lib.hid bB3_8; have HB4_8 := Lib.hid bB4_8
  have HGEB4 : Hid (w.heap.size ≤ w7.heap.size) := Lib.hid (by have := HX7.out.size; first | omega | (simp only []; omega) | (simp; omega))
  clear e8 bB1_8 bB2_8 bB3_8 bB4_8
  have c2_0 := HB2_8.out.cell 0 rfl
  have c2_1 := HB2_8.out.cell 1 rfl
  have c2_2 := HB2_8.out.cell 2 rfl
  have c1_0 := HB1_8.out.cell 0 rfl
  have c1_1 := HB1_8.out.cell 1 rfl
  have c1_2 := HB1_8.out.cell 2 rfl
  go_wp2_with fail
  refine (aflat_neg n _ (HG.out.ext HX8.out) HN.out HZ.out).mono ?_; rintro e w9 ⟨rfl, e9⟩
  have HX9 : Hid (Ext w w9) := Lib.hid (HX8.out.trans e9)
  have HB1_9 := Lib.hid (Blk.ext HB1_8.out e9)
  have HB2_9 := Lib.hid (Blk.ext HB2_8.out e9)
  have HB3_9 := Lib.hid (Blk.ext HB3_8.out e9)
  have HB4_9 := Lib.hid (Blk.ext HB4_8.out e9)
  clear e9 c2_0 c2_1 c2_2 c1_0 c1_1 c1_2
  have c1_0 := HB1_9.out.cell 0 rfl
  have c1_1 := HB1_9.out.cell 1 rfl
  have c1_2 := HB1_9.out.cell 2 rfl
  go_wp2_with fail
  refine (agrad_ok n _ (HG.out.ext HX9.out) (HN.out.mono (by decide)) (HN.out.mono (by decide)) HZ.out H0.out).mono ?_; rintro e w10 ⟨rfl, e10⟩
  have HX10 : Hid (Ext w w10) := Lib.hid (HX9.out.trans e10)
  have HB1_10 := Lib.hid (Blk.ext HB1_9.out e10)
  have HB2_10 := Lib.hid (Blk.ext HB2_9.out e10)
  have HB3_10 := Lib.hid (Blk.ext HB3_9.out e10)
  have HB4_10 := Lib.hid (Blk.ext HB4_9.out e10)
  clear e10 c1_0 c1_1 c1_2
  go_upto_region 9 with fail
  refine wp_name (fun W => Ext w W ∧ Blk W (w1.heap.size) #[.string (qs n.x), .string (qs n.y), .string (qs n.z)] 37 ∧ Blk W (i2) #[.string (qs (-n.x)), .string (qs (-n.y)), .string (qs (-n.z))] 37 ∧ Blk W (w5.heap.size) #[.string (qs (-d.y)), .string (qs d.x)] 24 ∧ Blk W (w7.heap.size) #[.string (qs (-d.y)), .string (qs d.x)] 24 ∧ Blk W (w10.heap.size) #[.string (qs (-n.x / n.z)), .string (qs (-n.y / n.z))] 24) ⟨(HX10.out.alloc _), (HB1_10.out.alloc _), (HB2_10.out.alloc _), (HB3_10.out.alloc _), (HB4_10.out.alloc _), (Blk.new' (w := _) (cs := #[.string (qs (-n.x / n.z)), .string (qs (-n.y / n.z))]) (t := 24) (by first | rfl | (simp only [World.size_alloc]; done) | (simp only [World.size_alloc]; omega) | simp))⟩ ?_
  rintro w11 ⟨e11, bB1_11, bB2_11, bB3_11, bB4_11, bB5_11⟩
  have HX11 := Lib.hid e11; have HB1_11 := Lib.hid bB1_11; have HB2_11 := Lib.hid bB2_11; have HB3_11 := Lib.hid bB3_11; have HB4_11 := Lib.hid bB4_11; have HB5_11 := Lib.hid bB5_11
  have HGEB5 : Hid (w.heap.size ≤ w10.heap.size) := Lib.hid (by have := HX10.out.size; first | omega | (simp only []; omega) | (simp; omega))
  clear e11 bB1_11 bB2_11 bB3_11 bB4_11 bB5_11
  have c2_0 := HB2_11.out.cell 0 rfl
  have c2_1 := HB2_11.out.cell 1 rfl
  have c2_2 := HB2_11.out.cell 2 rfl
  go_wp2_with fail
  refine (agrad_neg n _ (HG.out.ext HX11.out) HN.out H0.out HZ.out).mono ?_; rintro e w12 ⟨rfl, e12⟩
  have HX12 : Hid (Ext w w12) := Lib.hid (HX11.out.trans e12)
  have HB1_12 := Lib.hid (Blk.ext HB1_11.out e12)
  have HB3_12 := Lib.hid (Blk.ext HB3_11.out e12)
  have HB4_12 := Lib.hid (Blk.ext HB4_11.out e12)
  have HB5_12 := Lib.hid (Blk.ext HB5_11.out e12)
  clear e12 c2_0 c2_1 c2_2
  go_upto_region 10 with fail
  refine wp_name (fun W => Ext w W ∧ Blk W (w1.heap.size) #[.string (qs n.x), .string (qs n.y), .string (qs n.z)] 37 ∧ Blk W (w5.heap.size) #[.string (qs (-d.y)), .string (qs d.x)] 24 ∧ Blk W (w7.heap.size) #[.string (qs (-d.y)), .string (qs d.x)] 24 ∧ Blk W (w10.heap.size) #[.string (qs (-n.x / n.z)), .string (qs (-n.y / n.z))] 24 ∧ Blk W (w12.heap.size) #[.string (qs (-n.x / n.z)), .string (qs (-n.y / n.z))] 24) ⟨(HX12.out.alloc _), (HB1_12.out.alloc _), (HB3_12.out.alloc _), (HB4_12.out.alloc _), (HB5_12.out.alloc _), (Blk.new' (w := _) (cs := #[.string (qs (-n.x / n.z)), .string (qs (-n.y / n.z))]) (t := 24) (by first | rfl | (simp only [World.size_alloc]; done) | (simp only [World.size_alloc]; omega) | simp))⟩ ?_
  rintro w13 ⟨e13, bB1_13, bB3_13, bB4_13, bB5_13, bB6_13⟩
  have HX13 := Lib.hid e13; have HB1_13 := Lib.hid bB1_13; have HB3_13 := Lib.hid bB3_13; have HB4_13 := Lib.hid bB4_13; have HB5_13 := Lib.hid bB5_13; have HB6_13 := Lib.hid bB6_13
  have HGEB6 : Hid (w.heap.size ≤ w12.heap.size) := Lib.hid (by have := HX12.out.size; first | omega | (simp only []; omega) | (simp; omega))
  clear e13 bB1_13 bB3_13 bB4_13 bB5_13 bB6_13
  have c1_0 := HB1_13.out.cell 0 rfl
  have c1_1 := HB1_13.out.cell 1 rfl
  have c1_2 := HB1_13.out.cell 2 rfl
  go_wp2_with fail
  refine ((HED.out ▸ atow_ok n _ (HG.out.ext HX13.out) (HN.out.mono (by decide)) HZ2.out)).mono ?_; rintro e w14 ⟨rfl, e14⟩
  have HX14 : Hid (Ext w w14) := Lib.hid (HX13.out.trans e14)
  have HB1_14 := Lib.hid (Blk.ext HB1_13.out e14)
  have HB3_14 := Lib.hid (Blk.ext HB3_13.out e14)
  have HB4_14 := Lib.hid (Blk.ext HB4_13.out e14)
  have HB5_14 := Lib.hid (Blk.ext HB5_13.out e14)
  have HB6_14 := Lib.hid (Blk.ext HB6_13.out e14)
  clear e14 c1_0 c1_1 c1_2
  go_upto_region 11 with fail
  refine wp_name (fun W => Ext w W ∧ Blk W (w1.heap.size) #[.string (qs n.x), .string (qs n.y), .string (qs n.z)] 37 ∧ Blk W (w5.heap.size) #[.string (qs (-d.y)), .string (qs d.x)] 24 ∧ Blk W (w7.heap.size) #[.string (qs (-d.y)), .string (qs d.x)] 24 ∧ Blk W (w10.heap.size) #[.string (qs (-n.x / n.z)), .string (qs (-n.y / n.z))] 24 ∧ Blk W (w12.heap.size) #[.string (qs (-n.x / n.z)), .string (qs (-n.y / n.z))] 24 ∧ Blk W (w14.heap.size) #[.string (qs d.x), .string (qs d.y)] 24) ⟨(HX14.out.alloc _), (HB1_14.out.alloc _), (HB3_14.out.alloc _), (HB4_14.out.alloc _), (HB5_14.out.alloc _), (HB6_14.out.alloc _), (Blk.new' (w := _) (cs := #[.string (qs d.x), .string (qs d.y)]) (t := 24) (by first | rfl | (simp only [World.size_alloc]; done) | (simp only [World.size_alloc]; omega) | simp))⟩ ?_
  rintro w15 ⟨e15, bB1_15, bB3_15, bB4_15, bB5_15, bB6_15, bB7_15⟩
  have HX15 := Lib.hid e15; have HB1_15 := Lib.hid bB1_15; have HB3_15 := Lib.hid bB3_15; have HB4_15 := Lib.hid bB4_15; have HB5_15 := Lib.hid bB5_15; have HB6_15 := Lib.hid bB6_15; have HB7_15 := Lib.hid bB7_15
  have HGEB7 : Hid (w.heap.size ≤ w14.heap.size) := Lib.hid (by have := HX14.out.size; first | omega | (simp only []; omega) | (simp; omega))
  clear e15 bB1_15 bB3_15 bB4_15 bB5_15 bB6_15 bB7_15
  have c1_0 := HB1_15.out.cell 0 rfl
  have c1_1 := HB1_15.out.cell 1 rfl
  have c1_2 := HB1_15.out.cell 2 rfl
  have c3_0 := HB3_15.out.cell 0 rfl
  have c3_1 := HB3_15.out.cell 1 rfl
  go_wp2_with fail
  refine (aapp_strike n d _ (HG.out.ext HX15.out) HN.out HD.out H0.out HZ.out).mono ?_; rintro e w16 ⟨rfl, e16⟩
  have HX16 : Hid (Ext w w16) := Lib.hid (HX15.out.trans e16)
  have HB1_16 := Lib.hid (Blk.ext HB1_15.out e16)
  have HB3_16 := Lib.hid (Blk.ext HB3_15.out e16)
  have HB4_16 := Lib.hid (Blk.ext HB4_15.out e16)
  have HB5_16 := Lib.hid (Blk.ext HB5_15.out e16)
  have HB6_16 := Lib.hid (Blk.ext HB6_15.out e16)
  have HB7_16 := Lib.hid (Blk.ext HB7_15.out e16)
  clear e16 c1_0 c1_1 c1_2 c3_0 c3_1
  have c1_0 := HB1_16.out.cell 0 rfl
  have c1_1 := HB1_16.out.cell 1 rfl
  have c1_2 := HB1_16.out.cell 2 rfl
  have c7_0 := HB7_16.out.cell 0 rfl
  have c7_1 := HB7_16.out.cell 1 rfl
  go_wp2_with fail
  refine ((HET.out ▸ aapp_dip n d _ (HG.out.ext HX16.out) HN.out HD.out H0.out HZ.out)).mono ?_; rintro e w17 ⟨rfl, e17⟩
  have HX17 : Hid (Ext w w17) := Lib.hid (HX16.out.trans e17)
  have HB3_17 := Lib.hid (Blk.ext HB3_16.out e17)
  have HB4_17 := Lib.hid (Blk.ext HB4_16.out e17)
  have HB5_17 := Lib.hid (Blk.ext HB5_16.out e17)
  have HB6_17 := Lib.hid (Blk.ext HB6_16.out e17)
  clear e17 c1_0 c1_1 c1_2 c7_0 c7_1
  have c3_0 := HB3_17.out.cell 0 rfl
  have c3_1 := HB3_17.out.cell 1 rfl
  have c4_0 := HB4_17.out.cell 0 rfl
  have c4_1 := HB4_17.out.cell 1 rfl
  have c5_0 := HB5_17.out.cell 0 rfl
  have c5_1 := HB5_17.out.cell 1 rfl
  have c6_0 := HB6_17.out.cell 0 rfl
  have c6_1 := HB6_17.out.cell 1 rfl
  go_wp2_with fail
  refine ((HTS.out ▸ rsign_c tt _)).mono ?_; rintro e _ ⟨rfl, rfl⟩
  clear c3_0 c3_1 c4_0 c4_1 c5_0 c5_1 c6_0 c6_1
  go_wp2
  go_ret
  exact ⟨rfl, HX17.out⟩

theorem turns15_walk (i j k : Int) (w : World) (g : Gd w) (hi0 : -128 ≤ i ∧ i ≤ 127) (hj0 : -128 ≤ j ∧ j ≤ 127) (hk0 : -128 ≤ k ∧ k ≤ 127) : Calls Tryz.prog 9 #[.agg #[.int .i8 i, .int .i8 j, .int .i8 k]] w (Ret w (.bool true)) := by
  by_cases hx : (sv3 i j k).x = 0
  · by_cases hy : (sv3 i j k).y = 0
    · exact turns15_A i j k w g hi0 hj0 hk0 hx hy
    · by_cases hz : (sv3 i j k).z = 0
      · exact turns15_B1 i j k w g hi0 hj0 hk0 hx hy hz
      · exact turns15_M1 i j k w g hi0 hj0 hk0 hx hy hz
  · by_cases hz : (sv3 i j k).z = 0
    · exact turns15_B0 i j k w g hi0 hj0 hk0 hx hz
    · exact turns15_M0 i j k w g hi0 hj0 hk0 hx hz
end Go.Proofs.YtplimbgaoengfaaGreatDoor
