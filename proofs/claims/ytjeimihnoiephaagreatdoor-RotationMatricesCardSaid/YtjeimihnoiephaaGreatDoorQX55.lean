/- Part 55 of the proof: M6. -/
import Derived.Test.YtjeimihnoiephaaGreatDoorQX1
import Derived.Test.YtjeimihnoiephaaGreatDoorQX2
import Derived.Test.YtjeimihnoiephaaGreatDoorQX3
import Derived.Test.YtjeimihnoiephaaGreatDoorQX4
import Derived.Test.YtjeimihnoiephaaGreatDoorQX5
import Derived.Test.YtjeimihnoiephaaGreatDoorQX6
import Derived.Test.YtjeimihnoiephaaGreatDoorQX7
import Derived.Test.YtjeimihnoiephaaGreatDoorQX8
import Derived.Test.YtjeimihnoiephaaGreatDoorQX9
import Derived.Test.YtjeimihnoiephaaGreatDoorQX10
import Derived.Test.YtjeimihnoiephaaGreatDoorQX11
import Derived.Test.YtjeimihnoiephaaGreatDoorQX12
import Derived.Test.YtjeimihnoiephaaGreatDoorQX13
import Derived.Test.YtjeimihnoiephaaGreatDoorQX14
import Derived.Test.YtjeimihnoiephaaGreatDoorQX15
import Derived.Test.YtjeimihnoiephaaGreatDoorQX16
import Derived.Test.YtjeimihnoiephaaGreatDoorQX17
import Derived.Test.YtjeimihnoiephaaGreatDoorQX18
import Derived.Test.YtjeimihnoiephaaGreatDoorQX19
import Derived.Test.YtjeimihnoiephaaGreatDoorQX20
import Derived.Test.YtjeimihnoiephaaGreatDoorQX21
import Derived.Test.YtjeimihnoiephaaGreatDoorQX22
import Derived.Test.YtjeimihnoiephaaGreatDoorQX23
import Derived.Test.YtjeimihnoiephaaGreatDoorQX24
import Derived.Test.YtjeimihnoiephaaGreatDoorQX25
import Derived.Test.YtjeimihnoiephaaGreatDoorQX26
import Derived.Test.YtjeimihnoiephaaGreatDoorQX27
import Derived.Test.YtjeimihnoiephaaGreatDoorQX28
import Derived.Test.YtjeimihnoiephaaGreatDoorQX34
import Derived.Test.YtjeimihnoiephaaGreatDoorQX35
namespace Go.Proofs.YtjeimihnoiephaaGreatDoor
open Go Go.RowKit
set_option linter.unusedVariables false
set_option maxRecDepth 100000 in
set_option maxHeartbeats 2000000 in
theorem rsq_c (t:Q4) (w:World) (g:Gd w) (hi:Q4In t):Calls Tryz.prog 42 #[.agg #[.int .i64 t.w,.int .i64 t.x,.int .i64 t.y,.int .i64 t.z]] w (Ret w (.tuple #[.int .i64 (t.w * t.w),.int .i64 (t.x * t.x + t.y * t.y + t.z * t.z)])):=by
  have HG:=Lib.hid g
  clear g
  have bw:=hi.w;have bx:=hi.x;have by_:=hi.y;have bz:=hi.z
  have pww:=mul_bd bw bw
  have pxx:=mul_bd bx bx
  have pyy:=mul_bd by_ by_
  have pzz:=mul_bd bz bz
  have sw:=sqi_nonneg t.w;have sx:=sqi_nonneg t.x;have sy:=sqi_nonneg t.y;have sz:=sqi_nonneg t.z
  clear hi
  go_enter Tryz.func42,Tryz.ntmps42
  go_wp2_with fail
  refine wp_name (fun W => Ext w W∧Blk W (w.heap.size) #[.int .i64 t.w,.int .i64 t.x,.int .i64 t.y,.int .i64 t.z] 22) ⟨((Ext.refl w).alloc _),(Blk.new' (w:=_) (cs:=#[.int .i64 t.w,.int .i64 t.x,.int .i64 t.y,.int .i64 t.z]) (t:=22) (by first | rfl | (simp only [World.size_alloc];done) | (simp only [World.size_alloc];omega) | simp))⟩ ?_
  rintro w1 ⟨e1,bB0_1⟩
  have HX1:=Lib.hid e1;have HB0_1:=Lib.hid bB0_1
  have HGEB0:Hid (w.heap.size ≤ w.heap.size):=Lib.hid (by first | omega | (simp only [];omega) | (simp;omega))
  clear e1 bB0_1
  refine region_lin [.val (.pointer (some ⟨w.heap.size,0,none⟩)),.val (.int .i64 t.w),.val (.pointer (some ⟨w.heap.size,0,none⟩)),.val (.int .i64 t.w),.val (.int .i64 (t.w * t.w)),.val (.pointer (some ⟨w.heap.size,1,none⟩)),.val (.int .i64 t.x),.val (.pointer (some ⟨w.heap.size,1,none⟩)),.val (.int .i64 t.x),.val (.int .i64 (t.x * t.x)),.val (.pointer (some ⟨w.heap.size,2,none⟩)),.val (.int .i64 t.y),.val (.pointer (some ⟨w.heap.size,2,none⟩)),.val (.int .i64 t.y),.val (.int .i64 (t.y * t.y)),.val (.int .i64 (t.x * t.x + t.y * t.y)),.val (.pointer (some ⟨w.heap.size,3,none⟩)),.val (.int .i64 t.z),.val (.pointer (some ⟨w.heap.size,3,none⟩)),.val (.int .i64 t.z),.val (.int .i64 (t.z * t.z)),.val (.int .i64 (t.x * t.x + t.y * t.y + t.z * t.z)),.val (.int .i64 (t.w * t.w)),.val (.int .i64 (t.x * t.x + t.y * t.y + t.z * t.z))] (by kernel_rfl) (by kernel_rfl) (by kernel_rfl) ?_ (fun g1 w2 hx_ hm_ hne_ => ?_)
  · skip
    refine RnL.cons (fun g1 A_ W_ hs_ => ?_) ?_
    · have q1_:=(hs_.old 1 (by kernel_rfl):A_.tmps[1]?.getD undef = .pointer (some ⟨w.heap.size,0,none⟩))
      refine Rn.val fun K_ hK_ => ?_
      go_simp
      exact hK_.out _ (Ext.refl _)
    refine RnL.cons (fun g1 A_ W_ hs_ => ?_) ?_
    · have q4_:=hs_.val 0 rfl rfl rfl
      have cB0_0:=((HB0_1.out.drew.ext hs_.1)).cell 0 rfl
      refine Rn.val fun K_ hK_ => ?_
      go_simp
      exact hK_.out _ (Ext.refl _)
    refine RnL.cons (fun g1 A_ W_ hs_ => ?_) ?_
    · have q1_:=(hs_.old 1 (by kernel_rfl):A_.tmps[1]?.getD undef = .pointer (some ⟨w.heap.size,0,none⟩))
      refine Rn.val fun K_ hK_ => ?_
      go_simp
      exact hK_.out _ (Ext.refl _)
    refine RnL.cons (fun g1 A_ W_ hs_ => ?_) ?_
    · have q6_:=hs_.val 2 rfl rfl rfl
      have cB0_0:=((HB0_1.out.drew.ext hs_.1)).cell 0 rfl
      refine Rn.val fun K_ hK_ => ?_
      go_simp
      exact hK_.out _ (Ext.refl _)
    refine RnL.cons (fun g1 A_ W_ hs_ => ?_) ?_
    · have q5_:=hs_.val 1 rfl rfl rfl
      have q7_:=hs_.val 3 rfl rfl rfl
      refine Rn.val fun K_ hK_ => ?_
      go_simp
      try go_bits
      exact hK_.out _ (Ext.refl _)
    refine RnL.cons (fun g1 A_ W_ hs_ => ?_) ?_
    · have q1_:=(hs_.old 1 (by kernel_rfl):A_.tmps[1]?.getD undef = .pointer (some ⟨w.heap.size,0,none⟩))
      refine Rn.val fun K_ hK_ => ?_
      go_simp
      exact hK_.out _ (Ext.refl _)
    refine RnL.cons (fun g1 A_ W_ hs_ => ?_) ?_
    · have q9_:=hs_.val 5 rfl rfl rfl
      have cB0_1:=((HB0_1.out.drew.ext hs_.1)).cell 1 rfl
      refine Rn.val fun K_ hK_ => ?_
      go_simp
      exact hK_.out _ (Ext.refl _)
    refine RnL.cons (fun g1 A_ W_ hs_ => ?_) ?_
    · have q1_:=(hs_.old 1 (by kernel_rfl):A_.tmps[1]?.getD undef = .pointer (some ⟨w.heap.size,0,none⟩))
      refine Rn.val fun K_ hK_ => ?_
      go_simp
      exact hK_.out _ (Ext.refl _)
    refine RnL.cons (fun g1 A_ W_ hs_ => ?_) ?_
    · have q11_:=hs_.val 7 rfl rfl rfl
      have cB0_1:=((HB0_1.out.drew.ext hs_.1)).cell 1 rfl
      refine Rn.val fun K_ hK_ => ?_
      go_simp
      exact hK_.out _ (Ext.refl _)
    refine RnL.cons (fun g1 A_ W_ hs_ => ?_) ?_
    · have q10_:=hs_.val 6 rfl rfl rfl
      have q12_:=hs_.val 8 rfl rfl rfl
      refine Rn.val fun K_ hK_ => ?_
      go_simp
      try go_bits
      exact hK_.out _ (Ext.refl _)
    refine RnL.cons (fun g1 A_ W_ hs_ => ?_) ?_
    · have q1_:=(hs_.old 1 (by kernel_rfl):A_.tmps[1]?.getD undef = .pointer (some ⟨w.heap.size,0,none⟩))
      refine Rn.val fun K_ hK_ => ?_
      go_simp
      exact hK_.out _ (Ext.refl _)
    refine RnL.cons (fun g1 A_ W_ hs_ => ?_) ?_
    · have q14_:=hs_.val 10 rfl rfl rfl
      have cB0_2:=((HB0_1.out.drew.ext hs_.1)).cell 2 rfl
      refine Rn.val fun K_ hK_ => ?_
      go_simp
      exact hK_.out _ (Ext.refl _)
    refine RnL.cons (fun g1 A_ W_ hs_ => ?_) ?_
    · have q1_:=(hs_.old 1 (by kernel_rfl):A_.tmps[1]?.getD undef = .pointer (some ⟨w.heap.size,0,none⟩))
      refine Rn.val fun K_ hK_ => ?_
      go_simp
      exact hK_.out _ (Ext.refl _)
    refine RnL.cons (fun g1 A_ W_ hs_ => ?_) ?_
    · have q16_:=hs_.val 12 rfl rfl rfl
      have cB0_2:=((HB0_1.out.drew.ext hs_.1)).cell 2 rfl
      refine Rn.val fun K_ hK_ => ?_
      go_simp
      exact hK_.out _ (Ext.refl _)
    refine RnL.cons (fun g1 A_ W_ hs_ => ?_) ?_
    · have q15_:=hs_.val 11 rfl rfl rfl
      have q17_:=hs_.val 13 rfl rfl rfl
      refine Rn.val fun K_ hK_ => ?_
      go_simp
      try go_bits
      exact hK_.out _ (Ext.refl _)
    refine RnL.cons (fun g1 A_ W_ hs_ => ?_) ?_
    · have q13_:=hs_.val 9 rfl rfl rfl
      have q18_:=hs_.val 14 rfl rfl rfl
      refine Rn.val fun K_ hK_ => ?_
      go_simp
      try go_bits
      exact hK_.out _ (Ext.refl _)
    refine RnL.cons (fun g1 A_ W_ hs_ => ?_) ?_
    · have q1_:=(hs_.old 1 (by kernel_rfl):A_.tmps[1]?.getD undef = .pointer (some ⟨w.heap.size,0,none⟩))
      refine Rn.val fun K_ hK_ => ?_
      go_simp
      exact hK_.out _ (Ext.refl _)
    refine RnL.cons (fun g1 A_ W_ hs_ => ?_) ?_
    · have q20_:=hs_.val 16 rfl rfl rfl
      have cB0_3:=((HB0_1.out.drew.ext hs_.1)).cell 3 rfl
      refine Rn.val fun K_ hK_ => ?_
      go_simp
      exact hK_.out _ (Ext.refl _)
    refine RnL.cons (fun g1 A_ W_ hs_ => ?_) ?_
    · have q1_:=(hs_.old 1 (by kernel_rfl):A_.tmps[1]?.getD undef = .pointer (some ⟨w.heap.size,0,none⟩))
      refine Rn.val fun K_ hK_ => ?_
      go_simp
      exact hK_.out _ (Ext.refl _)
    refine RnL.cons (fun g1 A_ W_ hs_ => ?_) ?_
    · have q22_:=hs_.val 18 rfl rfl rfl
      have cB0_3:=((HB0_1.out.drew.ext hs_.1)).cell 3 rfl
      refine Rn.val fun K_ hK_ => ?_
      go_simp
      exact hK_.out _ (Ext.refl _)
    refine RnL.cons (fun g1 A_ W_ hs_ => ?_) ?_
    · have q21_:=hs_.val 17 rfl rfl rfl
      have q23_:=hs_.val 19 rfl rfl rfl
      refine Rn.val fun K_ hK_ => ?_
      go_simp
      try go_bits
      exact hK_.out _ (Ext.refl _)
    refine RnL.cons (fun g1 A_ W_ hs_ => ?_) ?_
    · have q19_:=hs_.val 15 rfl rfl rfl
      have q24_:=hs_.val 20 rfl rfl rfl
      refine Rn.val fun K_ hK_ => ?_
      go_simp
      try go_bits
      exact hK_.out _ (Ext.refl _)
    refine RnL.cons (fun g1 A_ W_ hs_ => ?_) ?_
    · have q8_:=hs_.val 4 rfl rfl rfl
      refine Rn.val fun K_ hK_ => ?_
      go_simp
      exact hK_.out _ (Ext.refl _)
    refine RnL.cons (fun g1 A_ W_ hs_ => ?_) ?_
    · have q25_:=hs_.val 21 rfl rfl rfl
      refine Rn.val fun K_ hK_ => ?_
      go_simp
      exact hK_.out _ (Ext.refl _)
    exact RnL.nil
  simp only [fs,Kd.value,puts,Act.put,List.setIfInBounds_toArray,List.set_cons_zero,List.set_cons_succ]
  have HX2:Hid (Ext w w2):=Lib.hid (HX1.out.drew.trans hx_)
  clear hx_ hm_ hne_
  go_wp2
  go_ret2
  exact ⟨rfl,HX2.out⟩

end Go.Proofs.YtjeimihnoiephaaGreatDoor
