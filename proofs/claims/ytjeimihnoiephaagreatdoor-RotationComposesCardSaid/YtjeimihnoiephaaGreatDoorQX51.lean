/- Part 51 of the proof: M2, M7. -/
import Derived.Test.YtjeimihnoiephaaGreatDoorQX1
import Derived.Test.YtjeimihnoiephaaGreatDoorQX2
import Derived.Test.YtjeimihnoiephaaGreatDoorQX3
import Derived.Test.YtjeimihnoiephaaGreatDoorQX4
import Derived.Test.YtjeimihnoiephaaGreatDoorQX5
import Derived.Test.YtjeimihnoiephaaGreatDoorQX6
import Derived.Test.YtjeimihnoiephaaGreatDoorQX7
import Derived.Test.YtjeimihnoiephaaGreatDoorQX8
import Derived.Test.YtjeimihnoiephaaGreatDoorQX9
import Derived.Test.YtjeimihnoiephaaGreatDoorQX10
import Derived.Test.YtjeimihnoiephaaGreatDoorQX11
import Derived.Test.YtjeimihnoiephaaGreatDoorQX12
import Derived.Test.YtjeimihnoiephaaGreatDoorQX13
import Derived.Test.YtjeimihnoiephaaGreatDoorQX14
import Derived.Test.YtjeimihnoiephaaGreatDoorQX15
import Derived.Test.YtjeimihnoiephaaGreatDoorQX16
import Derived.Test.YtjeimihnoiephaaGreatDoorQX17
import Derived.Test.YtjeimihnoiephaaGreatDoorQX18
import Derived.Test.YtjeimihnoiephaaGreatDoorQX19
import Derived.Test.YtjeimihnoiephaaGreatDoorQX20
import Derived.Test.YtjeimihnoiephaaGreatDoorQX21
import Derived.Test.YtjeimihnoiephaaGreatDoorQX22
import Derived.Test.YtjeimihnoiephaaGreatDoorQX23
import Derived.Test.YtjeimihnoiephaaGreatDoorQX24
import Derived.Test.YtjeimihnoiephaaGreatDoorQX25
import Derived.Test.YtjeimihnoiephaaGreatDoorQX26
import Derived.Test.YtjeimihnoiephaaGreatDoorQX27
import Derived.Test.YtjeimihnoiephaaGreatDoorQX28
import Derived.Test.YtjeimihnoiephaaGreatDoorQX34
import Derived.Test.YtjeimihnoiephaaGreatDoorQX35
import Derived.Test.YtjeimihnoiephaaGreatDoorQX37
import Derived.Deep.CutBlock
namespace Go.Proofs.YtjeimihnoiephaaGreatDoor
open Go Go.RowKit
set_option linter.unusedVariables false
set_option maxRecDepth 100000 in
set_option maxHeartbeats 16000000 in
theorem lprim_c (t:Q4) (w:World) (g:Gd w) (hb:Q4Bd t) (hz:¬ t.zero):Calls Tryz.prog 19 #[.agg #[.int .i64 t.w,.int .i64 t.x,.int .i64 t.y,.int .i64 t.z]] w (Ret w (.agg #[.int .i64 ((prim4 t).w),.int .i64 ((prim4 t).x),.int .i64 ((prim4 t).y),.int .i64 ((prim4 t).z)])):=by
  have HG:=Lib.hid g
  clear g
  have hw:=hb.w;have hx:=hb.x;have hy:=hb.y;have hz0:=hb.z
  obtain ⟨gc1,e1⟩:∃ g,t.w.natAbs = g:=⟨_,rfl⟩
  obtain ⟨gc2,e2⟩:∃ g,Nat.gcd gc1 t.x.natAbs = g:=⟨_,rfl⟩
  obtain ⟨gc3,e3⟩:∃ g,Nat.gcd gc2 t.y.natAbs = g:=⟨_,rfl⟩
  obtain ⟨gc4,e4⟩:∃ g,Nat.gcd gc3 t.z.natAbs = g:=⟨_,rfl⟩
  have b1:gc1 ≤ 10000000000000:=by omega
  have b2:gc2 ≤ 10000000000000:=gcd_bd e2 b1 (by omega)
  have b3:gc3 ≤ 10000000000000:=gcd_bd e3 b2 (by omega)
  have b4:gc4 ≤ 10000000000000:=gcd_bd e4 b3 (by omega)
  have hg4:gcd4 t = gc4:=by unfold gcd4;rw [e1,e2,e3,e4]
  have p4:1 ≤ gc4:=by have:=gcd4_pos hz;omega
  obtain ⟨p,ep⟩:∃ p,prim4 t = p:=⟨_,rfl⟩
  have bp:(-10000000000000 ≤ p.w∧p.w ≤ 10000000000000)∧(-10000000000000 ≤ p.x∧p.x ≤ 10000000000000)∧(-10000000000000 ≤ p.y∧p.y ≤ 10000000000000)∧(-10000000000000 ≤ p.z∧p.z ≤ 10000000000000):=by
    rw [← ep];exact ⟨tdiv_bd hw,tdiv_bd hx,tdiv_bd hy,tdiv_bd hz0⟩
  have HE1:=Lib.hid e1;have HE2:=Lib.hid e2;have HE3:=Lib.hid e3;have HE4:=Lib.hid e4;have HEP:=Lib.hid ep;have HG4:=Lib.hid hg4
  have g4z:((gc4:Int) == 0) = false:=beq_eq_false_iff_ne.2 (by omega)
  have g4n:¬ ((gc4:Int) = 0):=by omega
  have HZZ:=Lib.hid hz
  clear e1 e2 e3 e4 ep hg4 hb hz
  go_enter Tryz.func19,Tryz.ntmps19
  go_upto_block 0 with fail
  refine wp_name (fun W => Ext w W∧Blk W (w.heap.size) #[.int .i64 t.w,.int .i64 t.x,.int .i64 t.y,.int .i64 t.z] 22∧Blk W (w.heap.size + 1) #[.int .i64 0,.int .i64 0,.int .i64 0,.int .i64 0] 22) ⟨(((Ext.refl w).alloc _).alloc _),((Blk.new' (w:=_) (cs:=#[.int .i64 t.w,.int .i64 t.x,.int .i64 t.y,.int .i64 t.z]) (t:=22) (by first | rfl | (simp only [World.size_alloc];done) | (simp only [World.size_alloc];omega) | simp)).alloc _),(Blk.new' (w:=_) (cs:=#[.int .i64 0,.int .i64 0,.int .i64 0,.int .i64 0]) (t:=22) (by first | rfl | (simp only [World.size_alloc];done) | (simp only [World.size_alloc];omega) | simp))⟩ ?_
  rintro w1 ⟨e1,bB0_1,bB1_1⟩
  have HX1:=Lib.hid e1;have HB0_1:=Lib.hid bB0_1;have HB1_1:=Lib.hid bB1_1
  have HGEB0:Hid (w.heap.size ≤ w.heap.size):=Lib.hid (by first | omega | (simp only [];omega) | (simp;omega))
  have HGEB1:Hid (w.heap.size ≤ w.heap.size + 1):=Lib.hid (by first | omega | (simp only [];omega) | (simp;omega))
  clear e1 bB0_1 bB1_1
  go_cut [3] from 4 to 26 (fun s3_ wx => s3_ = .int .i64 (gc4:Int)∧Ext w wx∧Blk wx (w.heap.size) #[.int .i64 t.w,.int .i64 t.x,.int .i64 t.y,.int .i64 t.z] 22∧Blk wx (w.heap.size + 1) #[.int .i64 0,.int .i64 0,.int .i64 0,.int .i64 0] 22)
  case first =>
    go_wp2_with fail
    refine wp_loop_rounds 5 ?_
    rw [rounds_succ]
    go_wp2_with fail
    refine wp_name (fun W => Ext w W∧Blk W (w.heap.size) #[.int .i64 t.w,.int .i64 t.x,.int .i64 t.y,.int .i64 t.z] 22∧Blk W (w.heap.size + 1) #[.int .i64 0,.int .i64 0,.int .i64 0,.int .i64 0] 22) ⟨HX1.out,HB0_1.out,HB1_1.out⟩ ?_
    rintro w2 ⟨e2,bB0_2,bB1_2⟩
    have HX2:=Lib.hid e2;have HB0_2:=Lib.hid bB0_2;have HB1_2:=Lib.hid bB1_2
    clear e2 bB0_2 bB1_2
    refine region_lin [.val (.int .i64 0),.val (.pointer (some ⟨w.heap.size,0,none⟩)),.val (.int .i64 t.w),.val (.int .i64 0),.val (.pointer (some ⟨w.heap.size,0,none⟩)),.val (.int .i64 t.w),.val (.int .i64 (-t.w)),.val (.int .i64 (max t.w (-t.w))),.val (.int .i64 (max t.w (-t.w)))] (by kernel_rfl) (by kernel_rfl) (by kernel_rfl) ?_ (fun g2 w3 hx_ hm_ hne_ => ?_)
    · skip
      refine RnL.cons (fun g2 A_ W_ hs_ => ?_) ?_
      · have q4_:=(hs_.old 4 (by kernel_rfl):A_.tmps[4]?.getD undef = .int .i64 0)
        refine Rn.val fun K_ hK_ => ?_
        go_simp
        exact hK_.out _ (Ext.refl _)
      refine RnL.cons (fun g2 A_ W_ hs_ => ?_) ?_
      · have q1_:=(hs_.old 1 (by kernel_rfl):A_.tmps[1]?.getD undef = .pointer (some ⟨w.heap.size,0,none⟩))
        have q13_:=hs_.val 0 rfl rfl rfl
        refine Rn.val fun K_ hK_ => ?_
        go_simp
        exact hK_.out _ (Ext.refl _)
      refine RnL.cons (fun g2 A_ W_ hs_ => ?_) ?_
      · have q14_:=hs_.val 1 rfl rfl rfl
        have cB0_0:=((HB0_2.out.drew.ext hs_.1)).cell 0 rfl
        refine Rn.val fun K_ hK_ => ?_
        go_simp
        exact hK_.out _ (Ext.refl _)
      refine RnL.cons (fun g2 A_ W_ hs_ => ?_) ?_
      · have q4_:=(hs_.old 4 (by kernel_rfl):A_.tmps[4]?.getD undef = .int .i64 0)
        refine Rn.val fun K_ hK_ => ?_
        go_simp
        exact hK_.out _ (Ext.refl _)
      refine RnL.cons (fun g2 A_ W_ hs_ => ?_) ?_
      · have q1_:=(hs_.old 1 (by kernel_rfl):A_.tmps[1]?.getD undef = .pointer (some ⟨w.heap.size,0,none⟩))
        have q16_:=hs_.val 3 rfl rfl rfl
        refine Rn.val fun K_ hK_ => ?_
        go_simp
        exact hK_.out _ (Ext.refl _)
      refine RnL.cons (fun g2 A_ W_ hs_ => ?_) ?_
      · have q17_:=hs_.val 4 rfl rfl rfl
        have cB0_0:=((HB0_2.out.drew.ext hs_.1)).cell 0 rfl
        refine Rn.val fun K_ hK_ => ?_
        go_simp
        exact hK_.out _ (Ext.refl _)
      refine RnL.cons (fun g2 A_ W_ hs_ => ?_) ?_
      · have q18_:=hs_.val 5 rfl rfl rfl
        refine Rn.val fun K_ hK_ => ?_
        go_simp
        try go_bits
        exact hK_.out _ (Ext.refl _)
      refine RnL.cons (fun g2 A_ W_ hs_ => ?_) ?_
      · have q15_:=hs_.val 2 rfl rfl rfl
        have q19_:=hs_.val 6 rfl rfl rfl
        refine Rn.val fun K_ hK_ => ?_
        go_simp
        exact hK_.out _ (Ext.refl _)
      refine RnL.cons (fun g2 A_ W_ hs_ => ?_) ?_
      · have q20_:=hs_.val 7 rfl rfl rfl
        refine Rn.val fun K_ hK_ => ?_
        go_simp
        exact hK_.out _ (Ext.refl _)
      exact RnL.nil
    simp only [fs,Kd.value,puts,Act.put,List.setIfInBounds_toArray,List.set_cons_zero,List.set_cons_succ]
    have HX3:Hid (Ext w w3):=Lib.hid (HX2.out.drew.trans hx_)
    have HB0_3:=Lib.hid (HB0_2.out.drew.ext hx_)
    have HB1_3:=Lib.hid (HB1_2.out.drew.ext hx_)
    clear hx_ hm_ hne_
    go_wp2_with fail
    go_loopw [3,5] (fun g_ n_ wx => ∃ a_ b_:Int,g_ = .int .i64 a_∧n_ = .int .i64 b_∧Hid (0 ≤ a_∧0 ≤ b_∧a_.natAbs < 1000000000000000000∧b_.natAbs < 1000000000000000000∧Int.gcd a_ b_ = gc1)∧Hid (Ext w wx∧Blk wx (w.heap.size) #[.int .i64 t.w,.int .i64 t.x,.int .i64 t.y,.int .i64 t.z] 22∧Blk wx (w.heap.size + 1) #[.int .i64 0,.int .i64 0,.int .i64 0,.int .i64 0] 22)) (fun _ n_ _ => (intOf n_).natAbs)
    case atStart => exact ⟨0,max t.w (-t.w),rfl,rfl,Lib.hid ⟨by omega,by omega,by omega,by omega,eg0 t.w HE1.out⟩,Lib.hid ⟨HX3.out,HB0_3.out,HB1_3.out⟩⟩
    case round =>
      rename_i w4
      obtain ⟨a4,b4,rfl,rfl,HI4,HH⟩:=hrel
      have HX4:=Lib.hid HH.out.1;have HB0_4:=Lib.hid HH.out.2.1;have HB1_4:=Lib.hid HH.out.2.2
      clear HH
      by_cases hz4:b4 = 0
      · subst hz4
        obtain rfl:a4 = ((gc1:Nat):Int):=by have h:=HI4.out;have h2:=h.2.2.2.2;rw [Int.gcd_zero_right] at h2;omega
        clear HI4
        go_wp2_with fail
        rw [rounds_succ]
        go_wp2_with fail
        refine wp_name (fun W => Ext w W∧Blk W (w.heap.size) #[.int .i64 t.w,.int .i64 t.x,.int .i64 t.y,.int .i64 t.z] 22∧Blk W (w.heap.size + 1) #[.int .i64 0,.int .i64 0,.int .i64 0,.int .i64 0] 22) ⟨HX4.out,HB0_4.out,HB1_4.out⟩ ?_
        rintro w5 ⟨e5,bB0_5,bB1_5⟩
        have HX5:=Lib.hid e5;have HB0_5:=Lib.hid bB0_5;have HB1_5:=Lib.hid bB1_5
        clear e5 bB0_5 bB1_5
        refine region_lin [.val (.int .i64 1),.val (.pointer (some ⟨w.heap.size,1,none⟩)),.val (.int .i64 t.x),.val (.int .i64 1),.val (.pointer (some ⟨w.heap.size,1,none⟩)),.val (.int .i64 t.x),.val (.int .i64 (-t.x)),.val (.int .i64 (max t.x (-t.x))),.val (.int .i64 (max t.x (-t.x)))] (by kernel_rfl) (by kernel_rfl) (by kernel_rfl) ?_ (fun g5 w6 hx_ hm_ hne_ => ?_)
        · skip
          refine RnL.cons (fun g5 A_ W_ hs_ => ?_) ?_
          · have q4_:=(hs_.old 4 (by kernel_rfl):A_.tmps[4]?.getD undef = .int .i64 1)
            refine Rn.val fun K_ hK_ => ?_
            go_simp
            exact hK_.out _ (Ext.refl _)
          refine RnL.cons (fun g5 A_ W_ hs_ => ?_) ?_
          · have q1_:=(hs_.old 1 (by kernel_rfl):A_.tmps[1]?.getD undef = .pointer (some ⟨w.heap.size,0,none⟩))
            have q13_:=hs_.val 0 rfl rfl rfl
            refine Rn.val fun K_ hK_ => ?_
            go_simp
            exact hK_.out _ (Ext.refl _)
          refine RnL.cons (fun g5 A_ W_ hs_ => ?_) ?_
          · have q14_:=hs_.val 1 rfl rfl rfl
            have cB0_1:=((HB0_5.out.drew.ext hs_.1)).cell 1 rfl
            refine Rn.val fun K_ hK_ => ?_
            go_simp
            exact hK_.out _ (Ext.refl _)
          refine RnL.cons (fun g5 A_ W_ hs_ => ?_) ?_
          · have q4_:=(hs_.old 4 (by kernel_rfl):A_.tmps[4]?.getD undef = .int .i64 1)
            refine Rn.val fun K_ hK_ => ?_
            go_simp
            exact hK_.out _ (Ext.refl _)
          refine RnL.cons (fun g5 A_ W_ hs_ => ?_) ?_
          · have q1_:=(hs_.old 1 (by kernel_rfl):A_.tmps[1]?.getD undef = .pointer (some ⟨w.heap.size,0,none⟩))
            have q16_:=hs_.val 3 rfl rfl rfl
            refine Rn.val fun K_ hK_ => ?_
            go_simp
            exact hK_.out _ (Ext.refl _)
          refine RnL.cons (fun g5 A_ W_ hs_ => ?_) ?_
          · have q17_:=hs_.val 4 rfl rfl rfl
            have cB0_1:=((HB0_5.out.drew.ext hs_.1)).cell 1 rfl
            refine Rn.val fun K_ hK_ => ?_
            go_simp
            exact hK_.out _ (Ext.refl _)
          refine RnL.cons (fun g5 A_ W_ hs_ => ?_) ?_
          · have q18_:=hs_.val 5 rfl rfl rfl
            refine Rn.val fun K_ hK_ => ?_
            go_simp
            try go_bits
            exact hK_.out _ (Ext.refl _)
          refine RnL.cons (fun g5 A_ W_ hs_ => ?_) ?_
          · have q15_:=hs_.val 2 rfl rfl rfl
            have q19_:=hs_.val 6 rfl rfl rfl
            refine Rn.val fun K_ hK_ => ?_
            go_simp
            exact hK_.out _ (Ext.refl _)
          refine RnL.cons (fun g5 A_ W_ hs_ => ?_) ?_
          · have q20_:=hs_.val 7 rfl rfl rfl
            refine Rn.val fun K_ hK_ => ?_
            go_simp
            exact hK_.out _ (Ext.refl _)
          exact RnL.nil
        simp only [fs,Kd.value,puts,Act.put,List.setIfInBounds_toArray,List.set_cons_zero,List.set_cons_succ]
        have HX6:Hid (Ext w w6):=Lib.hid (HX5.out.drew.trans hx_)
        have HB0_6:=Lib.hid (HB0_5.out.drew.ext hx_)
        have HB1_6:=Lib.hid (HB1_5.out.drew.ext hx_)
        clear hx_ hm_ hne_
        go_wp2_with fail
        go_loopw [3,5] (fun g_ n_ wx => ∃ a_ b_:Int,g_ = .int .i64 a_∧n_ = .int .i64 b_∧Hid (0 ≤ a_∧0 ≤ b_∧a_.natAbs < 1000000000000000000∧b_.natAbs < 1000000000000000000∧Int.gcd a_ b_ = gc2)∧Hid (Ext w wx∧Blk wx (w.heap.size) #[.int .i64 t.w,.int .i64 t.x,.int .i64 t.y,.int .i64 t.z] 22∧Blk wx (w.heap.size + 1) #[.int .i64 0,.int .i64 0,.int .i64 0,.int .i64 0] 22)) (fun _ n_ _ => (intOf n_).natAbs)
        case atStart => exact ⟨(gc1:Int),max t.x (-t.x),rfl,rfl,Lib.hid ⟨by omega,by omega,by omega,by omega,eg1 gc1 t.x HE2.out⟩,Lib.hid ⟨HX6.out,HB0_6.out,HB1_6.out⟩⟩
        case round =>
          rename_i w7
          obtain ⟨a7,b7,rfl,rfl,HI7,HH⟩:=hrel
          have HX7:=Lib.hid HH.out.1;have HB0_7:=Lib.hid HH.out.2.1;have HB1_7:=Lib.hid HH.out.2.2
          clear HH
          by_cases hz7:b7 = 0
          · subst hz7
            obtain rfl:a7 = ((gc2:Nat):Int):=by have h:=HI7.out;have h2:=h.2.2.2.2;rw [Int.gcd_zero_right] at h2;omega
            clear HI7
            go_wp2_with fail
            rw [rounds_succ]
            go_wp2_with fail
            refine wp_name (fun W => Ext w W∧Blk W (w.heap.size) #[.int .i64 t.w,.int .i64 t.x,.int .i64 t.y,.int .i64 t.z] 22∧Blk W (w.heap.size + 1) #[.int .i64 0,.int .i64 0,.int .i64 0,.int .i64 0] 22) ⟨HX7.out,HB0_7.out,HB1_7.out⟩ ?_
            rintro w8 ⟨e8,bB0_8,bB1_8⟩
            have HX8:=Lib.hid e8;have HB0_8:=Lib.hid bB0_8;have HB1_8:=Lib.hid bB1_8
            clear e8 bB0_8 bB1_8
            refine region_lin [.val (.int .i64 2),.val (.pointer (some ⟨w.heap.size,2,none⟩)),.val (.int .i64 t.y),.val (.int .i64 2),.val (.pointer (some ⟨w.heap.size,2,none⟩)),.val (.int .i64 t.y),.val (.int .i64 (-t.y)),.val (.int .i64 (max t.y (-t.y))),.val (.int .i64 (max t.y (-t.y)))] (by kernel_rfl) (by kernel_rfl) (by kernel_rfl) ?_ (fun g8 w9 hx_ hm_ hne_ => ?_)
            · skip
              refine RnL.cons (fun g8 A_ W_ hs_ => ?_) ?_
              · have q4_:=(hs_.old 4 (by kernel_rfl):A_.tmps[4]?.getD undef = .int .i64 2)
                refine Rn.val fun K_ hK_ => ?_
                go_simp
                exact hK_.out _ (Ext.refl _)
              refine RnL.cons (fun g8 A_ W_ hs_ => ?_) ?_
              · have q1_:=(hs_.old 1 (by kernel_rfl):A_.tmps[1]?.getD undef = .pointer (some ⟨w.heap.size,0,none⟩))
                have q13_:=hs_.val 0 rfl rfl rfl
                refine Rn.val fun K_ hK_ => ?_
                go_simp
                exact hK_.out _ (Ext.refl _)
              refine RnL.cons (fun g8 A_ W_ hs_ => ?_) ?_
              · have q14_:=hs_.val 1 rfl rfl rfl
                have cB0_2:=((HB0_8.out.drew.ext hs_.1)).cell 2 rfl
                refine Rn.val fun K_ hK_ => ?_
                go_simp
                exact hK_.out _ (Ext.refl _)
              refine RnL.cons (fun g8 A_ W_ hs_ => ?_) ?_
              · have q4_:=(hs_.old 4 (by kernel_rfl):A_.tmps[4]?.getD undef = .int .i64 2)
                refine Rn.val fun K_ hK_ => ?_
                go_simp
                exact hK_.out _ (Ext.refl _)
              refine RnL.cons (fun g8 A_ W_ hs_ => ?_) ?_
              · have q1_:=(hs_.old 1 (by kernel_rfl):A_.tmps[1]?.getD undef = .pointer (some ⟨w.heap.size,0,none⟩))
                have q16_:=hs_.val 3 rfl rfl rfl
                refine Rn.val fun K_ hK_ => ?_
                go_simp
                exact hK_.out _ (Ext.refl _)
              refine RnL.cons (fun g8 A_ W_ hs_ => ?_) ?_
              · have q17_:=hs_.val 4 rfl rfl rfl
                have cB0_2:=((HB0_8.out.drew.ext hs_.1)).cell 2 rfl
                refine Rn.val fun K_ hK_ => ?_
                go_simp
                exact hK_.out _ (Ext.refl _)
              refine RnL.cons (fun g8 A_ W_ hs_ => ?_) ?_
              · have q18_:=hs_.val 5 rfl rfl rfl
                refine Rn.val fun K_ hK_ => ?_
                go_simp
                try go_bits
                exact hK_.out _ (Ext.refl _)
              refine RnL.cons (fun g8 A_ W_ hs_ => ?_) ?_
              · have q15_:=hs_.val 2 rfl rfl rfl
                have q19_:=hs_.val 6 rfl rfl rfl
                refine Rn.val fun K_ hK_ => ?_
                go_simp
                exact hK_.out _ (Ext.refl _)
              refine RnL.cons (fun g8 A_ W_ hs_ => ?_) ?_
              · have q20_:=hs_.val 7 rfl rfl rfl
                refine Rn.val fun K_ hK_ => ?_
                go_simp
                exact hK_.out _ (Ext.refl _)
              exact RnL.nil
            simp only [fs,Kd.value,puts,Act.put,List.setIfInBounds_toArray,List.set_cons_zero,List.set_cons_succ]
            have HX9:Hid (Ext w w9):=Lib.hid (HX8.out.drew.trans hx_)
            have HB0_9:=Lib.hid (HB0_8.out.drew.ext hx_)
            have HB1_9:=Lib.hid (HB1_8.out.drew.ext hx_)
            clear hx_ hm_ hne_
            go_wp2_with fail
            go_loopw [3,5] (fun g_ n_ wx => ∃ a_ b_:Int,g_ = .int .i64 a_∧n_ = .int .i64 b_∧Hid (0 ≤ a_∧0 ≤ b_∧a_.natAbs < 1000000000000000000∧b_.natAbs < 1000000000000000000∧Int.gcd a_ b_ = gc3)∧Hid (Ext w wx∧Blk wx (w.heap.size) #[.int .i64 t.w,.int .i64 t.x,.int .i64 t.y,.int .i64 t.z] 22∧Blk wx (w.heap.size + 1) #[.int .i64 0,.int .i64 0,.int .i64 0,.int .i64 0] 22)) (fun _ n_ _ => (intOf n_).natAbs)
            case atStart => exact ⟨(gc2:Int),max t.y (-t.y),rfl,rfl,Lib.hid ⟨by omega,by omega,by omega,by omega,eg1 gc2 t.y HE3.out⟩,Lib.hid ⟨HX9.out,HB0_9.out,HB1_9.out⟩⟩
            case round =>
              rename_i w10
              obtain ⟨a10,b10,rfl,rfl,HI10,HH⟩:=hrel
              have HX10:=Lib.hid HH.out.1;have HB0_10:=Lib.hid HH.out.2.1;have HB1_10:=Lib.hid HH.out.2.2
              clear HH
              by_cases hz10:b10 = 0
              · subst hz10
                obtain rfl:a10 = ((gc3:Nat):Int):=by have h:=HI10.out;have h2:=h.2.2.2.2;rw [Int.gcd_zero_right] at h2;omega
                clear HI10
                go_wp2_with fail
                rw [rounds_succ]
                go_wp2_with fail
                refine wp_name (fun W => Ext w W∧Blk W (w.heap.size) #[.int .i64 t.w,.int .i64 t.x,.int .i64 t.y,.int .i64 t.z] 22∧Blk W (w.heap.size + 1) #[.int .i64 0,.int .i64 0,.int .i64 0,.int .i64 0] 22) ⟨HX10.out,HB0_10.out,HB1_10.out⟩ ?_
                rintro w11 ⟨e11,bB0_11,bB1_11⟩
                have HX11:=Lib.hid e11;have HB0_11:=Lib.hid bB0_11;have HB1_11:=Lib.hid bB1_11
                clear e11 bB0_11 bB1_11
                refine region_lin [.val (.int .i64 3),.val (.pointer (some ⟨w.heap.size,3,none⟩)),.val (.int .i64 t.z),.val (.int .i64 3),.val (.pointer (some ⟨w.heap.size,3,none⟩)),.val (.int .i64 t.z),.val (.int .i64 (-t.z)),.val (.int .i64 (max t.z (-t.z))),.val (.int .i64 (max t.z (-t.z)))] (by kernel_rfl) (by kernel_rfl) (by kernel_rfl) ?_ (fun g11 w12 hx_ hm_ hne_ => ?_)
                · skip
                  refine RnL.cons (fun g11 A_ W_ hs_ => ?_) ?_
                  · have q4_:=(hs_.old 4 (by kernel_rfl):A_.tmps[4]?.getD undef = .int .i64 3)
                    refine Rn.val fun K_ hK_ => ?_
                    go_simp
                    exact hK_.out _ (Ext.refl _)
                  refine RnL.cons (fun g11 A_ W_ hs_ => ?_) ?_
                  · have q1_:=(hs_.old 1 (by kernel_rfl):A_.tmps[1]?.getD undef = .pointer (some ⟨w.heap.size,0,none⟩))
                    have q13_:=hs_.val 0 rfl rfl rfl
                    refine Rn.val fun K_ hK_ => ?_
                    go_simp
                    exact hK_.out _ (Ext.refl _)
                  refine RnL.cons (fun g11 A_ W_ hs_ => ?_) ?_
                  · have q14_:=hs_.val 1 rfl rfl rfl
                    have cB0_3:=((HB0_11.out.drew.ext hs_.1)).cell 3 rfl
                    refine Rn.val fun K_ hK_ => ?_
                    go_simp
                    exact hK_.out _ (Ext.refl _)
                  refine RnL.cons (fun g11 A_ W_ hs_ => ?_) ?_
                  · have q4_:=(hs_.old 4 (by kernel_rfl):A_.tmps[4]?.getD undef = .int .i64 3)
                    refine Rn.val fun K_ hK_ => ?_
                    go_simp
                    exact hK_.out _ (Ext.refl _)
                  refine RnL.cons (fun g11 A_ W_ hs_ => ?_) ?_
                  · have q1_:=(hs_.old 1 (by kernel_rfl):A_.tmps[1]?.getD undef = .pointer (some ⟨w.heap.size,0,none⟩))
                    have q16_:=hs_.val 3 rfl rfl rfl
                    refine Rn.val fun K_ hK_ => ?_
                    go_simp
                    exact hK_.out _ (Ext.refl _)
                  refine RnL.cons (fun g11 A_ W_ hs_ => ?_) ?_
                  · have q17_:=hs_.val 4 rfl rfl rfl
                    have cB0_3:=((HB0_11.out.drew.ext hs_.1)).cell 3 rfl
                    refine Rn.val fun K_ hK_ => ?_
                    go_simp
                    exact hK_.out _ (Ext.refl _)
                  refine RnL.cons (fun g11 A_ W_ hs_ => ?_) ?_
                  · have q18_:=hs_.val 5 rfl rfl rfl
                    refine Rn.val fun K_ hK_ => ?_
                    go_simp
                    try go_bits
                    exact hK_.out _ (Ext.refl _)
                  refine RnL.cons (fun g11 A_ W_ hs_ => ?_) ?_
                  · have q15_:=hs_.val 2 rfl rfl rfl
                    have q19_:=hs_.val 6 rfl rfl rfl
                    refine Rn.val fun K_ hK_ => ?_
                    go_simp
                    exact hK_.out _ (Ext.refl _)
                  refine RnL.cons (fun g11 A_ W_ hs_ => ?_) ?_
                  · have q20_:=hs_.val 7 rfl rfl rfl
                    refine Rn.val fun K_ hK_ => ?_
                    go_simp
                    exact hK_.out _ (Ext.refl _)
                  exact RnL.nil
                simp only [fs,Kd.value,puts,Act.put,List.setIfInBounds_toArray,List.set_cons_zero,List.set_cons_succ]
                have HX12:Hid (Ext w w12):=Lib.hid (HX11.out.drew.trans hx_)
                have HB0_12:=Lib.hid (HB0_11.out.drew.ext hx_)
                have HB1_12:=Lib.hid (HB1_11.out.drew.ext hx_)
                clear hx_ hm_ hne_
                go_wp2_with fail
                go_loopw [3,5] (fun g_ n_ wx => ∃ a_ b_:Int,g_ = .int .i64 a_∧n_ = .int .i64 b_∧Hid (0 ≤ a_∧0 ≤ b_∧a_.natAbs < 1000000000000000000∧b_.natAbs < 1000000000000000000∧Int.gcd a_ b_ = gc4)∧Hid (Ext w wx∧Blk wx (w.heap.size) #[.int .i64 t.w,.int .i64 t.x,.int .i64 t.y,.int .i64 t.z] 22∧Blk wx (w.heap.size + 1) #[.int .i64 0,.int .i64 0,.int .i64 0,.int .i64 0] 22)) (fun _ n_ _ => (intOf n_).natAbs)
                case atStart => exact ⟨(gc3:Int),max t.z (-t.z),rfl,rfl,Lib.hid ⟨by omega,by omega,by omega,by omega,eg1 gc3 t.z HE4.out⟩,Lib.hid ⟨HX12.out,HB0_12.out,HB1_12.out⟩⟩
                case round =>
                  rename_i w13
                  obtain ⟨a13,b13,rfl,rfl,HI13,HH⟩:=hrel
                  have HX13:=Lib.hid HH.out.1;have HB0_13:=Lib.hid HH.out.2.1;have HB1_13:=Lib.hid HH.out.2.2
                  clear HH
                  by_cases hz13:b13 = 0
                  · subst hz13
                    obtain rfl:a13 = ((gc4:Nat):Int):=by have h:=HI13.out;have h2:=h.2.2.2.2;rw [Int.gcd_zero_right] at h2;omega
                    clear HI13
                    go_wp2_with fail
                    rw [rounds_succ]
                    go_wp2_with fail
                    go_meet
                    exact ⟨rfl,HX13.out,HB0_13.out,HB1_13.out⟩
                  · have hzd13:(b13 != 0) = true:=bne_iff_ne.2 hz13
                    have hze13:(b13 == 0) = false:=beq_eq_false_iff_ne.2 hz13
                    go_wp2_with fail
                    refine wp_name (fun W => Ext w W∧Blk W (w.heap.size) #[.int .i64 t.w,.int .i64 t.x,.int .i64 t.y,.int .i64 t.z] 22∧Blk W (w.heap.size + 1) #[.int .i64 0,.int .i64 0,.int .i64 0,.int .i64 0] 22) ⟨HX13.out,HB0_13.out,HB1_13.out⟩ ?_
                    rintro w14 ⟨e14,bB0_14,bB1_14⟩
                    have HX14:=Lib.hid e14;have HB0_14:=Lib.hid bB0_14;have HB1_14:=Lib.hid bB1_14
                    clear e14 bB0_14 bB1_14
                    have hS14:True:=trivial
                    have HS14:=Lib.hid hS14;clear hS14
                    go_region_held3 (fun w' => True)
                      ((trivial)) ((fail))
                    refine wp_name (fun W => Ext w W∧Blk W (w.heap.size) #[.int .i64 t.w,.int .i64 t.x,.int .i64 t.y,.int .i64 t.z] 22∧Blk W (w.heap.size + 1) #[.int .i64 0,.int .i64 0,.int .i64 0,.int .i64 0] 22) ⟨(HX14.out.trans (by repeat (first | assumption | exact Ext.refl _ | apply Ext.drew | apply Ext.alloc | (refine Ext.trans ?_ (by assumption))))),(Blk.ext HB0_14.out (by repeat (first | assumption | exact Ext.refl _ | apply Ext.drew | apply Ext.alloc | (refine Ext.trans ?_ (by assumption))))),(Blk.ext HB1_14.out (by repeat (first | assumption | exact Ext.refl _ | apply Ext.drew | apply Ext.alloc | (refine Ext.trans ?_ (by assumption)))))⟩ ?_
                    rintro w15 ⟨e15,bB0_15,bB1_15⟩
                    have HX15:=Lib.hid e15;have HB0_15:=Lib.hid bB0_15;have HB1_15:=Lib.hid bB1_15
                    clear e15 bB0_15 bB1_15
                    go_wp2_with fail
                    go_roundw
                    case rel => exact ⟨b13,a13.tmod b13,rfl,rfl,Lib.hid (eu_round HI13.out hz13),Lib.hid ⟨HX15.out,HB0_15.out,HB1_15.out⟩⟩
                    case measure => exact eu_meas hz13
              · have hzd10:(b10 != 0) = true:=bne_iff_ne.2 hz10
                have hze10:(b10 == 0) = false:=beq_eq_false_iff_ne.2 hz10
                go_wp2_with fail
                refine wp_name (fun W => Ext w W∧Blk W (w.heap.size) #[.int .i64 t.w,.int .i64 t.x,.int .i64 t.y,.int .i64 t.z] 22∧Blk W (w.heap.size + 1) #[.int .i64 0,.int .i64 0,.int .i64 0,.int .i64 0] 22) ⟨HX10.out,HB0_10.out,HB1_10.out⟩ ?_
                rintro w11 ⟨e11,bB0_11,bB1_11⟩
                have HX11:=Lib.hid e11;have HB0_11:=Lib.hid bB0_11;have HB1_11:=Lib.hid bB1_11
                clear e11 bB0_11 bB1_11
                have hS11:True:=trivial
                have HS11:=Lib.hid hS11;clear hS11
                go_region_held3 (fun w' => True)
                  ((trivial)) ((fail))
                refine wp_name (fun W => Ext w W∧Blk W (w.heap.size) #[.int .i64 t.w,.int .i64 t.x,.int .i64 t.y,.int .i64 t.z] 22∧Blk W (w.heap.size + 1) #[.int .i64 0,.int .i64 0,.int .i64 0,.int .i64 0] 22) ⟨(HX11.out.trans (by repeat (first | assumption | exact Ext.refl _ | apply Ext.drew | apply Ext.alloc | (refine Ext.trans ?_ (by assumption))))),(Blk.ext HB0_11.out (by repeat (first | assumption | exact Ext.refl _ | apply Ext.drew | apply Ext.alloc | (refine Ext.trans ?_ (by assumption))))),(Blk.ext HB1_11.out (by repeat (first | assumption | exact Ext.refl _ | apply Ext.drew | apply Ext.alloc | (refine Ext.trans ?_ (by assumption)))))⟩ ?_
                rintro w12 ⟨e12,bB0_12,bB1_12⟩
                have HX12:=Lib.hid e12;have HB0_12:=Lib.hid bB0_12;have HB1_12:=Lib.hid bB1_12
                clear e12 bB0_12 bB1_12
                go_wp2_with fail
                go_roundw
                case rel => exact ⟨b10,a10.tmod b10,rfl,rfl,Lib.hid (eu_round HI10.out hz10),Lib.hid ⟨HX12.out,HB0_12.out,HB1_12.out⟩⟩
                case measure => exact eu_meas hz10
          · have hzd7:(b7 != 0) = true:=bne_iff_ne.2 hz7
            have hze7:(b7 == 0) = false:=beq_eq_false_iff_ne.2 hz7
            go_wp2_with fail
            refine wp_name (fun W => Ext w W∧Blk W (w.heap.size) #[.int .i64 t.w,.int .i64 t.x,.int .i64 t.y,.int .i64 t.z] 22∧Blk W (w.heap.size + 1) #[.int .i64 0,.int .i64 0,.int .i64 0,.int .i64 0] 22) ⟨HX7.out,HB0_7.out,HB1_7.out⟩ ?_
            rintro w8 ⟨e8,bB0_8,bB1_8⟩
            have HX8:=Lib.hid e8;have HB0_8:=Lib.hid bB0_8;have HB1_8:=Lib.hid bB1_8
            clear e8 bB0_8 bB1_8
            have hS8:True:=trivial
            have HS8:=Lib.hid hS8;clear hS8
            go_region_held3 (fun w' => True)
              ((trivial)) ((fail))
            refine wp_name (fun W => Ext w W∧Blk W (w.heap.size) #[.int .i64 t.w,.int .i64 t.x,.int .i64 t.y,.int .i64 t.z] 22∧Blk W (w.heap.size + 1) #[.int .i64 0,.int .i64 0,.int .i64 0,.int .i64 0] 22) ⟨(HX8.out.trans (by repeat (first | assumption | exact Ext.refl _ | apply Ext.drew | apply Ext.alloc | (refine Ext.trans ?_ (by assumption))))),(Blk.ext HB0_8.out (by repeat (first | assumption | exact Ext.refl _ | apply Ext.drew | apply Ext.alloc | (refine Ext.trans ?_ (by assumption))))),(Blk.ext HB1_8.out (by repeat (first | assumption | exact Ext.refl _ | apply Ext.drew | apply Ext.alloc | (refine Ext.trans ?_ (by assumption)))))⟩ ?_
            rintro w9 ⟨e9,bB0_9,bB1_9⟩
            have HX9:=Lib.hid e9;have HB0_9:=Lib.hid bB0_9;have HB1_9:=Lib.hid bB1_9
            clear e9 bB0_9 bB1_9
            go_wp2_with fail
            go_roundw
            case rel => exact ⟨b7,a7.tmod b7,rfl,rfl,Lib.hid (eu_round HI7.out hz7),Lib.hid ⟨HX9.out,HB0_9.out,HB1_9.out⟩⟩
            case measure => exact eu_meas hz7
      · have hzd4:(b4 != 0) = true:=bne_iff_ne.2 hz4
        have hze4:(b4 == 0) = false:=beq_eq_false_iff_ne.2 hz4
        go_wp2_with fail
        refine wp_name (fun W => Ext w W∧Blk W (w.heap.size) #[.int .i64 t.w,.int .i64 t.x,.int .i64 t.y,.int .i64 t.z] 22∧Blk W (w.heap.size + 1) #[.int .i64 0,.int .i64 0,.int .i64 0,.int .i64 0] 22) ⟨HX4.out,HB0_4.out,HB1_4.out⟩ ?_
        rintro w5 ⟨e5,bB0_5,bB1_5⟩
        have HX5:=Lib.hid e5;have HB0_5:=Lib.hid bB0_5;have HB1_5:=Lib.hid bB1_5
        clear e5 bB0_5 bB1_5
        have hS5:True:=trivial
        have HS5:=Lib.hid hS5;clear hS5
        go_region_held3 (fun w' => True)
          ((trivial)) ((fail))
        refine wp_name (fun W => Ext w W∧Blk W (w.heap.size) #[.int .i64 t.w,.int .i64 t.x,.int .i64 t.y,.int .i64 t.z] 22∧Blk W (w.heap.size + 1) #[.int .i64 0,.int .i64 0,.int .i64 0,.int .i64 0] 22) ⟨(HX5.out.trans (by repeat (first | assumption | exact Ext.refl _ | apply Ext.drew | apply Ext.alloc | (refine Ext.trans ?_ (by assumption))))),(Blk.ext HB0_5.out (by repeat (first | assumption | exact Ext.refl _ | apply Ext.drew | apply Ext.alloc | (refine Ext.trans ?_ (by assumption))))),(Blk.ext HB1_5.out (by repeat (first | assumption | exact Ext.refl _ | apply Ext.drew | apply Ext.alloc | (refine Ext.trans ?_ (by assumption)))))⟩ ?_
        rintro w6 ⟨e6,bB0_6,bB1_6⟩
        have HX6:=Lib.hid e6;have HB0_6:=Lib.hid bB0_6;have HB1_6:=Lib.hid bB1_6
        clear e6 bB0_6 bB1_6
        go_wp2_with fail
        go_roundw
        case rel => exact ⟨b4,a4.tmod b4,rfl,rfl,Lib.hid (eu_round HI4.out hz4),Lib.hid ⟨HX6.out,HB0_6.out,HB1_6.out⟩⟩
        case measure => exact eu_meas hz4
  obtain ⟨rfl,e51,bB0_51,bB1_51⟩:=hcut
  rename World => w51
  have HX51:=Lib.hid e51;have HB0_51:=Lib.hid bB0_51;have HB1_51:=Lib.hid bB1_51
  clear e51 bB0_51 bB1_51
  rcases first4 HZZ.out with h0 | h0 | ⟨h0,h1⟩ | ⟨h0,h1⟩ | ⟨h0,h1,h2⟩ | ⟨h0,h1,h2⟩ | ⟨h0,h1,h2,h3⟩ | ⟨h0,h1,h2,h3⟩
  · have hsg:sg4 t = 1:=(sg4_k0  (by omega)).trans (Int.sign_eq_one_of_pos h0)
    have hp:=prim4_at HEP.out hsg (congrArg (fun n:Nat => (n:Int)) HG4.out)
    have qw:t.w.tdiv (gc4:Int) = p.w:=by have:=hp.1;simpa using this
    have qx:t.x.tdiv (gc4:Int) = p.x:=by have:=hp.2.1;simpa using this
    have qy:t.y.tdiv (gc4:Int) = p.y:=by have:=hp.2.2.1;simpa using this
    have qz:t.z.tdiv (gc4:Int) = p.z:=by have:=hp.2.2.2;simpa using this
    have sgt0:decide (0 < t.w) = true:=decide_eq_true (by omega)
    have slt0:decide (t.w < 0) = false:=decide_eq_false (by omega)
    have g4p:decide ((0:Int) < (gc4:Int)) = true:=decide_eq_true (by omega)
    have HK:=Lib.hid (show t.w ≠ 0 by omega)
    clear hsg hp
    go_wp2_with fail
    refine wp_loop_rounds 5 ?_
    rw [rounds_succ]
    have c0_0:=HB0_51.out.cell 0 rfl
    go_wp2_with fail
    rw [rounds_succ]
    clear c0_0
    go_wp2_with fail
    rw [rounds_succ]
    go_wp2_with fail
    rw [rounds_succ]
    go_wp2_with fail
    rw [rounds_succ]
    go_wp2_with fail
    refine wp_loop_rounds 5 ?_
    rw [rounds_succ]
    have c0_0:=HB0_51.out.cell 0 rfl
    have f0_0:=HB0_51.out.free 0
    go_wp2_with fail
    rw [rounds_succ]
    clear c0_0 f0_0
    go_upto_region 19 with fail
    refine wp_name (fun W => Ext w W∧Blk W (w.heap.size) #[.int .i64 p.w,.int .i64 t.x,.int .i64 t.y,.int .i64 t.z] 22∧Blk W (w.heap.size + 1) #[.int .i64 0,.int .i64 0,.int .i64 0,.int .i64 0] 22) ⟨(HX51.out.setCell (by have:=HGEB0.out;first | omega | (simp only [];omega) | (simp;omega)) _),(HB0_51.out.set 0 (.int .i64 p.w)),(HB1_51.out.other (a:=⟨w.heap.size,0,none⟩) _ (by first | omega | (simp only [];omega) | (simp;omega)))⟩ ?_
    rintro w52 ⟨e52,bB0_52,bB1_52⟩
    have HX52:=Lib.hid e52;have HB0_52:=Lib.hid bB0_52;have HB1_52:=Lib.hid bB1_52
    clear e52 bB0_52 bB1_52
    have c0_1:=HB0_52.out.cell 1 rfl
    have f0_1:=HB0_52.out.free 1
    go_wp2_with fail
    rw [rounds_succ]
    clear c0_1 f0_1
    go_upto_region 19 with fail
    refine wp_name (fun W => Ext w W∧Blk W (w.heap.size) #[.int .i64 p.w,.int .i64 p.x,.int .i64 t.y,.int .i64 t.z] 22∧Blk W (w.heap.size + 1) #[.int .i64 0,.int .i64 0,.int .i64 0,.int .i64 0] 22) ⟨(HX52.out.setCell (by have:=HGEB0.out;first | omega | (simp only [];omega) | (simp;omega)) _),(HB0_52.out.set 1 (.int .i64 p.x)),(HB1_52.out.other (a:=⟨w.heap.size,1,none⟩) _ (by first | omega | (simp only [];omega) | (simp;omega)))⟩ ?_
    rintro w53 ⟨e53,bB0_53,bB1_53⟩
    have HX53:=Lib.hid e53;have HB0_53:=Lib.hid bB0_53;have HB1_53:=Lib.hid bB1_53
    clear e53 bB0_53 bB1_53
    have c0_2:=HB0_53.out.cell 2 rfl
    have f0_2:=HB0_53.out.free 2
    go_wp2_with fail
    rw [rounds_succ]
    clear c0_2 f0_2
    go_upto_region 19 with fail
    refine wp_name (fun W => Ext w W∧Blk W (w.heap.size) #[.int .i64 p.w,.int .i64 p.x,.int .i64 p.y,.int .i64 t.z] 22∧Blk W (w.heap.size + 1) #[.int .i64 0,.int .i64 0,.int .i64 0,.int .i64 0] 22) ⟨(HX53.out.setCell (by have:=HGEB0.out;first | omega | (simp only [];omega) | (simp;omega)) _),(HB0_53.out.set 2 (.int .i64 p.y)),(HB1_53.out.other (a:=⟨w.heap.size,2,none⟩) _ (by first | omega | (simp only [];omega) | (simp;omega)))⟩ ?_
    rintro w54 ⟨e54,bB0_54,bB1_54⟩
    have HX54:=Lib.hid e54;have HB0_54:=Lib.hid bB0_54;have HB1_54:=Lib.hid bB1_54
    clear e54 bB0_54 bB1_54
    have c0_3:=HB0_54.out.cell 3 rfl
    have f0_3:=HB0_54.out.free 3
    go_wp2_with fail
    rw [rounds_succ]
    clear c0_3 f0_3
    go_upto_region 20 with fail
    refine wp_name (fun W => Ext w W∧Blk W (w.heap.size) #[.int .i64 p.w,.int .i64 p.x,.int .i64 p.y,.int .i64 p.z] 22∧Blk W (w.heap.size + 1) #[.int .i64 0,.int .i64 0,.int .i64 0,.int .i64 0] 22) ⟨(HX54.out.setCell (by have:=HGEB0.out;first | omega | (simp only [];omega) | (simp;omega)) _),(HB0_54.out.set 3 (.int .i64 p.z)),(HB1_54.out.other (a:=⟨w.heap.size,3,none⟩) _ (by first | omega | (simp only [];omega) | (simp;omega)))⟩ ?_
    rintro w55 ⟨e55,bB0_55,bB1_55⟩
    have HX55:=Lib.hid e55;have HB0_55:=Lib.hid bB0_55;have HB1_55:=Lib.hid bB1_55
    clear e55 bB0_55 bB1_55
    have c0_0:=HB0_55.out.cell 0 rfl
    have c0_1:=HB0_55.out.cell 1 rfl
    have c0_2:=HB0_55.out.cell 2 rfl
    have c0_3:=HB0_55.out.cell 3 rfl
    have c1_0:=HB1_55.out.cell 0 rfl
    have f1_0:=HB1_55.out.free 0
    have c1_1:=HB1_55.out.cell 1 rfl
    have f1_1:=HB1_55.out.free 1
    have c1_2:=HB1_55.out.cell 2 rfl
    have f1_2:=HB1_55.out.free 2
    have c1_3:=HB1_55.out.cell 3 rfl
    have f1_3:=HB1_55.out.free 3
    go_wp2_with fail
    refine wp_name (fun W => Ext w W∧Blk W (w.heap.size) #[.int .i64 p.w,.int .i64 p.x,.int .i64 p.y,.int .i64 p.z] 22∧Blk W (w.heap.size + 1) #[.int .i64 p.w,.int .i64 p.x,.int .i64 p.y,.int .i64 p.z] 22) ⟨((((HX55.out.setCell (by have:=HGEB1.out;first | omega | (simp only [];omega) | (simp;omega)) _).setCell (by have:=HGEB1.out;first | omega | (simp only [];omega) | (simp;omega)) _).setCell (by have:=HGEB1.out;first | omega | (simp only [];omega) | (simp;omega)) _).setCell (by have:=HGEB1.out;first | omega | (simp only [];omega) | (simp;omega)) _),((((HB0_55.out.other (a:=⟨w.heap.size + 1,0,none⟩) _ (by first | omega | (simp only [];omega) | (simp;omega))).other (a:=⟨w.heap.size + 1,1,none⟩) _ (by first | omega | (simp only [];omega) | (simp;omega))).other (a:=⟨w.heap.size + 1,2,none⟩) _ (by first | omega | (simp only [];omega) | (simp;omega))).other (a:=⟨w.heap.size + 1,3,none⟩) _ (by first | omega | (simp only [];omega) | (simp;omega))),((((HB1_55.out.set 0 (.int .i64 p.w)).set 1 (.int .i64 p.x)).set 2 (.int .i64 p.y)).set 3 (.int .i64 p.z))⟩ ?_
    rintro w56 ⟨e56,bB0_56,bB1_56⟩
    have HX56:=Lib.hid e56;have HB0_56:=Lib.hid bB0_56;have HB1_56:=Lib.hid bB1_56
    clear e56 bB0_56 bB1_56 c0_0 c0_1 c0_2 c0_3 c1_0 f1_0 c1_1 f1_1 c1_2 f1_2 c1_3 f1_3
    have gB1_0:=HB1_56.out.cell 0 rfl
    have gB1_1:=HB1_56.out.cell 1 rfl
    have gB1_2:=HB1_56.out.cell 2 rfl
    have gB1_3:=HB1_56.out.cell 3 rfl
    rw [HEP.out]
    refine bodyPost_ret (v:=.agg #[.int .i64 p.w,.int .i64 p.x,.int .i64 p.y,.int .i64 p.z]) (by simp [results,Tryz.results19,go_sem,gB1_0,gB1_1,gB1_2,gB1_3]) rfl ⟨rfl,HX56.out⟩
  · have hsg:sg4 t = -1:=(sg4_k0  (by omega)).trans (Int.sign_eq_neg_one_of_neg h0)
    have hp:=prim4_at HEP.out hsg (congrArg (fun n:Nat => (n:Int)) HG4.out)
    have qw:(-t.w).tdiv (gc4:Int) = p.w:=by have:=hp.1;rw [Int.neg_tdiv,← Int.tdiv_neg];simpa using this
    have qx:(-t.x).tdiv (gc4:Int) = p.x:=by have:=hp.2.1;rw [Int.neg_tdiv,← Int.tdiv_neg];simpa using this
    have qy:(-t.y).tdiv (gc4:Int) = p.y:=by have:=hp.2.2.1;rw [Int.neg_tdiv,← Int.tdiv_neg];simpa using this
    have qz:(-t.z).tdiv (gc4:Int) = p.z:=by have:=hp.2.2.2;rw [Int.neg_tdiv,← Int.tdiv_neg];simpa using this
    have sgt0:decide (0 < t.w) = false:=decide_eq_false (by omega)
    have slt0:decide (t.w < 0) = true:=decide_eq_true (by omega)
    have g4p:decide ((0:Int) < (gc4:Int)) = true:=decide_eq_true (by omega)
    have HK:=Lib.hid (show t.w ≠ 0 by omega)
    clear hsg hp
    go_wp2_with fail
    refine wp_loop_rounds 5 ?_
    rw [rounds_succ]
    have c0_0:=HB0_51.out.cell 0 rfl
    go_wp2_with fail
    rw [rounds_succ]
    clear c0_0
    go_wp2_with fail
    rw [rounds_succ]
    go_wp2_with fail
    rw [rounds_succ]
    go_wp2_with fail
    rw [rounds_succ]
    go_wp2_with fail
    refine wp_loop_rounds 5 ?_
    rw [rounds_succ]
    have c0_0:=HB0_51.out.cell 0 rfl
    have f0_0:=HB0_51.out.free 0
    go_wp2_with fail
    rw [rounds_succ]
    clear c0_0 f0_0
    go_upto_region 19 with fail
    refine wp_name (fun W => Ext w W∧Blk W (w.heap.size) #[.int .i64 p.w,.int .i64 t.x,.int .i64 t.y,.int .i64 t.z] 22∧Blk W (w.heap.size + 1) #[.int .i64 0,.int .i64 0,.int .i64 0,.int .i64 0] 22) ⟨(HX51.out.setCell (by have:=HGEB0.out;first | omega | (simp only [];omega) | (simp;omega)) _),(HB0_51.out.set 0 (.int .i64 p.w)),(HB1_51.out.other (a:=⟨w.heap.size,0,none⟩) _ (by first | omega | (simp only [];omega) | (simp;omega)))⟩ ?_
    rintro w52 ⟨e52,bB0_52,bB1_52⟩
    have HX52:=Lib.hid e52;have HB0_52:=Lib.hid bB0_52;have HB1_52:=Lib.hid bB1_52
    clear e52 bB0_52 bB1_52
    have c0_1:=HB0_52.out.cell 1 rfl
    have f0_1:=HB0_52.out.free 1
    go_wp2_with fail
    rw [rounds_succ]
    clear c0_1 f0_1
    go_upto_region 19 with fail
    refine wp_name (fun W => Ext w W∧Blk W (w.heap.size) #[.int .i64 p.w,.int .i64 p.x,.int .i64 t.y,.int .i64 t.z] 22∧Blk W (w.heap.size + 1) #[.int .i64 0,.int .i64 0,.int .i64 0,.int .i64 0] 22) ⟨(HX52.out.setCell (by have:=HGEB0.out;first | omega | (simp only [];omega) | (simp;omega)) _),(HB0_52.out.set 1 (.int .i64 p.x)),(HB1_52.out.other (a:=⟨w.heap.size,1,none⟩) _ (by first | omega | (simp only [];omega) | (simp;omega)))⟩ ?_
    rintro w53 ⟨e53,bB0_53,bB1_53⟩
    have HX53:=Lib.hid e53;have HB0_53:=Lib.hid bB0_53;have HB1_53:=Lib.hid bB1_53
    clear e53 bB0_53 bB1_53
    have c0_2:=HB0_53.out.cell 2 rfl
    have f0_2:=HB0_53.out.free 2
    go_wp2_with fail
    rw [rounds_succ]
    clear c0_2 f0_2
    go_upto_region 19 with fail
    refine wp_name (fun W => Ext w W∧Blk W (w.heap.size) #[.int .i64 p.w,.int .i64 p.x,.int .i64 p.y,.int .i64 t.z] 22∧Blk W (w.heap.size + 1) #[.int .i64 0,.int .i64 0,.int .i64 0,.int .i64 0] 22) ⟨(HX53.out.setCell (by have:=HGEB0.out;first | omega | (simp only [];omega) | (simp;omega)) _),(HB0_53.out.set 2 (.int .i64 p.y)),(HB1_53.out.other (a:=⟨w.heap.size,2,none⟩) _ (by first | omega | (simp only [];omega) | (simp;omega)))⟩ ?_
    rintro w54 ⟨e54,bB0_54,bB1_54⟩
    have HX54:=Lib.hid e54;have HB0_54:=Lib.hid bB0_54;have HB1_54:=Lib.hid bB1_54
    clear e54 bB0_54 bB1_54
    have c0_3:=HB0_54.out.cell 3 rfl
    have f0_3:=HB0_54.out.free 3
    go_wp2_with fail
    rw [rounds_succ]
    clear c0_3 f0_3
    go_upto_region 20 with fail
    refine wp_name (fun W => Ext w W∧Blk W (w.heap.size) #[.int .i64 p.w,.int .i64 p.x,.int .i64 p.y,.int .i64 p.z] 22∧Blk W (w.heap.size + 1) #[.int .i64 0,.int .i64 0,.int .i64 0,.int .i64 0] 22) ⟨(HX54.out.setCell (by have:=HGEB0.out;first | omega | (simp only [];omega) | (simp;omega)) _),(HB0_54.out.set 3 (.int .i64 p.z)),(HB1_54.out.other (a:=⟨w.heap.size,3,none⟩) _ (by first | omega | (simp only [];omega) | (simp;omega)))⟩ ?_
    rintro w55 ⟨e55,bB0_55,bB1_55⟩
    have HX55:=Lib.hid e55;have HB0_55:=Lib.hid bB0_55;have HB1_55:=Lib.hid bB1_55
    clear e55 bB0_55 bB1_55
    have c0_0:=HB0_55.out.cell 0 rfl
    have c0_1:=HB0_55.out.cell 1 rfl
    have c0_2:=HB0_55.out.cell 2 rfl
    have c0_3:=HB0_55.out.cell 3 rfl
    have c1_0:=HB1_55.out.cell 0 rfl
    have f1_0:=HB1_55.out.free 0
    have c1_1:=HB1_55.out.cell 1 rfl
    have f1_1:=HB1_55.out.free 1
    have c1_2:=HB1_55.out.cell 2 rfl
    have f1_2:=HB1_55.out.free 2
    have c1_3:=HB1_55.out.cell 3 rfl
    have f1_3:=HB1_55.out.free 3
    go_wp2_with fail
    refine wp_name (fun W => Ext w W∧Blk W (w.heap.size) #[.int .i64 p.w,.int .i64 p.x,.int .i64 p.y,.int .i64 p.z] 22∧Blk W (w.heap.size + 1) #[.int .i64 p.w,.int .i64 p.x,.int .i64 p.y,.int .i64 p.z] 22) ⟨((((HX55.out.setCell (by have:=HGEB1.out;first | omega | (simp only [];omega) | (simp;omega)) _).setCell (by have:=HGEB1.out;first | omega | (simp only [];omega) | (simp;omega)) _).setCell (by have:=HGEB1.out;first | omega | (simp only [];omega) | (simp;omega)) _).setCell (by have:=HGEB1.out;first | omega | (simp only [];omega) | (simp;omega)) _),((((HB0_55.out.other (a:=⟨w.heap.size + 1,0,none⟩) _ (by first | omega | (simp only [];omega) | (simp;omega))).other (a:=⟨w.heap.size + 1,1,none⟩) _ (by first | omega | (simp only [];omega) | (simp;omega))).other (a:=⟨w.heap.size + 1,2,none⟩) _ (by first | omega | (simp only [];omega) | (simp;omega))).other (a:=⟨w.heap.size + 1,3,none⟩) _ (by first | omega | (simp only [];omega) | (simp;omega))),((((HB1_55.out.set 0 (.int .i64 p.w)).set 1 (.int .i64 p.x)).set 2 (.int .i64 p.y)).set 3 (.int .i64 p.z))⟩ ?_
    rintro w56 ⟨e56,bB0_56,bB1_56⟩
    have HX56:=Lib.hid e56;have HB0_56:=Lib.hid bB0_56;have HB1_56:=Lib.hid bB1_56
    clear e56 bB0_56 bB1_56 c0_0 c0_1 c0_2 c0_3 c1_0 f1_0 c1_1 f1_1 c1_2 f1_2 c1_3 f1_3
    have gB1_0:=HB1_56.out.cell 0 rfl
    have gB1_1:=HB1_56.out.cell 1 rfl
    have gB1_2:=HB1_56.out.cell 2 rfl
    have gB1_3:=HB1_56.out.cell 3 rfl
    rw [HEP.out]
    refine bodyPost_ret (v:=.agg #[.int .i64 p.w,.int .i64 p.x,.int .i64 p.y,.int .i64 p.z]) (by simp [results,Tryz.results19,go_sem,gB1_0,gB1_1,gB1_2,gB1_3]) rfl ⟨rfl,HX56.out⟩
  · have hsg:sg4 t = 1:=(sg4_k1 h0 (by omega)).trans (Int.sign_eq_one_of_pos h1)
    have hp:=prim4_at HEP.out hsg (congrArg (fun n:Nat => (n:Int)) HG4.out)
    have qw:t.w.tdiv (gc4:Int) = p.w:=by have:=hp.1;simpa using this
    have qx:t.x.tdiv (gc4:Int) = p.x:=by have:=hp.2.1;simpa using this
    have qy:t.y.tdiv (gc4:Int) = p.y:=by have:=hp.2.2.1;simpa using this
    have qz:t.z.tdiv (gc4:Int) = p.z:=by have:=hp.2.2.2;simpa using this
    have sgt0:decide (0 < t.w) = false:=decide_eq_false (by omega)
    have slt0:decide (t.w < 0) = false:=decide_eq_false (by omega)
    have sgt1:decide (0 < t.x) = true:=decide_eq_true (by omega)
    have slt1:decide (t.x < 0) = false:=decide_eq_false (by omega)
    have g4p:decide ((0:Int) < (gc4:Int)) = true:=decide_eq_true (by omega)
    have HZ0:=Lib.hid h0
    have HK:=Lib.hid (show t.x ≠ 0 by omega)
    clear hsg hp h0
    go_wp2_with fail
    refine wp_loop_rounds 5 ?_
    rw [rounds_succ]
    have c0_0:=HB0_51.out.cell 0 rfl
    go_wp2_with fail
    rw [rounds_succ]
    clear c0_0
    have c0_1:=HB0_51.out.cell 1 rfl
    go_wp2_with fail
    rw [rounds_succ]
    clear c0_1
    go_wp2_with fail
    rw [rounds_succ]
    go_wp2_with fail
    rw [rounds_succ]
    go_wp2_with fail
    refine wp_loop_rounds 5 ?_
    rw [rounds_succ]
    have c0_0:=HB0_51.out.cell 0 rfl
    have f0_0:=HB0_51.out.free 0
    go_wp2_with fail
    rw [rounds_succ]
    clear c0_0 f0_0
    go_upto_region 19 with fail
    refine wp_name (fun W => Ext w W∧Blk W (w.heap.size) #[.int .i64 p.w,.int .i64 t.x,.int .i64 t.y,.int .i64 t.z] 22∧Blk W (w.heap.size + 1) #[.int .i64 0,.int .i64 0,.int .i64 0,.int .i64 0] 22) ⟨(HX51.out.setCell (by have:=HGEB0.out;first | omega | (simp only [];omega) | (simp;omega)) _),(HB0_51.out.set 0 (.int .i64 p.w)),(HB1_51.out.other (a:=⟨w.heap.size,0,none⟩) _ (by first | omega | (simp only [];omega) | (simp;omega)))⟩ ?_
    rintro w52 ⟨e52,bB0_52,bB1_52⟩
    have HX52:=Lib.hid e52;have HB0_52:=Lib.hid bB0_52;have HB1_52:=Lib.hid bB1_52
    clear e52 bB0_52 bB1_52
    have c0_1:=HB0_52.out.cell 1 rfl
    have f0_1:=HB0_52.out.free 1
    go_wp2_with fail
    rw [rounds_succ]
    clear c0_1 f0_1
    go_upto_region 19 with fail
    refine wp_name (fun W => Ext w W∧Blk W (w.heap.size) #[.int .i64 p.w,.int .i64 p.x,.int .i64 t.y,.int .i64 t.z] 22∧Blk W (w.heap.size + 1) #[.int .i64 0,.int .i64 0,.int .i64 0,.int .i64 0] 22) ⟨(HX52.out.setCell (by have:=HGEB0.out;first | omega | (simp only [];omega) | (simp;omega)) _),(HB0_52.out.set 1 (.int .i64 p.x)),(HB1_52.out.other (a:=⟨w.heap.size,1,none⟩) _ (by first | omega | (simp only [];omega) | (simp;omega)))⟩ ?_
    rintro w53 ⟨e53,bB0_53,bB1_53⟩
    have HX53:=Lib.hid e53;have HB0_53:=Lib.hid bB0_53;have HB1_53:=Lib.hid bB1_53
    clear e53 bB0_53 bB1_53
    have c0_2:=HB0_53.out.cell 2 rfl
    have f0_2:=HB0_53.out.free 2
    go_wp2_with fail
    rw [rounds_succ]
    clear c0_2 f0_2
    go_upto_region 19 with fail
    refine wp_name (fun W => Ext w W∧Blk W (w.heap.size) #[.int .i64 p.w,.int .i64 p.x,.int .i64 p.y,.int .i64 t.z] 22∧Blk W (w.heap.size + 1) #[.int .i64 0,.int .i64 0,.int .i64 0,.int .i64 0] 22) ⟨(HX53.out.setCell (by have:=HGEB0.out;first | omega | (simp only [];omega) | (simp;omega)) _),(HB0_53.out.set 2 (.int .i64 p.y)),(HB1_53.out.other (a:=⟨w.heap.size,2,none⟩) _ (by first | omega | (simp only [];omega) | (simp;omega)))⟩ ?_
    rintro w54 ⟨e54,bB0_54,bB1_54⟩
    have HX54:=Lib.hid e54;have HB0_54:=Lib.hid bB0_54;have HB1_54:=Lib.hid bB1_54
    clear e54 bB0_54 bB1_54
    have c0_3:=HB0_54.out.cell 3 rfl
    have f0_3:=HB0_54.out.free 3
    go_wp2_with fail
    rw [rounds_succ]
    clear c0_3 f0_3
    go_upto_region 20 with fail
    refine wp_name (fun W => Ext w W∧Blk W (w.heap.size) #[.int .i64 p.w,.int .i64 p.x,.int .i64 p.y,.int .i64 p.z] 22∧Blk W (w.heap.size + 1) #[.int .i64 0,.int .i64 0,.int .i64 0,.int .i64 0] 22) ⟨(HX54.out.setCell (by have:=HGEB0.out;first | omega | (simp only [];omega) | (simp;omega)) _),(HB0_54.out.set 3 (.int .i64 p.z)),(HB1_54.out.other (a:=⟨w.heap.size,3,none⟩) _ (by first | omega | (simp only [];omega) | (simp;omega)))⟩ ?_
    rintro w55 ⟨e55,bB0_55,bB1_55⟩
    have HX55:=Lib.hid e55;have HB0_55:=Lib.hid bB0_55;have HB1_55:=Lib.hid bB1_55
    clear e55 bB0_55 bB1_55
    have c0_0:=HB0_55.out.cell 0 rfl
    have c0_1:=HB0_55.out.cell 1 rfl
    have c0_2:=HB0_55.out.cell 2 rfl
    have c0_3:=HB0_55.out.cell 3 rfl
    have c1_0:=HB1_55.out.cell 0 rfl
    have f1_0:=HB1_55.out.free 0
    have c1_1:=HB1_55.out.cell 1 rfl
    have f1_1:=HB1_55.out.free 1
    have c1_2:=HB1_55.out.cell 2 rfl
    have f1_2:=HB1_55.out.free 2
    have c1_3:=HB1_55.out.cell 3 rfl
    have f1_3:=HB1_55.out.free 3
    go_wp2_with fail
    refine wp_name (fun W => Ext w W∧Blk W (w.heap.size) #[.int .i64 p.w,.int .i64 p.x,.int .i64 p.y,.int .i64 p.z] 22∧Blk W (w.heap.size + 1) #[.int .i64 p.w,.int .i64 p.x,.int .i64 p.y,.int .i64 p.z] 22) ⟨((((HX55.out.setCell (by have:=HGEB1.out;first | omega | (simp only [];omega) | (simp;omega)) _).setCell (by have:=HGEB1.out;first | omega | (simp only [];omega) | (simp;omega)) _).setCell (by have:=HGEB1.out;first | omega | (simp only [];omega) | (simp;omega)) _).setCell (by have:=HGEB1.out;first | omega | (simp only [];omega) | (simp;omega)) _),((((HB0_55.out.other (a:=⟨w.heap.size + 1,0,none⟩) _ (by first | omega | (simp only [];omega) | (simp;omega))).other (a:=⟨w.heap.size + 1,1,none⟩) _ (by first | omega | (simp only [];omega) | (simp;omega))).other (a:=⟨w.heap.size + 1,2,none⟩) _ (by first | omega | (simp only [];omega) | (simp;omega))).other (a:=⟨w.heap.size + 1,3,none⟩) _ (by first | omega | (simp only [];omega) | (simp;omega))),((((HB1_55.out.set 0 (.int .i64 p.w)).set 1 (.int .i64 p.x)).set 2 (.int .i64 p.y)).set 3 (.int .i64 p.z))⟩ ?_
    rintro w56 ⟨e56,bB0_56,bB1_56⟩
    have HX56:=Lib.hid e56;have HB0_56:=Lib.hid bB0_56;have HB1_56:=Lib.hid bB1_56
    clear e56 bB0_56 bB1_56 c0_0 c0_1 c0_2 c0_3 c1_0 f1_0 c1_1 f1_1 c1_2 f1_2 c1_3 f1_3
    have gB1_0:=HB1_56.out.cell 0 rfl
    have gB1_1:=HB1_56.out.cell 1 rfl
    have gB1_2:=HB1_56.out.cell 2 rfl
    have gB1_3:=HB1_56.out.cell 3 rfl
    rw [HEP.out]
    refine bodyPost_ret (v:=.agg #[.int .i64 p.w,.int .i64 p.x,.int .i64 p.y,.int .i64 p.z]) (by simp [results,Tryz.results19,go_sem,gB1_0,gB1_1,gB1_2,gB1_3]) rfl ⟨rfl,HX56.out⟩
  · have hsg:sg4 t = -1:=(sg4_k1 h0 (by omega)).trans (Int.sign_eq_neg_one_of_neg h1)
    have hp:=prim4_at HEP.out hsg (congrArg (fun n:Nat => (n:Int)) HG4.out)
    have qw:(-t.w).tdiv (gc4:Int) = p.w:=by have:=hp.1;rw [Int.neg_tdiv,← Int.tdiv_neg];simpa using this
    have qx:(-t.x).tdiv (gc4:Int) = p.x:=by have:=hp.2.1;rw [Int.neg_tdiv,← Int.tdiv_neg];simpa using this
    have qy:(-t.y).tdiv (gc4:Int) = p.y:=by have:=hp.2.2.1;rw [Int.neg_tdiv,← Int.tdiv_neg];simpa using this
    have qz:(-t.z).tdiv (gc4:Int) = p.z:=by have:=hp.2.2.2;rw [Int.neg_tdiv,← Int.tdiv_neg];simpa using this
    have sgt0:decide (0 < t.w) = false:=decide_eq_false (by omega)
    have slt0:decide (t.w < 0) = false:=decide_eq_false (by omega)
    have sgt1:decide (0 < t.x) = false:=decide_eq_false (by omega)
    have slt1:decide (t.x < 0) = true:=decide_eq_true (by omega)
    have g4p:decide ((0:Int) < (gc4:Int)) = true:=decide_eq_true (by omega)
    have HZ0:=Lib.hid h0
    have HK:=Lib.hid (show t.x ≠ 0 by omega)
    clear hsg hp h0
    go_wp2_with fail
    refine wp_loop_rounds 5 ?_
    rw [rounds_succ]
    have c0_0:=HB0_51.out.cell 0 rfl
    go_wp2_with fail
    rw [rounds_succ]
    clear c0_0
    have c0_1:=HB0_51.out.cell 1 rfl
    go_wp2_with fail
    rw [rounds_succ]
    clear c0_1
    go_wp2_with fail
    rw [rounds_succ]
    go_wp2_with fail
    rw [rounds_succ]
    go_wp2_with fail
    refine wp_loop_rounds 5 ?_
    rw [rounds_succ]
    have c0_0:=HB0_51.out.cell 0 rfl
    have f0_0:=HB0_51.out.free 0
    go_wp2_with fail
    rw [rounds_succ]
    clear c0_0 f0_0
    go_upto_region 19 with fail
    refine wp_name (fun W => Ext w W∧Blk W (w.heap.size) #[.int .i64 p.w,.int .i64 t.x,.int .i64 t.y,.int .i64 t.z] 22∧Blk W (w.heap.size + 1) #[.int .i64 0,.int .i64 0,.int .i64 0,.int .i64 0] 22) ⟨(HX51.out.setCell (by have:=HGEB0.out;first | omega | (simp only [];omega) | (simp;omega)) _),(HB0_51.out.set 0 (.int .i64 p.w)),(HB1_51.out.other (a:=⟨w.heap.size,0,none⟩) _ (by first | omega | (simp only [];omega) | (simp;omega)))⟩ ?_
    rintro w52 ⟨e52,bB0_52,bB1_52⟩
    have HX52:=Lib.hid e52;have HB0_52:=Lib.hid bB0_52;have HB1_52:=Lib.hid bB1_52
    clear e52 bB0_52 bB1_52
    have c0_1:=HB0_52.out.cell 1 rfl
    have f0_1:=HB0_52.out.free 1
    go_wp2_with fail
    rw [rounds_succ]
    clear c0_1 f0_1
    go_upto_region 19 with fail
    refine wp_name (fun W => Ext w W∧Blk W (w.heap.size) #[.int .i64 p.w,.int .i64 p.x,.int .i64 t.y,.int .i64 t.z] 22∧Blk W (w.heap.size + 1) #[.int .i64 0,.int .i64 0,.int .i64 0,.int .i64 0] 22) ⟨(HX52.out.setCell (by have:=HGEB0.out;first | omega | (simp only [];omega) | (simp;omega)) _),(HB0_52.out.set 1 (.int .i64 p.x)),(HB1_52.out.other (a:=⟨w.heap.size,1,none⟩) _ (by first | omega | (simp only [];omega) | (simp;omega)))⟩ ?_
    rintro w53 ⟨e53,bB0_53,bB1_53⟩
    have HX53:=Lib.hid e53;have HB0_53:=Lib.hid bB0_53;have HB1_53:=Lib.hid bB1_53
    clear e53 bB0_53 bB1_53
    have c0_2:=HB0_53.out.cell 2 rfl
    have f0_2:=HB0_53.out.free 2
    go_wp2_with fail
    rw [rounds_succ]
    clear c0_2 f0_2
    go_upto_region 19 with fail
    refine wp_name (fun W => Ext w W∧Blk W (w.heap.size) #[.int .i64 p.w,.int .i64 p.x,.int .i64 p.y,.int .i64 t.z] 22∧Blk W (w.heap.size + 1) #[.int .i64 0,.int .i64 0,.int .i64 0,.int .i64 0] 22) ⟨(HX53.out.setCell (by have:=HGEB0.out;first | omega | (simp only [];omega) | (simp;omega)) _),(HB0_53.out.set 2 (.int .i64 p.y)),(HB1_53.out.other (a:=⟨w.heap.size,2,none⟩) _ (by first | omega | (simp only [];omega) | (simp;omega)))⟩ ?_
    rintro w54 ⟨e54,bB0_54,bB1_54⟩
    have HX54:=Lib.hid e54;have HB0_54:=Lib.hid bB0_54;have HB1_54:=Lib.hid bB1_54
    clear e54 bB0_54 bB1_54
    have c0_3:=HB0_54.out.cell 3 rfl
    have f0_3:=HB0_54.out.free 3
    go_wp2_with fail
    rw [rounds_succ]
    clear c0_3 f0_3
    go_upto_region 20 with fail
    refine wp_name (fun W => Ext w W∧Blk W (w.heap.size) #[.int .i64 p.w,.int .i64 p.x,.int .i64 p.y,.int .i64 p.z] 22∧Blk W (w.heap.size + 1) #[.int .i64 0,.int .i64 0,.int .i64 0,.int .i64 0] 22) ⟨(HX54.out.setCell (by have:=HGEB0.out;first | omega | (simp only [];omega) | (simp;omega)) _),(HB0_54.out.set 3 (.int .i64 p.z)),(HB1_54.out.other (a:=⟨w.heap.size,3,none⟩) _ (by first | omega | (simp only [];omega) | (simp;omega)))⟩ ?_
    rintro w55 ⟨e55,bB0_55,bB1_55⟩
    have HX55:=Lib.hid e55;have HB0_55:=Lib.hid bB0_55;have HB1_55:=Lib.hid bB1_55
    clear e55 bB0_55 bB1_55
    have c0_0:=HB0_55.out.cell 0 rfl
    have c0_1:=HB0_55.out.cell 1 rfl
    have c0_2:=HB0_55.out.cell 2 rfl
    have c0_3:=HB0_55.out.cell 3 rfl
    have c1_0:=HB1_55.out.cell 0 rfl
    have f1_0:=HB1_55.out.free 0
    have c1_1:=HB1_55.out.cell 1 rfl
    have f1_1:=HB1_55.out.free 1
    have c1_2:=HB1_55.out.cell 2 rfl
    have f1_2:=HB1_55.out.free 2
    have c1_3:=HB1_55.out.cell 3 rfl
    have f1_3:=HB1_55.out.free 3
    go_wp2_with fail
    refine wp_name (fun W => Ext w W∧Blk W (w.heap.size) #[.int .i64 p.w,.int .i64 p.x,.int .i64 p.y,.int .i64 p.z] 22∧Blk W (w.heap.size + 1) #[.int .i64 p.w,.int .i64 p.x,.int .i64 p.y,.int .i64 p.z] 22) ⟨((((HX55.out.setCell (by have:=HGEB1.out;first | omega | (simp only [];omega) | (simp;omega)) _).setCell (by have:=HGEB1.out;first | omega | (simp only [];omega) | (simp;omega)) _).setCell (by have:=HGEB1.out;first | omega | (simp only [];omega) | (simp;omega)) _).setCell (by have:=HGEB1.out;first | omega | (simp only [];omega) | (simp;omega)) _),((((HB0_55.out.other (a:=⟨w.heap.size + 1,0,none⟩) _ (by first | omega | (simp only [];omega) | (simp;omega))).other (a:=⟨w.heap.size + 1,1,none⟩) _ (by first | omega | (simp only [];omega) | (simp;omega))).other (a:=⟨w.heap.size + 1,2,none⟩) _ (by first | omega | (simp only [];omega) | (simp;omega))).other (a:=⟨w.heap.size + 1,3,none⟩) _ (by first | omega | (simp only [];omega) | (simp;omega))),((((HB1_55.out.set 0 (.int .i64 p.w)).set 1 (.int .i64 p.x)).set 2 (.int .i64 p.y)).set 3 (.int .i64 p.z))⟩ ?_
    rintro w56 ⟨e56,bB0_56,bB1_56⟩
    have HX56:=Lib.hid e56;have HB0_56:=Lib.hid bB0_56;have HB1_56:=Lib.hid bB1_56
    clear e56 bB0_56 bB1_56 c0_0 c0_1 c0_2 c0_3 c1_0 f1_0 c1_1 f1_1 c1_2 f1_2 c1_3 f1_3
    have gB1_0:=HB1_56.out.cell 0 rfl
    have gB1_1:=HB1_56.out.cell 1 rfl
    have gB1_2:=HB1_56.out.cell 2 rfl
    have gB1_3:=HB1_56.out.cell 3 rfl
    rw [HEP.out]
    refine bodyPost_ret (v:=.agg #[.int .i64 p.w,.int .i64 p.x,.int .i64 p.y,.int .i64 p.z]) (by simp [results,Tryz.results19,go_sem,gB1_0,gB1_1,gB1_2,gB1_3]) rfl ⟨rfl,HX56.out⟩
  · have hsg:sg4 t = 1:=(sg4_k2 h0 h1 (by omega)).trans (Int.sign_eq_one_of_pos h2)
    have hp:=prim4_at HEP.out hsg (congrArg (fun n:Nat => (n:Int)) HG4.out)
    have qw:t.w.tdiv (gc4:Int) = p.w:=by have:=hp.1;simpa using this
    have qx:t.x.tdiv (gc4:Int) = p.x:=by have:=hp.2.1;simpa using this
    have qy:t.y.tdiv (gc4:Int) = p.y:=by have:=hp.2.2.1;simpa using this
    have qz:t.z.tdiv (gc4:Int) = p.z:=by have:=hp.2.2.2;simpa using this
    have sgt0:decide (0 < t.w) = false:=decide_eq_false (by omega)
    have slt0:decide (t.w < 0) = false:=decide_eq_false (by omega)
    have sgt1:decide (0 < t.x) = false:=decide_eq_false (by omega)
    have slt1:decide (t.x < 0) = false:=decide_eq_false (by omega)
    have sgt2:decide (0 < t.y) = true:=decide_eq_true (by omega)
    have slt2:decide (t.y < 0) = false:=decide_eq_false (by omega)
    have g4p:decide ((0:Int) < (gc4:Int)) = true:=decide_eq_true (by omega)
    have HZ0:=Lib.hid h0;have HZ1:=Lib.hid h1
    have HK:=Lib.hid (show t.y ≠ 0 by omega)
    clear hsg hp h0 h1
    go_wp2_with fail
    refine wp_loop_rounds 5 ?_
    rw [rounds_succ]
    have c0_0:=HB0_51.out.cell 0 rfl
    go_wp2_with fail
    rw [rounds_succ]
    clear c0_0
    have c0_1:=HB0_51.out.cell 1 rfl
    go_wp2_with fail
    rw [rounds_succ]
    clear c0_1
    have c0_2:=HB0_51.out.cell 2 rfl
    go_wp2_with fail
    rw [rounds_succ]
    clear c0_2
    go_wp2_with fail
    rw [rounds_succ]
    go_wp2_with fail
    refine wp_loop_rounds 5 ?_
    rw [rounds_succ]
    have c0_0:=HB0_51.out.cell 0 rfl
    have f0_0:=HB0_51.out.free 0
    go_wp2_with fail
    rw [rounds_succ]
    clear c0_0 f0_0
    go_upto_region 19 with fail
    refine wp_name (fun W => Ext w W∧Blk W (w.heap.size) #[.int .i64 p.w,.int .i64 t.x,.int .i64 t.y,.int .i64 t.z] 22∧Blk W (w.heap.size + 1) #[.int .i64 0,.int .i64 0,.int .i64 0,.int .i64 0] 22) ⟨(HX51.out.setCell (by have:=HGEB0.out;first | omega | (simp only [];omega) | (simp;omega)) _),(HB0_51.out.set 0 (.int .i64 p.w)),(HB1_51.out.other (a:=⟨w.heap.size,0,none⟩) _ (by first | omega | (simp only [];omega) | (simp;omega)))⟩ ?_
    rintro w52 ⟨e52,bB0_52,bB1_52⟩
    have HX52:=Lib.hid e52;have HB0_52:=Lib.hid bB0_52;have HB1_52:=Lib.hid bB1_52
    clear e52 bB0_52 bB1_52
    have c0_1:=HB0_52.out.cell 1 rfl
    have f0_1:=HB0_52.out.free 1
    go_wp2_with fail
    rw [rounds_succ]
    clear c0_1 f0_1
    go_upto_region 19 with fail
    refine wp_name (fun W => Ext w W∧Blk W (w.heap.size) #[.int .i64 p.w,.int .i64 p.x,.int .i64 t.y,.int .i64 t.z] 22∧Blk W (w.heap.size + 1) #[.int .i64 0,.int .i64 0,.int .i64 0,.int .i64 0] 22) ⟨(HX52.out.setCell (by have:=HGEB0.out;first | omega | (simp only [];omega) | (simp;omega)) _),(HB0_52.out.set 1 (.int .i64 p.x)),(HB1_52.out.other (a:=⟨w.heap.size,1,none⟩) _ (by first | omega | (simp only [];omega) | (simp;omega)))⟩ ?_
    rintro w53 ⟨e53,bB0_53,bB1_53⟩
    have HX53:=Lib.hid e53;have HB0_53:=Lib.hid bB0_53;have HB1_53:=Lib.hid bB1_53
    clear e53 bB0_53 bB1_53
    have c0_2:=HB0_53.out.cell 2 rfl
    have f0_2:=HB0_53.out.free 2
    go_wp2_with fail
    rw [rounds_succ]
    clear c0_2 f0_2
    go_upto_region 19 with fail
    refine wp_name (fun W => Ext w W∧Blk W (w.heap.size) #[.int .i64 p.w,.int .i64 p.x,.int .i64 p.y,.int .i64 t.z] 22∧Blk W (w.heap.size + 1) #[.int .i64 0,.int .i64 0,.int .i64 0,.int .i64 0] 22) ⟨(HX53.out.setCell (by have:=HGEB0.out;first | omega | (simp only [];omega) | (simp;omega)) _),(HB0_53.out.set 2 (.int .i64 p.y)),(HB1_53.out.other (a:=⟨w.heap.size,2,none⟩) _ (by first | omega | (simp only [];omega) | (simp;omega)))⟩ ?_
    rintro w54 ⟨e54,bB0_54,bB1_54⟩
    have HX54:=Lib.hid e54;have HB0_54:=Lib.hid bB0_54;have HB1_54:=Lib.hid bB1_54
    clear e54 bB0_54 bB1_54
    have c0_3:=HB0_54.out.cell 3 rfl
    have f0_3:=HB0_54.out.free 3
    go_wp2_with fail
    rw [rounds_succ]
    clear c0_3 f0_3
    go_upto_region 20 with fail
    refine wp_name (fun W => Ext w W∧Blk W (w.heap.size) #[.int .i64 p.w,.int .i64 p.x,.int .i64 p.y,.int .i64 p.z] 22∧Blk W (w.heap.size + 1) #[.int .i64 0,.int .i64 0,.int .i64 0,.int .i64 0] 22) ⟨(HX54.out.setCell (by have:=HGEB0.out;first | omega | (simp only [];omega) | (simp;omega)) _),(HB0_54.out.set 3 (.int .i64 p.z)),(HB1_54.out.other (a:=⟨w.heap.size,3,none⟩) _ (by first | omega | (simp only [];omega) | (simp;omega)))⟩ ?_
    rintro w55 ⟨e55,bB0_55,bB1_55⟩
    have HX55:=Lib.hid e55;have HB0_55:=Lib.hid bB0_55;have HB1_55:=Lib.hid bB1_55
    clear e55 bB0_55 bB1_55
    have c0_0:=HB0_55.out.cell 0 rfl
    have c0_1:=HB0_55.out.cell 1 rfl
    have c0_2:=HB0_55.out.cell 2 rfl
    have c0_3:=HB0_55.out.cell 3 rfl
    have c1_0:=HB1_55.out.cell 0 rfl
    have f1_0:=HB1_55.out.free 0
    have c1_1:=HB1_55.out.cell 1 rfl
    have f1_1:=HB1_55.out.free 1
    have c1_2:=HB1_55.out.cell 2 rfl
    have f1_2:=HB1_55.out.free 2
    have c1_3:=HB1_55.out.cell 3 rfl
    have f1_3:=HB1_55.out.free 3
    go_wp2_with fail
    refine wp_name (fun W => Ext w W∧Blk W (w.heap.size) #[.int .i64 p.w,.int .i64 p.x,.int .i64 p.y,.int .i64 p.z] 22∧Blk W (w.heap.size + 1) #[.int .i64 p.w,.int .i64 p.x,.int .i64 p.y,.int .i64 p.z] 22) ⟨((((HX55.out.setCell (by have:=HGEB1.out;first | omega | (simp only [];omega) | (simp;omega)) _).setCell (by have:=HGEB1.out;first | omega | (simp only [];omega) | (simp;omega)) _).setCell (by have:=HGEB1.out;first | omega | (simp only [];omega) | (simp;omega)) _).setCell (by have:=HGEB1.out;first | omega | (simp only [];omega) | (simp;omega)) _),((((HB0_55.out.other (a:=⟨w.heap.size + 1,0,none⟩) _ (by first | omega | (simp only [];omega) | (simp;omega))).other (a:=⟨w.heap.size + 1,1,none⟩) _ (by first | omega | (simp only [];omega) | (simp;omega))).other (a:=⟨w.heap.size + 1,2,none⟩) _ (by first | omega | (simp only [];omega) | (simp;omega))).other (a:=⟨w.heap.size + 1,3,none⟩) _ (by first | omega | (simp only [];omega) | (simp;omega))),((((HB1_55.out.set 0 (.int .i64 p.w)).set 1 (.int .i64 p.x)).set 2 (.int .i64 p.y)).set 3 (.int .i64 p.z))⟩ ?_
    rintro w56 ⟨e56,bB0_56,bB1_56⟩
    have HX56:=Lib.hid e56;have HB0_56:=Lib.hid bB0_56;have HB1_56:=Lib.hid bB1_56
    clear e56 bB0_56 bB1_56 c0_0 c0_1 c0_2 c0_3 c1_0 f1_0 c1_1 f1_1 c1_2 f1_2 c1_3 f1_3
    have gB1_0:=HB1_56.out.cell 0 rfl
    have gB1_1:=HB1_56.out.cell 1 rfl
    have gB1_2:=HB1_56.out.cell 2 rfl
    have gB1_3:=HB1_56.out.cell 3 rfl
    rw [HEP.out]
    refine bodyPost_ret (v:=.agg #[.int .i64 p.w,.int .i64 p.x,.int .i64 p.y,.int .i64 p.z]) (by simp [results,Tryz.results19,go_sem,gB1_0,gB1_1,gB1_2,gB1_3]) rfl ⟨rfl,HX56.out⟩
  · have hsg:sg4 t = -1:=(sg4_k2 h0 h1 (by omega)).trans (Int.sign_eq_neg_one_of_neg h2)
    have hp:=prim4_at HEP.out hsg (congrArg (fun n:Nat => (n:Int)) HG4.out)
    have qw:(-t.w).tdiv (gc4:Int) = p.w:=by have:=hp.1;rw [Int.neg_tdiv,← Int.tdiv_neg];simpa using this
    have qx:(-t.x).tdiv (gc4:Int) = p.x:=by have:=hp.2.1;rw [Int.neg_tdiv,← Int.tdiv_neg];simpa using this
    have qy:(-t.y).tdiv (gc4:Int) = p.y:=by have:=hp.2.2.1;rw [Int.neg_tdiv,← Int.tdiv_neg];simpa using this
    have qz:(-t.z).tdiv (gc4:Int) = p.z:=by have:=hp.2.2.2;rw [Int.neg_tdiv,← Int.tdiv_neg];simpa using this
    have sgt0:decide (0 < t.w) = false:=decide_eq_false (by omega)
    have slt0:decide (t.w < 0) = false:=decide_eq_false (by omega)
    have sgt1:decide (0 < t.x) = false:=decide_eq_false (by omega)
    have slt1:decide (t.x < 0) = false:=decide_eq_false (by omega)
    have sgt2:decide (0 < t.y) = false:=decide_eq_false (by omega)
    have slt2:decide (t.y < 0) = true:=decide_eq_true (by omega)
    have g4p:decide ((0:Int) < (gc4:Int)) = true:=decide_eq_true (by omega)
    have HZ0:=Lib.hid h0;have HZ1:=Lib.hid h1
    have HK:=Lib.hid (show t.y ≠ 0 by omega)
    clear hsg hp h0 h1
    go_wp2_with fail
    refine wp_loop_rounds 5 ?_
    rw [rounds_succ]
    have c0_0:=HB0_51.out.cell 0 rfl
    go_wp2_with fail
    rw [rounds_succ]
    clear c0_0
    have c0_1:=HB0_51.out.cell 1 rfl
    go_wp2_with fail
    rw [rounds_succ]
    clear c0_1
    have c0_2:=HB0_51.out.cell 2 rfl
    go_wp2_with fail
    rw [rounds_succ]
    clear c0_2
    go_wp2_with fail
    rw [rounds_succ]
    go_wp2_with fail
    refine wp_loop_rounds 5 ?_
    rw [rounds_succ]
    have c0_0:=HB0_51.out.cell 0 rfl
    have f0_0:=HB0_51.out.free 0
    go_wp2_with fail
    rw [rounds_succ]
    clear c0_0 f0_0
    go_upto_region 19 with fail
    refine wp_name (fun W => Ext w W∧Blk W (w.heap.size) #[.int .i64 p.w,.int .i64 t.x,.int .i64 t.y,.int .i64 t.z] 22∧Blk W (w.heap.size + 1) #[.int .i64 0,.int .i64 0,.int .i64 0,.int .i64 0] 22) ⟨(HX51.out.setCell (by have:=HGEB0.out;first | omega | (simp only [];omega) | (simp;omega)) _),(HB0_51.out.set 0 (.int .i64 p.w)),(HB1_51.out.other (a:=⟨w.heap.size,0,none⟩) _ (by first | omega | (simp only [];omega) | (simp;omega)))⟩ ?_
    rintro w52 ⟨e52,bB0_52,bB1_52⟩
    have HX52:=Lib.hid e52;have HB0_52:=Lib.hid bB0_52;have HB1_52:=Lib.hid bB1_52
    clear e52 bB0_52 bB1_52
    have c0_1:=HB0_52.out.cell 1 rfl
    have f0_1:=HB0_52.out.free 1
    go_wp2_with fail
    rw [rounds_succ]
    clear c0_1 f0_1
    go_upto_region 19 with fail
    refine wp_name (fun W => Ext w W∧Blk W (w.heap.size) #[.int .i64 p.w,.int .i64 p.x,.int .i64 t.y,.int .i64 t.z] 22∧Blk W (w.heap.size + 1) #[.int .i64 0,.int .i64 0,.int .i64 0,.int .i64 0] 22) ⟨(HX52.out.setCell (by have:=HGEB0.out;first | omega | (simp only [];omega) | (simp;omega)) _),(HB0_52.out.set 1 (.int .i64 p.x)),(HB1_52.out.other (a:=⟨w.heap.size,1,none⟩) _ (by first | omega | (simp only [];omega) | (simp;omega)))⟩ ?_
    rintro w53 ⟨e53,bB0_53,bB1_53⟩
    have HX53:=Lib.hid e53;have HB0_53:=Lib.hid bB0_53;have HB1_53:=Lib.hid bB1_53
    clear e53 bB0_53 bB1_53
    have c0_2:=HB0_53.out.cell 2 rfl
    have f0_2:=HB0_53.out.free 2
    go_wp2_with fail
    rw [rounds_succ]
    clear c0_2 f0_2
    go_upto_region 19 with fail
    refine wp_name (fun W => Ext w W∧Blk W (w.heap.size) #[.int .i64 p.w,.int .i64 p.x,.int .i64 p.y,.int .i64 t.z] 22∧Blk W (w.heap.size + 1) #[.int .i64 0,.int .i64 0,.int .i64 0,.int .i64 0] 22) ⟨(HX53.out.setCell (by have:=HGEB0.out;first | omega | (simp only [];omega) | (simp;omega)) _),(HB0_53.out.set 2 (.int .i64 p.y)),(HB1_53.out.other (a:=⟨w.heap.size,2,none⟩) _ (by first | omega | (simp only [];omega) | (simp;omega)))⟩ ?_
    rintro w54 ⟨e54,bB0_54,bB1_54⟩
    have HX54:=Lib.hid e54;have HB0_54:=Lib.hid bB0_54;have HB1_54:=Lib.hid bB1_54
    clear e54 bB0_54 bB1_54
    have c0_3:=HB0_54.out.cell 3 rfl
    have f0_3:=HB0_54.out.free 3
    go_wp2_with fail
    rw [rounds_succ]
    clear c0_3 f0_3
    go_upto_region 20 with fail
    refine wp_name (fun W => Ext w W∧Blk W (w.heap.size) #[.int .i64 p.w,.int .i64 p.x,.int .i64 p.y,.int .i64 p.z] 22∧Blk W (w.heap.size + 1) #[.int .i64 0,.int .i64 0,.int .i64 0,.int .i64 0] 22) ⟨(HX54.out.setCell (by have:=HGEB0.out;first | omega | (simp only [];omega) | (simp;omega)) _),(HB0_54.out.set 3 (.int .i64 p.z)),(HB1_54.out.other (a:=⟨w.heap.size,3,none⟩) _ (by first | omega | (simp only [];omega) | (simp;omega)))⟩ ?_
    rintro w55 ⟨e55,bB0_55,bB1_55⟩
    have HX55:=Lib.hid e55;have HB0_55:=Lib.hid bB0_55;have HB1_55:=Lib.hid bB1_55
    clear e55 bB0_55 bB1_55
    have c0_0:=HB0_55.out.cell 0 rfl
    have c0_1:=HB0_55.out.cell 1 rfl
    have c0_2:=HB0_55.out.cell 2 rfl
    have c0_3:=HB0_55.out.cell 3 rfl
    have c1_0:=HB1_55.out.cell 0 rfl
    have f1_0:=HB1_55.out.free 0
    have c1_1:=HB1_55.out.cell 1 rfl
    have f1_1:=HB1_55.out.free 1
    have c1_2:=HB1_55.out.cell 2 rfl
    have f1_2:=HB1_55.out.free 2
    have c1_3:=HB1_55.out.cell 3 rfl
    have f1_3:=HB1_55.out.free 3
    go_wp2_with fail
    refine wp_name (fun W => Ext w W∧Blk W (w.heap.size) #[.int .i64 p.w,.int .i64 p.x,.int .i64 p.y,.int .i64 p.z] 22∧Blk W (w.heap.size + 1) #[.int .i64 p.w,.int .i64 p.x,.int .i64 p.y,.int .i64 p.z] 22) ⟨((((HX55.out.setCell (by have:=HGEB1.out;first | omega | (simp only [];omega) | (simp;omega)) _).setCell (by have:=HGEB1.out;first | omega | (simp only [];omega) | (simp;omega)) _).setCell (by have:=HGEB1.out;first | omega | (simp only [];omega) | (simp;omega)) _).setCell (by have:=HGEB1.out;first | omega | (simp only [];omega) | (simp;omega)) _),((((HB0_55.out.other (a:=⟨w.heap.size + 1,0,none⟩) _ (by first | omega | (simp only [];omega) | (simp;omega))).other (a:=⟨w.heap.size + 1,1,none⟩) _ (by first | omega | (simp only [];omega) | (simp;omega))).other (a:=⟨w.heap.size + 1,2,none⟩) _ (by first | omega | (simp only [];omega) | (simp;omega))).other (a:=⟨w.heap.size + 1,3,none⟩) _ (by first | omega | (simp only [];omega) | (simp;omega))),((((HB1_55.out.set 0 (.int .i64 p.w)).set 1 (.int .i64 p.x)).set 2 (.int .i64 p.y)).set 3 (.int .i64 p.z))⟩ ?_
    rintro w56 ⟨e56,bB0_56,bB1_56⟩
    have HX56:=Lib.hid e56;have HB0_56:=Lib.hid bB0_56;have HB1_56:=Lib.hid bB1_56
    clear e56 bB0_56 bB1_56 c0_0 c0_1 c0_2 c0_3 c1_0 f1_0 c1_1 f1_1 c1_2 f1_2 c1_3 f1_3
    have gB1_0:=HB1_56.out.cell 0 rfl
    have gB1_1:=HB1_56.out.cell 1 rfl
    have gB1_2:=HB1_56.out.cell 2 rfl
    have gB1_3:=HB1_56.out.cell 3 rfl
    rw [HEP.out]
    refine bodyPost_ret (v:=.agg #[.int .i64 p.w,.int .i64 p.x,.int .i64 p.y,.int .i64 p.z]) (by simp [results,Tryz.results19,go_sem,gB1_0,gB1_1,gB1_2,gB1_3]) rfl ⟨rfl,HX56.out⟩
  · have hsg:sg4 t = 1:=(sg4_k3 h0 h1 h2).trans (Int.sign_eq_one_of_pos h3)
    have hp:=prim4_at HEP.out hsg (congrArg (fun n:Nat => (n:Int)) HG4.out)
    have qw:t.w.tdiv (gc4:Int) = p.w:=by have:=hp.1;simpa using this
    have qx:t.x.tdiv (gc4:Int) = p.x:=by have:=hp.2.1;simpa using this
    have qy:t.y.tdiv (gc4:Int) = p.y:=by have:=hp.2.2.1;simpa using this
    have qz:t.z.tdiv (gc4:Int) = p.z:=by have:=hp.2.2.2;simpa using this
    have sgt0:decide (0 < t.w) = false:=decide_eq_false (by omega)
    have slt0:decide (t.w < 0) = false:=decide_eq_false (by omega)
    have sgt1:decide (0 < t.x) = false:=decide_eq_false (by omega)
    have slt1:decide (t.x < 0) = false:=decide_eq_false (by omega)
    have sgt2:decide (0 < t.y) = false:=decide_eq_false (by omega)
    have slt2:decide (t.y < 0) = false:=decide_eq_false (by omega)
    have sgt3:decide (0 < t.z) = true:=decide_eq_true (by omega)
    have slt3:decide (t.z < 0) = false:=decide_eq_false (by omega)
    have g4p:decide ((0:Int) < (gc4:Int)) = true:=decide_eq_true (by omega)
    have HZ0:=Lib.hid h0;have HZ1:=Lib.hid h1;have HZ2:=Lib.hid h2
    have HK:=Lib.hid (show t.z ≠ 0 by omega)
    clear hsg hp h0 h1 h2
    go_wp2_with fail
    refine wp_loop_rounds 5 ?_
    rw [rounds_succ]
    have c0_0:=HB0_51.out.cell 0 rfl
    go_wp2_with fail
    rw [rounds_succ]
    clear c0_0
    have c0_1:=HB0_51.out.cell 1 rfl
    go_wp2_with fail
    rw [rounds_succ]
    clear c0_1
    have c0_2:=HB0_51.out.cell 2 rfl
    go_wp2_with fail
    rw [rounds_succ]
    clear c0_2
    have c0_3:=HB0_51.out.cell 3 rfl
    go_wp2_with fail
    rw [rounds_succ]
    clear c0_3
    go_wp2_with fail
    refine wp_loop_rounds 5 ?_
    rw [rounds_succ]
    have c0_0:=HB0_51.out.cell 0 rfl
    have f0_0:=HB0_51.out.free 0
    go_wp2_with fail
    rw [rounds_succ]
    clear c0_0 f0_0
    go_upto_region 19 with fail
    refine wp_name (fun W => Ext w W∧Blk W (w.heap.size) #[.int .i64 p.w,.int .i64 t.x,.int .i64 t.y,.int .i64 t.z] 22∧Blk W (w.heap.size + 1) #[.int .i64 0,.int .i64 0,.int .i64 0,.int .i64 0] 22) ⟨(HX51.out.setCell (by have:=HGEB0.out;first | omega | (simp only [];omega) | (simp;omega)) _),(HB0_51.out.set 0 (.int .i64 p.w)),(HB1_51.out.other (a:=⟨w.heap.size,0,none⟩) _ (by first | omega | (simp only [];omega) | (simp;omega)))⟩ ?_
    rintro w52 ⟨e52,bB0_52,bB1_52⟩
    have HX52:=Lib.hid e52;have HB0_52:=Lib.hid bB0_52;have HB1_52:=Lib.hid bB1_52
    clear e52 bB0_52 bB1_52
    have c0_1:=HB0_52.out.cell 1 rfl
    have f0_1:=HB0_52.out.free 1
    go_wp2_with fail
    rw [rounds_succ]
    clear c0_1 f0_1
    go_upto_region 19 with fail
    refine wp_name (fun W => Ext w W∧Blk W (w.heap.size) #[.int .i64 p.w,.int .i64 p.x,.int .i64 t.y,.int .i64 t.z] 22∧Blk W (w.heap.size + 1) #[.int .i64 0,.int .i64 0,.int .i64 0,.int .i64 0] 22) ⟨(HX52.out.setCell (by have:=HGEB0.out;first | omega | (simp only [];omega) | (simp;omega)) _),(HB0_52.out.set 1 (.int .i64 p.x)),(HB1_52.out.other (a:=⟨w.heap.size,1,none⟩) _ (by first | omega | (simp only [];omega) | (simp;omega)))⟩ ?_
    rintro w53 ⟨e53,bB0_53,bB1_53⟩
    have HX53:=Lib.hid e53;have HB0_53:=Lib.hid bB0_53;have HB1_53:=Lib.hid bB1_53
    clear e53 bB0_53 bB1_53
    have c0_2:=HB0_53.out.cell 2 rfl
    have f0_2:=HB0_53.out.free 2
    go_wp2_with fail
    rw [rounds_succ]
    clear c0_2 f0_2
    go_upto_region 19 with fail
    refine wp_name (fun W => Ext w W∧Blk W (w.heap.size) #[.int .i64 p.w,.int .i64 p.x,.int .i64 p.y,.int .i64 t.z] 22∧Blk W (w.heap.size + 1) #[.int .i64 0,.int .i64 0,.int .i64 0,.int .i64 0] 22) ⟨(HX53.out.setCell (by have:=HGEB0.out;first | omega | (simp only [];omega) | (simp;omega)) _),(HB0_53.out.set 2 (.int .i64 p.y)),(HB1_53.out.other (a:=⟨w.heap.size,2,none⟩) _ (by first | omega | (simp only [];omega) | (simp;omega)))⟩ ?_
    rintro w54 ⟨e54,bB0_54,bB1_54⟩
    have HX54:=Lib.hid e54;have HB0_54:=Lib.hid bB0_54;have HB1_54:=Lib.hid bB1_54
    clear e54 bB0_54 bB1_54
    have c0_3:=HB0_54.out.cell 3 rfl
    have f0_3:=HB0_54.out.free 3
    go_wp2_with fail
    rw [rounds_succ]
    clear c0_3 f0_3
    go_upto_region 20 with fail
    refine wp_name (fun W => Ext w W∧Blk W (w.heap.size) #[.int .i64 p.w,.int .i64 p.x,.int .i64 p.y,.int .i64 p.z] 22∧Blk W (w.heap.size + 1) #[.int .i64 0,.int .i64 0,.int .i64 0,.int .i64 0] 22) ⟨(HX54.out.setCell (by have:=HGEB0.out;first | omega | (simp only [];omega) | (simp;omega)) _),(HB0_54.out.set 3 (.int .i64 p.z)),(HB1_54.out.other (a:=⟨w.heap.size,3,none⟩) _ (by first | omega | (simp only [];omega) | (simp;omega)))⟩ ?_
    rintro w55 ⟨e55,bB0_55,bB1_55⟩
    have HX55:=Lib.hid e55;have HB0_55:=Lib.hid bB0_55;have HB1_55:=Lib.hid bB1_55
    clear e55 bB0_55 bB1_55
    have c0_0:=HB0_55.out.cell 0 rfl
    have c0_1:=HB0_55.out.cell 1 rfl
    have c0_2:=HB0_55.out.cell 2 rfl
    have c0_3:=HB0_55.out.cell 3 rfl
    have c1_0:=HB1_55.out.cell 0 rfl
    have f1_0:=HB1_55.out.free 0
    have c1_1:=HB1_55.out.cell 1 rfl
    have f1_1:=HB1_55.out.free 1
    have c1_2:=HB1_55.out.cell 2 rfl
    have f1_2:=HB1_55.out.free 2
    have c1_3:=HB1_55.out.cell 3 rfl
    have f1_3:=HB1_55.out.free 3
    go_wp2_with fail
    refine wp_name (fun W => Ext w W∧Blk W (w.heap.size) #[.int .i64 p.w,.int .i64 p.x,.int .i64 p.y,.int .i64 p.z] 22∧Blk W (w.heap.size + 1) #[.int .i64 p.w,.int .i64 p.x,.int .i64 p.y,.int .i64 p.z] 22) ⟨((((HX55.out.setCell (by have:=HGEB1.out;first | omega | (simp only [];omega) | (simp;omega)) _).setCell (by have:=HGEB1.out;first | omega | (simp only [];omega) | (simp;omega)) _).setCell (by have:=HGEB1.out;first | omega | (simp only [];omega) | (simp;omega)) _).setCell (by have:=HGEB1.out;first | omega | (simp only [];omega) | (simp;omega)) _),((((HB0_55.out.other (a:=⟨w.heap.size + 1,0,none⟩) _ (by first | omega | (simp only [];omega) | (simp;omega))).other (a:=⟨w.heap.size + 1,1,none⟩) _ (by first | omega | (simp only [];omega) | (simp;omega))).other (a:=⟨w.heap.size + 1,2,none⟩) _ (by first | omega | (simp only [];omega) | (simp;omega))).other (a:=⟨w.heap.size + 1,3,none⟩) _ (by first | omega | (simp only [];omega) | (simp;omega))),((((HB1_55.out.set 0 (.int .i64 p.w)).set 1 (.int .i64 p.x)).set 2 (.int .i64 p.y)).set 3 (.int .i64 p.z))⟩ ?_
    rintro w56 ⟨e56,bB0_56,bB1_56⟩
    have HX56:=Lib.hid e56;have HB0_56:=Lib.hid bB0_56;have HB1_56:=Lib.hid bB1_56
    clear e56 bB0_56 bB1_56 c0_0 c0_1 c0_2 c0_3 c1_0 f1_0 c1_1 f1_1 c1_2 f1_2 c1_3 f1_3
    have gB1_0:=HB1_56.out.cell 0 rfl
    have gB1_1:=HB1_56.out.cell 1 rfl
    have gB1_2:=HB1_56.out.cell 2 rfl
    have gB1_3:=HB1_56.out.cell 3 rfl
    rw [HEP.out]
    refine bodyPost_ret (v:=.agg #[.int .i64 p.w,.int .i64 p.x,.int .i64 p.y,.int .i64 p.z]) (by simp [results,Tryz.results19,go_sem,gB1_0,gB1_1,gB1_2,gB1_3]) rfl ⟨rfl,HX56.out⟩
  · have hsg:sg4 t = -1:=(sg4_k3 h0 h1 h2).trans (Int.sign_eq_neg_one_of_neg h3)
    have hp:=prim4_at HEP.out hsg (congrArg (fun n:Nat => (n:Int)) HG4.out)
    have qw:(-t.w).tdiv (gc4:Int) = p.w:=by have:=hp.1;rw [Int.neg_tdiv,← Int.tdiv_neg];simpa using this
    have qx:(-t.x).tdiv (gc4:Int) = p.x:=by have:=hp.2.1;rw [Int.neg_tdiv,← Int.tdiv_neg];simpa using this
    have qy:(-t.y).tdiv (gc4:Int) = p.y:=by have:=hp.2.2.1;rw [Int.neg_tdiv,← Int.tdiv_neg];simpa using this
    have qz:(-t.z).tdiv (gc4:Int) = p.z:=by have:=hp.2.2.2;rw [Int.neg_tdiv,← Int.tdiv_neg];simpa using this
    have sgt0:decide (0 < t.w) = false:=decide_eq_false (by omega)
    have slt0:decide (t.w < 0) = false:=decide_eq_false (by omega)
    have sgt1:decide (0 < t.x) = false:=decide_eq_false (by omega)
    have slt1:decide (t.x < 0) = false:=decide_eq_false (by omega)
    have sgt2:decide (0 < t.y) = false:=decide_eq_false (by omega)
    have slt2:decide (t.y < 0) = false:=decide_eq_false (by omega)
    have sgt3:decide (0 < t.z) = false:=decide_eq_false (by omega)
    have slt3:decide (t.z < 0) = true:=decide_eq_true (by omega)
    have g4p:decide ((0:Int) < (gc4:Int)) = true:=decide_eq_true (by omega)
    have HZ0:=Lib.hid h0;have HZ1:=Lib.hid h1;have HZ2:=Lib.hid h2
    have HK:=Lib.hid (show t.z ≠ 0 by omega)
    clear hsg hp h0 h1 h2
    go_wp2_with fail
    refine wp_loop_rounds 5 ?_
    rw [rounds_succ]
    have c0_0:=HB0_51.out.cell 0 rfl
    go_wp2_with fail
    rw [rounds_succ]
    clear c0_0
    have c0_1:=HB0_51.out.cell 1 rfl
    go_wp2_with fail
    rw [rounds_succ]
    clear c0_1
    have c0_2:=HB0_51.out.cell 2 rfl
    go_wp2_with fail
    rw [rounds_succ]
    clear c0_2
    have c0_3:=HB0_51.out.cell 3 rfl
    go_wp2_with fail
    rw [rounds_succ]
    clear c0_3
    go_wp2_with fail
    refine wp_loop_rounds 5 ?_
    rw [rounds_succ]
    have c0_0:=HB0_51.out.cell 0 rfl
    have f0_0:=HB0_51.out.free 0
    go_wp2_with fail
    rw [rounds_succ]
    clear c0_0 f0_0
    go_upto_region 19 with fail
    refine wp_name (fun W => Ext w W∧Blk W (w.heap.size) #[.int .i64 p.w,.int .i64 t.x,.int .i64 t.y,.int .i64 t.z] 22∧Blk W (w.heap.size + 1) #[.int .i64 0,.int .i64 0,.int .i64 0,.int .i64 0] 22) ⟨(HX51.out.setCell (by have:=HGEB0.out;first | omega | (simp only [];omega) | (simp;omega)) _),(HB0_51.out.set 0 (.int .i64 p.w)),(HB1_51.out.other (a:=⟨w.heap.size,0,none⟩) _ (by first | omega | (simp only [];omega) | (simp;omega)))⟩ ?_
    rintro w52 ⟨e52,bB0_52,bB1_52⟩
    have HX52:=Lib.hid e52;have HB0_52:=Lib.hid bB0_52;have HB1_52:=Lib.hid bB1_52
    clear e52 bB0_52 bB1_52
    have c0_1:=HB0_52.out.cell 1 rfl
    have f0_1:=HB0_52.out.free 1
    go_wp2_with fail
    rw [rounds_succ]
    clear c0_1 f0_1
    go_upto_region 19 with fail
    refine wp_name (fun W => Ext w W∧Blk W (w.heap.size) #[.int .i64 p.w,.int .i64 p.x,.int .i64 t.y,.int .i64 t.z] 22∧Blk W (w.heap.size + 1) #[.int .i64 0,.int .i64 0,.int .i64 0,.int .i64 0] 22) ⟨(HX52.out.setCell (by have:=HGEB0.out;first | omega | (simp only [];omega) | (simp;omega)) _),(HB0_52.out.set 1 (.int .i64 p.x)),(HB1_52.out.other (a:=⟨w.heap.size,1,none⟩) _ (by first | omega | (simp only [];omega) | (simp;omega)))⟩ ?_
    rintro w53 ⟨e53,bB0_53,bB1_53⟩
    have HX53:=Lib.hid e53;have HB0_53:=Lib.hid bB0_53;have HB1_53:=Lib.hid bB1_53
    clear e53 bB0_53 bB1_53
    have c0_2:=HB0_53.out.cell 2 rfl
    have f0_2:=HB0_53.out.free 2
    go_wp2_with fail
    rw [rounds_succ]
    clear c0_2 f0_2
    go_upto_region 19 with fail
    refine wp_name (fun W => Ext w W∧Blk W (w.heap.size) #[.int .i64 p.w,.int .i64 p.x,.int .i64 p.y,.int .i64 t.z] 22∧Blk W (w.heap.size + 1) #[.int .i64 0,.int .i64 0,.int .i64 0,.int .i64 0] 22) ⟨(HX53.out.setCell (by have:=HGEB0.out;first | omega | (simp only [];omega) | (simp;omega)) _),(HB0_53.out.set 2 (.int .i64 p.y)),(HB1_53.out.other (a:=⟨w.heap.size,2,none⟩) _ (by first | omega | (simp only [];omega) | (simp;omega)))⟩ ?_
    rintro w54 ⟨e54,bB0_54,bB1_54⟩
    have HX54:=Lib.hid e54;have HB0_54:=Lib.hid bB0_54;have HB1_54:=Lib.hid bB1_54
    clear e54 bB0_54 bB1_54
    have c0_3:=HB0_54.out.cell 3 rfl
    have f0_3:=HB0_54.out.free 3
    go_wp2_with fail
    rw [rounds_succ]
    clear c0_3 f0_3
    go_upto_region 20 with fail
    refine wp_name (fun W => Ext w W∧Blk W (w.heap.size) #[.int .i64 p.w,.int .i64 p.x,.int .i64 p.y,.int .i64 p.z] 22∧Blk W (w.heap.size + 1) #[.int .i64 0,.int .i64 0,.int .i64 0,.int .i64 0] 22) ⟨(HX54.out.setCell (by have:=HGEB0.out;first | omega | (simp only [];omega) | (simp;omega)) _),(HB0_54.out.set 3 (.int .i64 p.z)),(HB1_54.out.other (a:=⟨w.heap.size,3,none⟩) _ (by first | omega | (simp only [];omega) | (simp;omega)))⟩ ?_
    rintro w55 ⟨e55,bB0_55,bB1_55⟩
    have HX55:=Lib.hid e55;have HB0_55:=Lib.hid bB0_55;have HB1_55:=Lib.hid bB1_55
    clear e55 bB0_55 bB1_55
    have c0_0:=HB0_55.out.cell 0 rfl
    have c0_1:=HB0_55.out.cell 1 rfl
    have c0_2:=HB0_55.out.cell 2 rfl
    have c0_3:=HB0_55.out.cell 3 rfl
    have c1_0:=HB1_55.out.cell 0 rfl
    have f1_0:=HB1_55.out.free 0
    have c1_1:=HB1_55.out.cell 1 rfl
    have f1_1:=HB1_55.out.free 1
    have c1_2:=HB1_55.out.cell 2 rfl
    have f1_2:=HB1_55.out.free 2
    have c1_3:=HB1_55.out.cell 3 rfl
    have f1_3:=HB1_55.out.free 3
    go_wp2_with fail
    refine wp_name (fun W => Ext w W∧Blk W (w.heap.size) #[.int .i64 p.w,.int .i64 p.x,.int .i64 p.y,.int .i64 p.z] 22∧Blk W (w.heap.size + 1) #[.int .i64 p.w,.int .i64 p.x,.int .i64 p.y,.int .i64 p.z] 22) ⟨((((HX55.out.setCell (by have:=HGEB1.out;first | omega | (simp only [];omega) | (simp;omega)) _).setCell (by have:=HGEB1.out;first | omega | (simp only [];omega) | (simp;omega)) _).setCell (by have:=HGEB1.out;first | omega | (simp only [];omega) | (simp;omega)) _).setCell (by have:=HGEB1.out;first | omega | (simp only [];omega) | (simp;omega)) _),((((HB0_55.out.other (a:=⟨w.heap.size + 1,0,none⟩) _ (by first | omega | (simp only [];omega) | (simp;omega))).other (a:=⟨w.heap.size + 1,1,none⟩) _ (by first | omega | (simp only [];omega) | (simp;omega))).other (a:=⟨w.heap.size + 1,2,none⟩) _ (by first | omega | (simp only [];omega) | (simp;omega))).other (a:=⟨w.heap.size + 1,3,none⟩) _ (by first | omega | (simp only [];omega) | (simp;omega))),((((HB1_55.out.set 0 (.int .i64 p.w)).set 1 (.int .i64 p.x)).set 2 (.int .i64 p.y)).set 3 (.int .i64 p.z))⟩ ?_
    rintro w56 ⟨e56,bB0_56,bB1_56⟩
    have HX56:=Lib.hid e56;have HB0_56:=Lib.hid bB0_56;have HB1_56:=Lib.hid bB1_56
    clear e56 bB0_56 bB1_56 c0_0 c0_1 c0_2 c0_3 c1_0 f1_0 c1_1 f1_1 c1_2 f1_2 c1_3 f1_3
    have gB1_0:=HB1_56.out.cell 0 rfl
    have gB1_1:=HB1_56.out.cell 1 rfl
    have gB1_2:=HB1_56.out.cell 2 rfl
    have gB1_3:=HB1_56.out.cell 3 rfl
    rw [HEP.out]
    refine bodyPost_ret (v:=.agg #[.int .i64 p.w,.int .i64 p.x,.int .i64 p.y,.int .i64 p.z]) (by simp [results,Tryz.results19,go_sem,gB1_0,gB1_1,gB1_2,gB1_3]) rfl ⟨rfl,HX56.out⟩
end Go.Proofs.YtjeimihnoiephaaGreatDoor

namespace Go.Proofs.YtjeimihnoiephaaGreatDoor
open Go Go.RowKit
set_option linter.unusedVariables false
theorem lprim_as (a p:Q4) (e:prim4 a = p) (w:World) (g:Gd w) (hb:Q4Bd a) (hz:¬ a.zero):Calls Tryz.prog 19 #[.agg #[.int .i64 a.w,.int .i64 a.x,.int .i64 a.y,.int .i64 a.z]] w (Ret w (.agg #[.int .i64 p.w,.int .i64 p.x,.int .i64 p.y,.int .i64 p.z])):=by subst e;exact lprim_c a w g hb hz
end Go.Proofs.YtjeimihnoiephaaGreatDoor
