/- Part 33 of the proof: S30, S31, S32, S33. -/
import Derived.Test.YtcenemaadnlknaaGreatDoorQPC32
set_option maxRecDepth 100000
set_option maxHeartbeats 2000000
set_option linter.unusedSimpArgs false
set_option linter.unusedVariables false
theorem Go.Proofs.YtcenemaadnlknaaGreatDoor.Hi33 {p:Prop} (h:p):Go.RowKit.Hid p:=h
namespace Go.Proofs.YtcenemaadnlknaaGreatDoor
open Go Go.RowKit
theorem num7_c (a:Int) (d:Nat) (w:World) (g:Gd w) (ha:-1000<a) (ha2:a<1000) (hd:d≠0) (hd2:d<1000):Calls Tryz.prog 35 #[.int .i64 a,.int .i64 (d:Int)] w (Ret w (.string (qs (mkRat a d)))):=by
 have HG:=Hi33 g
 clear g
 have HIA:Hid (IB 3 a):=Hi33 ⟨by rw [show (10:Nat) ^ 3=1000 by rfl];omega⟩
 have HID:Hid (IB 3 (d:Int)):=Hi33 ⟨by rw [show (10:Nat) ^ 3=1000 by rfl];omega⟩
 go_enter Tryz.func35,Tryz.ntmps35
 go_wp2_with fail
 refine (fof_c a (by omega) (by omega) _ (HG.out.ext ((Ext.refl w)))).mono ?_;rintro e w1 ⟨rfl,e1⟩
 have HX1:Hid (Ext w w1):=Hi33 ((Ext.refl w).trans e1)
 clear e1
 go_wp2_with fail
 refine (fof_c _ (by omega) (by omega) _ (HG.out.ext (HX1.out))).mono ?_;rintro e w2 ⟨rfl,e2⟩
 have HX2:=Hi33 (HX1.out.trans e2)
 clear e2
 go_wp2_with fail
 refine (p3_make a d _ (HG.out.ext (HX2.out)) hd HIA.out HID.out (by decide) (by decide)).mono ?_;rintro e w3 ⟨rfl,e3⟩
 have HX3:=Hi33 (HX2.out.trans e3)
 clear e3
 go_wp2
 go_ret
 exact ⟨rfl,HX3.out⟩
def l3 (a b c:Int) (j:Nat):Rat:=if j=0 then mkRat a 1 else if j=1 then mkRat b 1 else mkRat c 1
def l3G (a b c:Int) (j:Nat):Value:=.string (qs (l3 a b c j))
theorem tmod10 (i:Int):-9<=i.tmod 10/\i.tmod 10<=9:=by
 have h:=Int.natAbs_tmod i 10
 have:=Nat.mod_lt i.natAbs (y:=10) (by decide)
 simp only [show (10:Int).natAbs=10 from rfl] at h
 omega
theorem ol_next {X w w':World} {e:TypeId} {n:Nat} {v v':Value} {G:Nat->Value} {u:Value} (h:App X w e 1 v n 1 G (fun _=>u) v' w') (hu:u=G n):Osl X w' e 1 v' (n+1) G :=
 h.own.congr fun i hi=>by
  by_cases h1:i<n*1
  ·rw [app_lt h1]
  ·rw [app_ge h1,hu,show i=n by omega]
theorem Osl.empty {X w:World} {t:TypeId} {k:Nat} {G:Nat->Value} (hk:X.heap.size<=k) (h:Blk w k #[] t):Osl X w t 1 (.slice (some ⟨k,0,none⟩) 0 0) 0 G :=
 Or.inr ⟨k,0,#[],rfl,hk,h,Nat.le_refl _,by unfold maxLen;omega,rfl,fun i hi=>absurd hi (by omega)⟩
def LstP (w:World) (d0 d1 d2:Int) (n:Nat) (e:Ending) (w':World):Prop:=∃ v,e = .returned v/\Ext w w'/\Osl w w' 34 1 v n (l3G d0 d1 d2)
theorem list7_n0 (a0 a1 a2 d0 d1 d2:Int) (w:World) (g:Gd w) (h0:-128<=a0/\a0<=127) (e0:a0.tmod 10=d0) (h1:-128<=a1/\a1<=127) (e1:a1.tmod 10=d1) (h2:-128<=a2/\a2<=127) (e2:a2.tmod 10=d2):Calls Tryz.prog 34 #[.agg #[.int .i8 a0,.int .i8 a1,.int .i8 a2],.int .i64 0] w (LstP w d0 d1 d2 0):=by
 have HG:=Hi33 g
 clear g
 have w0_:IntKind.i64.wrap a0=a0:=IntWalk.i64_in a0 (by omega)
 have k0_:=tmod10 a0;rw [e0] at k0_
 have w1_:IntKind.i64.wrap a1=a1:=IntWalk.i64_in a1 (by omega)
 have k1_:=tmod10 a1;rw [e1] at k1_
 have w2_:IntKind.i64.wrap a2=a2:=IntWalk.i64_in a2 (by omega)
 have k2_:=tmod10 a2;rw [e2] at k2_
 go_enter Tryz.func34,Tryz.ntmps34
 go_wp2_with fail
 refine wp_name (fun W=>Ext w W/\Blk W (w.heap.size+1) (#[]) 34) ⟨(((Ext.refl w).alloc _).alloc _),(Blk.nw (#[]) 34)⟩ ?_
 rintro w1 ⟨e1,bB1_1⟩
 have HX1:=Hi33 e1;have HB1_1:=Hi33 bB1_1
 have HGEB1:Hid (w.heap.size<=w.heap.size+1):=Hi33 (by omega)
 clear e1 bB1_1
 have HOL_1:Hid (Osl w w1 34 1 (.slice (some ⟨w.heap.size+1,0,none⟩) 0 0) 0 (l3G d0 d1 d2)):=Hi33 (Osl.empty HGEB1.out HB1_1.out)
 go_wp2_with fail
 refine wp_loop_rounds 1 ?_
 rw [rounds_succ]
 go_wp2
 go_ret
 exact ⟨_,rfl,HX1.out,HOL_1.out⟩
theorem list7_n1 (a0 a1 a2 d0 d1 d2:Int) (w:World) (g:Gd w) (h0:-128<=a0/\a0<=127) (e0:a0.tmod 10=d0) (h1:-128<=a1/\a1<=127) (e1:a1.tmod 10=d1) (h2:-128<=a2/\a2<=127) (e2:a2.tmod 10=d2):Calls Tryz.prog 34 #[.agg #[.int .i8 a0,.int .i8 a1,.int .i8 a2],.int .i64 1] w (LstP w d0 d1 d2 1):=by
 have HG:=Hi33 g
 clear g
 have w0_:IntKind.i64.wrap a0=a0:=IntWalk.i64_in a0 (by omega)
 have k0_:=tmod10 a0;rw [e0] at k0_
 have w1_:IntKind.i64.wrap a1=a1:=IntWalk.i64_in a1 (by omega)
 have k1_:=tmod10 a1;rw [e1] at k1_
 have w2_:IntKind.i64.wrap a2=a2:=IntWalk.i64_in a2 (by omega)
 have k2_:=tmod10 a2;rw [e2] at k2_
 go_enter Tryz.func34,Tryz.ntmps34
 go_wp2_with fail
 refine wp_name (fun W=>Ext w W/\Blk W (w.heap.size) (#[.int .i8 a0,.int .i8 a1,.int .i8 a2]) 24/\Blk W (w.heap.size+1) (#[]) 34) ⟨(((Ext.refl w).alloc _).alloc _),((Blk.nw (#[.int .i8 a0,.int .i8 a1,.int .i8 a2]) 24).alloc _),(Blk.nw (#[]) 34)⟩ ?_
 rintro w1 ⟨e1,bB0_1,bB1_1⟩
 have HX1:=Hi33 e1;have HB0_1:=Hi33 bB0_1;have HB1_1:=Hi33 bB1_1
 have HGEB0:Hid (w.heap.size<=w.heap.size):=Hi33 (Nat.le_refl _)
 have HGEB1:Hid (w.heap.size<=w.heap.size+1):=Hi33 (by omega)
 clear e1 bB0_1 bB1_1
 have HOL_1:Hid (Osl w w1 34 1 (.slice (some ⟨w.heap.size+1,0,none⟩) 0 0) 0 (l3G d0 d1 d2)):=Hi33 (Osl.empty HGEB1.out HB1_1.out)
 go_wp2_with fail
 refine wp_loop_rounds 2 ?_
 rw [rounds_succ]
 have c0_0:=HB0_1.out.cell 0 rfl
 go_wp2_with fail
 refine (num7_c d0 1 _ (HG.out.ext (HX1.out)) (by omega) (by omega) (by decide) (by decide)).mono ?_;rintro e w2 ⟨rfl,e2⟩
 have HX2:=Hi33 (HX1.out.trans e2)
 have HOL_2:=Hi33 (HOL_1.out.ext e2)
 clear e2 c0_0
 go_wp2_with (
  at_builtin
  refine wpList_plain rfl fun K_ hK_=>op_append2 (X:=w) (H:=fun _ => .string (qs (mkRat d0 1))) (ad:=⟨w2.heap.size,0,none⟩) (m:=1) (c:=1) (v:=.slice (some ⟨w.heap.size+1,0,none⟩) 0 0) rfl rfl rfl under_s info_s rfl (HX2.out.alloc _) (HOL_2.out.alloc _) (fun _=>by decide) (fun j hj=>by obtain rfl:j=0:=(by omega);exact blk_add (Blk.nw (#[.string (qs (mkRat d0 1))]) 34) rfl) (fun _ _=>rfl) (by unfold maxLen;omega) (by omega) (fun a3_ n3_ c3_ w3 hA_=>hK_ _ _ ?_)
  have HX3:Hid (Ext w w3):=Hi33 hA_.mv.ext
  have HOL_3:Hid (Osl w w3 34 1 (.slice a3_ n3_ c3_) 1 (l3G d0 d1 d2)):=Hi33 (ol_next hA_ rfl)
  clear hA_
 )
 rw [rounds_succ]
 go_wp2
 go_ret
 exact ⟨_,rfl,HX3.out,HOL_3.out⟩
theorem list7_n2 (a0 a1 a2 d0 d1 d2:Int) (w:World) (g:Gd w) (h0:-128<=a0/\a0<=127) (e0:a0.tmod 10=d0) (h1:-128<=a1/\a1<=127) (e1:a1.tmod 10=d1) (h2:-128<=a2/\a2<=127) (e2:a2.tmod 10=d2):Calls Tryz.prog 34 #[.agg #[.int .i8 a0,.int .i8 a1,.int .i8 a2],.int .i64 2] w (LstP w d0 d1 d2 2):=by
 have HG:=Hi33 g
 clear g
 have w0_:IntKind.i64.wrap a0=a0:=IntWalk.i64_in a0 (by omega)
 have k0_:=tmod10 a0;rw [e0] at k0_
 have w1_:IntKind.i64.wrap a1=a1:=IntWalk.i64_in a1 (by omega)
 have k1_:=tmod10 a1;rw [e1] at k1_
 have w2_:IntKind.i64.wrap a2=a2:=IntWalk.i64_in a2 (by omega)
 have k2_:=tmod10 a2;rw [e2] at k2_
 go_enter Tryz.func34,Tryz.ntmps34
 go_wp2_with fail
 refine wp_name (fun W=>Ext w W/\Blk W (w.heap.size) (#[.int .i8 a0,.int .i8 a1,.int .i8 a2]) 24/\Blk W (w.heap.size+1) (#[]) 34) ⟨(((Ext.refl w).alloc _).alloc _),((Blk.nw (#[.int .i8 a0,.int .i8 a1,.int .i8 a2]) 24).alloc _),(Blk.nw (#[]) 34)⟩ ?_
 rintro w1 ⟨e1,bB0_1,bB1_1⟩
 have HX1:=Hi33 e1;have HB0_1:=Hi33 bB0_1;have HB1_1:=Hi33 bB1_1
 have HGEB0:Hid (w.heap.size<=w.heap.size):=Hi33 (Nat.le_refl _)
 have HGEB1:Hid (w.heap.size<=w.heap.size+1):=Hi33 (by omega)
 clear e1 bB0_1 bB1_1
 have HOL_1:Hid (Osl w w1 34 1 (.slice (some ⟨w.heap.size+1,0,none⟩) 0 0) 0 (l3G d0 d1 d2)):=Hi33 (Osl.empty HGEB1.out HB1_1.out)
 go_wp2_with fail
 refine wp_loop_rounds 3 ?_
 rw [rounds_succ]
 have c0_0:=HB0_1.out.cell 0 rfl
 go_wp2_with fail
 refine (num7_c d0 1 _ (HG.out.ext (HX1.out)) (by omega) (by omega) (by decide) (by decide)).mono ?_;rintro e w2 ⟨rfl,e2⟩
 have HX2:=Hi33 (HX1.out.trans e2)
 have HB0_2:=Hi33 (HB0_1.out.ext e2)
 have HOL_2:=Hi33 (HOL_1.out.ext e2)
 clear e2 c0_0
 go_wp2_with (
  at_builtin
  refine wpList_plain rfl fun K_ hK_=>op_append2 (X:=w) (H:=fun _ => .string (qs (mkRat d0 1))) (ad:=⟨w2.heap.size,0,none⟩) (m:=1) (c:=1) (v:=.slice (some ⟨w.heap.size+1,0,none⟩) 0 0) rfl rfl rfl under_s info_s rfl (HX2.out.alloc _) (HOL_2.out.alloc _) (fun _=>by decide) (fun j hj=>by obtain rfl:j=0:=(by omega);exact blk_add (Blk.nw (#[.string (qs (mkRat d0 1))]) 34) rfl) (fun _ _=>rfl) (by unfold maxLen;omega) (by omega) (fun a3_ n3_ c3_ w3 hA_=>hK_ _ _ ?_)
  have HX3:Hid (Ext w w3):=Hi33 hA_.mv.ext
  have HB0_3:Hid (Blk w3 (w.heap.size) (#[.int .i8 a0,.int .i8 a1,.int .i8 a2]) 24):=Hi33 (hA_.mv.blk (HB0_2.out.alloc _) (Osl.not_vob HOL_2.out HB0_2.out (by decide)))
  have HOL_3:Hid (Osl w w3 34 1 (.slice a3_ n3_ c3_) 1 (l3G d0 d1 d2)):=Hi33 (ol_next hA_ rfl)
  clear hA_
 )
 rw [rounds_succ]
 have c0_1:=HB0_3.out.cell 1 rfl
 go_wp2_with fail
 refine (num7_c d1 1 _ (HG.out.ext (HX3.out)) (by omega) (by omega) (by decide) (by decide)).mono ?_;rintro e w4 ⟨rfl,e4⟩
 have HX4:=Hi33 (HX3.out.trans e4)
 have HOL_4:=Hi33 (HOL_3.out.ext e4)
 clear e4 c0_1
 go_wp2_with (
  at_builtin
  refine wpList_plain rfl fun K_ hK_=>op_append2 (X:=w) (H:=fun _ => .string (qs (mkRat d1 1))) (ad:=⟨w4.heap.size,0,none⟩) (m:=1) (c:=1) (v:=.slice a3_ n3_ c3_) rfl rfl rfl under_s info_s rfl (HX4.out.alloc _) (HOL_4.out.alloc _) (fun _=>by decide) (fun j hj=>by obtain rfl:j=0:=(by omega);exact blk_add (Blk.nw (#[.string (qs (mkRat d1 1))]) 34) rfl) (fun _ _=>rfl) (by unfold maxLen;omega) (by omega) (fun a5_ n5_ c5_ w5 hA_=>hK_ _ _ ?_)
  have HX5:Hid (Ext w w5):=Hi33 hA_.mv.ext
  have HOL_5:Hid (Osl w w5 34 1 (.slice a5_ n5_ c5_) 2 (l3G d0 d1 d2)):=Hi33 (ol_next hA_ rfl)
  clear hA_
 )
 rw [rounds_succ]
 go_wp2
 go_ret
 exact ⟨_,rfl,HX5.out,HOL_5.out⟩
theorem list7_n3 (a0 a1 a2 d0 d1 d2:Int) (w:World) (g:Gd w) (h0:-128<=a0/\a0<=127) (e0:a0.tmod 10=d0) (h1:-128<=a1/\a1<=127) (e1:a1.tmod 10=d1) (h2:-128<=a2/\a2<=127) (e2:a2.tmod 10=d2):Calls Tryz.prog 34 #[.agg #[.int .i8 a0,.int .i8 a1,.int .i8 a2],.int .i64 3] w (LstP w d0 d1 d2 3):=by
 have HG:=Hi33 g
 clear g
 have w0_:IntKind.i64.wrap a0=a0:=IntWalk.i64_in a0 (by omega)
 have k0_:=tmod10 a0;rw [e0] at k0_
 have w1_:IntKind.i64.wrap a1=a1:=IntWalk.i64_in a1 (by omega)
 have k1_:=tmod10 a1;rw [e1] at k1_
 have w2_:IntKind.i64.wrap a2=a2:=IntWalk.i64_in a2 (by omega)
 have k2_:=tmod10 a2;rw [e2] at k2_
 go_enter Tryz.func34,Tryz.ntmps34
 go_wp2_with fail
 refine wp_name (fun W=>Ext w W/\Blk W (w.heap.size) (#[.int .i8 a0,.int .i8 a1,.int .i8 a2]) 24/\Blk W (w.heap.size+1) (#[]) 34) ⟨(((Ext.refl w).alloc _).alloc _),((Blk.nw (#[.int .i8 a0,.int .i8 a1,.int .i8 a2]) 24).alloc _),(Blk.nw (#[]) 34)⟩ ?_
 rintro w1 ⟨e1,bB0_1,bB1_1⟩
 have HX1:=Hi33 e1;have HB0_1:=Hi33 bB0_1;have HB1_1:=Hi33 bB1_1
 have HGEB0:Hid (w.heap.size<=w.heap.size):=Hi33 (Nat.le_refl _)
 have HGEB1:Hid (w.heap.size<=w.heap.size+1):=Hi33 (by omega)
 clear e1 bB0_1 bB1_1
 have HOL_1:Hid (Osl w w1 34 1 (.slice (some ⟨w.heap.size+1,0,none⟩) 0 0) 0 (l3G d0 d1 d2)):=Hi33 (Osl.empty HGEB1.out HB1_1.out)
 go_wp2_with fail
 refine wp_loop_rounds 4 ?_
 rw [rounds_succ]
 have c0_0:=HB0_1.out.cell 0 rfl
 go_wp2_with fail
 refine (num7_c d0 1 _ (HG.out.ext (HX1.out)) (by omega) (by omega) (by decide) (by decide)).mono ?_;rintro e w2 ⟨rfl,e2⟩
 have HX2:=Hi33 (HX1.out.trans e2)
 have HB0_2:=Hi33 (HB0_1.out.ext e2)
 have HOL_2:=Hi33 (HOL_1.out.ext e2)
 clear e2 c0_0
 go_wp2_with (
  at_builtin
  refine wpList_plain rfl fun K_ hK_=>op_append2 (X:=w) (H:=fun _ => .string (qs (mkRat d0 1))) (ad:=⟨w2.heap.size,0,none⟩) (m:=1) (c:=1) (v:=.slice (some ⟨w.heap.size+1,0,none⟩) 0 0) rfl rfl rfl under_s info_s rfl (HX2.out.alloc _) (HOL_2.out.alloc _) (fun _=>by decide) (fun j hj=>by obtain rfl:j=0:=(by omega);exact blk_add (Blk.nw (#[.string (qs (mkRat d0 1))]) 34) rfl) (fun _ _=>rfl) (by unfold maxLen;omega) (by omega) (fun a3_ n3_ c3_ w3 hA_=>hK_ _ _ ?_)
  have HX3:Hid (Ext w w3):=Hi33 hA_.mv.ext
  have HB0_3:Hid (Blk w3 (w.heap.size) (#[.int .i8 a0,.int .i8 a1,.int .i8 a2]) 24):=Hi33 (hA_.mv.blk (HB0_2.out.alloc _) (Osl.not_vob HOL_2.out HB0_2.out (by decide)))
  have HOL_3:Hid (Osl w w3 34 1 (.slice a3_ n3_ c3_) 1 (l3G d0 d1 d2)):=Hi33 (ol_next hA_ rfl)
  clear hA_
 )
 rw [rounds_succ]
 have c0_1:=HB0_3.out.cell 1 rfl
 go_wp2_with fail
 refine (num7_c d1 1 _ (HG.out.ext (HX3.out)) (by omega) (by omega) (by decide) (by decide)).mono ?_;rintro e w4 ⟨rfl,e4⟩
 have HX4:=Hi33 (HX3.out.trans e4)
 have HB0_4:=Hi33 (HB0_3.out.ext e4)
 have HOL_4:=Hi33 (HOL_3.out.ext e4)
 clear e4 c0_1
 go_wp2_with (
  at_builtin
  refine wpList_plain rfl fun K_ hK_=>op_append2 (X:=w) (H:=fun _ => .string (qs (mkRat d1 1))) (ad:=⟨w4.heap.size,0,none⟩) (m:=1) (c:=1) (v:=.slice a3_ n3_ c3_) rfl rfl rfl under_s info_s rfl (HX4.out.alloc _) (HOL_4.out.alloc _) (fun _=>by decide) (fun j hj=>by obtain rfl:j=0:=(by omega);exact blk_add (Blk.nw (#[.string (qs (mkRat d1 1))]) 34) rfl) (fun _ _=>rfl) (by unfold maxLen;omega) (by omega) (fun a5_ n5_ c5_ w5 hA_=>hK_ _ _ ?_)
  have HX5:Hid (Ext w w5):=Hi33 hA_.mv.ext
  have HB0_5:Hid (Blk w5 (w.heap.size) (#[.int .i8 a0,.int .i8 a1,.int .i8 a2]) 24):=Hi33 (hA_.mv.blk (HB0_4.out.alloc _) (Osl.not_vob HOL_4.out HB0_4.out (by decide)))
  have HOL_5:Hid (Osl w w5 34 1 (.slice a5_ n5_ c5_) 2 (l3G d0 d1 d2)):=Hi33 (ol_next hA_ rfl)
  clear hA_
 )
 rw [rounds_succ]
 have c0_2:=HB0_5.out.cell 2 rfl
 go_wp2_with fail
 refine (num7_c d2 1 _ (HG.out.ext (HX5.out)) (by omega) (by omega) (by decide) (by decide)).mono ?_;rintro e w6 ⟨rfl,e6⟩
 have HX6:=Hi33 (HX5.out.trans e6)
 have HOL_6:=Hi33 (HOL_5.out.ext e6)
 clear e6 c0_2
 go_wp2_with (
  at_builtin
  refine wpList_plain rfl fun K_ hK_=>op_append2 (X:=w) (H:=fun _ => .string (qs (mkRat d2 1))) (ad:=⟨w6.heap.size,0,none⟩) (m:=1) (c:=1) (v:=.slice a5_ n5_ c5_) rfl rfl rfl under_s info_s rfl (HX6.out.alloc _) (HOL_6.out.alloc _) (fun _=>by decide) (fun j hj=>by obtain rfl:j=0:=(by omega);exact blk_add (Blk.nw (#[.string (qs (mkRat d2 1))]) 34) rfl) (fun _ _=>rfl) (by unfold maxLen;omega) (by omega) (fun a7_ n7_ c7_ w7 hA_=>hK_ _ _ ?_)
  have HX7:Hid (Ext w w7):=Hi33 hA_.mv.ext
  have HOL_7:Hid (Osl w w7 34 1 (.slice a7_ n7_ c7_) 3 (l3G d0 d1 d2)):=Hi33 (ol_next hA_ rfl)
  clear hA_
 )
 rw [rounds_succ]
 go_wp2
 go_ret
 exact ⟨_,rfl,HX7.out,HOL_7.out⟩
theorem sgn30 {x:Rat} (h:x.num.sign=0):x<=0:=by
 by_cases h1:0<x
 ·rw [num_sign_pos h1] at h;exact absurd h (by decide)
 ·grind
theorem ray_next {P:LP} {t:Nat->ByteArray} {k:Nat} (h:(smq P.n (fun j=>P.A k j*yq t j))<=0) (h2:∀ i,i<k->(smq P.n (fun j=>P.A i j*yq t j))<=0):∀ i,i<k+1->(smq P.n (fun j=>P.A i j*yq t j))<=0:=fun i hi=>by
 by_cases e:i=k
 ·rw [e];exact h
 ·exact h2 i (by omega)
theorem ray7_c (P:LP) (vr vc:Value) (va:Nat->Value) (q:Nat) (w:World) (g:Gd w) (hP:PM P w vr vc va) (vy:Value) (m:Nat) (t:Nat->ByteArray) (r:Nat) (hT:Rs w vy m t) (hts:∀ i,i<m->(t i).size<=1000000) (hm6:m<=1000000) (hq:TxQ t m r) (hr2:r<=200) (hsz:P.n*(q+r+1)<=198) (qc:∀ j,j<P.n->QB q (P.C j))  (hqr:q+r<=199) (Q:PQ P) (hn:P.n<=60) (hm:P.m<=300) (hq1:1<=q) (hq2:q<=200) (qa:∀ i,i<P.m->∀ j,j<P.n->QB q (P.A i j)):Calls Tryz.prog 43 #[.agg #[.int .i64 (P.n:Int),vr,vc],vy] w (Ret w (.int .i64 (fac P t m))):=by
 have HPM:=Hi33 hP
 have HT:=Hi33 hT
 have HTS:=Hi33 hts
 have HTQ:=Hi33 hq
 have HQC:=Hi33 qc
 have HG:=Hi33 g
 have HQA:=Hi33 qa
 have HQP:=Hi33 Q
 clear hP hT hts hq qc g qa Q
 have HPO:=Hi33 HPM.out.obj;have HPF:=Hi33 HPM.out.fac
 obtain ⟨co,ccap,ec_,_⟩:=HPM.out.obj
 obtain ⟨ro,rcap,er_,_,_,hrr⟩:=HPM.out.rows
 subst er_ ec_
 have HRR:=Hi33 hrr;clear hrr
 have HT0:=Hi33 HT.out
 obtain ⟨yo,ycap,ey_,_,_,hyy⟩:=HT.out
 subst ey_
 clear hyy
 go_enter Tryz.func43,Tryz.ntmps43
 go_upto_region 1 with fail
 refine wp_name (fun W=>Ext w W/\Blk W (w.heap.size) (#[.int .i64 (P.n:Int),.slice ro P.m rcap,.slice co P.n ccap]) 32) ⟨((Ext.refl w).alloc _),(Blk.nw (#[.int .i64 (P.n:Int),.slice ro P.m rcap,.slice co P.n ccap]) 32)⟩ ?_
 rintro w1 ⟨e1,bB0_1⟩
 have HX1:=Hi33 e1;have HB0_1:=Hi33 bB0_1
 have HGEB0:Hid (w.heap.size<=w.heap.size):=Hi33 (Nat.le_refl _)
 clear e1 bB0_1
 by_cases hle:lerr t m P.n≠0
 ·have hz2:¬ lerr t m P.n=0:=hle
  have c0_0:=HB0_1.out.cell 0 rfl
  go_wp2_with fail
  refine (list7_c (HG.out.ext (HX1.out)) (HT0.out.ext HX1.out) HTS.out hm6).mono ?_;rintro e w2 ⟨rfl,e2⟩
  have HX2:=Hi33 (HX1.out.trans e2)
  have HB0_2:=Hi33 (HB0_1.out.ext e2)
  clear e2 c0_0
  go_wp2
  go_ret
  exact ⟨by rw [fac,if_pos hle];rfl,HX2.out⟩
 ·have hle:=Classical.not_not.1 hle
  obtain ⟨rfl,hx_⟩:=lerr_ok hle HTQ.out
  have HX_:=Hi33 hx_;clear hx_
  have HDX:Hid (Rq w (.slice yo P.n ycap) P.n (yq t)):=Hi33 (HT0.out.congr fun i hi=>by rw [← (HX_.out i hi).1])
  have HQX:Hid (∀ j,j<P.n->QB r (yq t j)):=Hi33 (fun j hj=>(HX_.out j hj).2)
  have HQO:Hid (QB 199 (P.obj (yq t))):=Hi33 ((smq_qb HQC.out HQX.out P.n (Nat.le_refl _)).mono (dot_sz (Nat.le_refl _) hsz))
  have HLE:Hid (lerr t P.n P.n=0):=Hi33 hle;clear hle
  have c0_0:=HB0_1.out.cell 0 rfl
  go_wp2_with fail
  refine ((HLE.out▸list7_c (HG.out.ext (HX1.out)) (HT0.out.ext HX1.out) HTS.out hm6)).mono ?_;rintro e w2 ⟨rfl,e2⟩
  have HX2:=Hi33 (HX1.out.trans e2)
  have HB0_2:=Hi33 (HB0_1.out.ext e2)
  clear e2 c0_0
  go_wp2_with fail
  go_loopw [6] (fun x0_ wx=>∃ k:Nat,x0_ = .int .i64 k/\k<=P.m/\Hid (∀ i,i<k->(smq P.n (fun j=>P.A i j*yq t j))<=0)/\Hid (Ext w wx/\Blk wx (w.heap.size) (#[.int .i64 (P.n:Int),.slice ro P.m rcap,.slice co P.n ccap]) 32)) (fun x0_ _=>P.m-(intOf x0_).toNat)
  case atStart=>exact ⟨0,rfl,Nat.zero_le _,Hi33 ((fun i hi=>absurd hi (Nat.not_lt_zero i))),Hi33 ⟨HX2.out,HB0_2.out⟩⟩
  case round =>
   rename World=>w3
   obtain ⟨k,rfl,hkk,HGk,HH⟩:=hrel
   have HX3:=Hi33 HH.out.1
   have HB0_3:=Hi33 HH.out.2
   clear HH
   by_cases hlt:k<P.m
   ·have hlt2:(k:Int)<((P.m:Nat):Int):=by omega
    obtain ⟨ra,o_,rfl,zr_,zs_⟩:=HRR.out k hlt
    obtain ⟨fo,fcap,ef_,_⟩:=HPF.out k hlt
    rw [ef_] at zr_
    have HFK:=Hi33 (ef_▸HPF.out k hlt)
    have HCr:=Hi33 zr_;have HCs:=Hi33 zs_;clear zr_ zs_ ef_
    rcases sgn3 (smq P.n (fun j=>P.A k j*yq t j)) with ⟨h1,h2⟩|⟨h1,h2⟩|⟨h1,h2⟩
    ·have HSG:=Hi33 h1;clear h1
     have c0_1:=HB0_3.out.cell 1 rfl
     have cr_o____k___2:=keepA HX3.out (HCr.out)
     go_wp2_with fail
     refine (dot7_c _ _ P.n (P.A k) (yq t) _ (HG.out.ext (HX3.out)) (HFK.out.ext HX3.out) (HDX.out.ext HX3.out) (HQA.out k hlt) HQX.out (by omega) hqr hsz).mono ?_;rintro e w4 ⟨rfl,e4⟩
     have HX4:=Hi33 (HX3.out.trans e4)
     have HB0_4:=Hi33 (HB0_3.out.ext e4)
     clear e4 c0_1 cr_o____k___2
     go_wp2_with fail
     refine ((HSG.out▸sg7_c (smq P.n (fun j=>P.A k j*yq t j)) _ (HG.out.ext (HX4.out)) (((smq_qb (HQA.out k hlt) HQX.out P.n (Nat.le_refl _)).mono (dot_sz (Nat.le_refl _) hsz)).mono (by omega)))).mono ?_;rintro e w5 ⟨rfl,e5⟩
     have HX5:=Hi33 (HX4.out.trans e5)
     have HB0_5:=Hi33 (HB0_4.out.ext e5)
     clear e5
     go_wp2_with fail
     go_roundw
     case rel=>exact ⟨k+1,by go_num,by omega,Hi33 (ray_next (by grind) HGk.out),Hi33 ⟨HX5.out,HB0_5.out⟩⟩
     case measure=>simp [intOf];omega
    ·have HSG:=Hi33 h1;clear h1
     have c0_1:=HB0_3.out.cell 1 rfl
     have cr_o____k___2:=keepA HX3.out (HCr.out)
     go_wp2_with fail
     refine (dot7_c _ _ P.n (P.A k) (yq t) _ (HG.out.ext (HX3.out)) (HFK.out.ext HX3.out) (HDX.out.ext HX3.out) (HQA.out k hlt) HQX.out (by omega) hqr hsz).mono ?_;rintro e w4 ⟨rfl,e4⟩
     have HX4:=Hi33 (HX3.out.trans e4)
     have HB0_4:=Hi33 (HB0_3.out.ext e4)
     clear e4 c0_1 cr_o____k___2
     go_wp2_with fail
     refine ((HSG.out▸sg7_c (smq P.n (fun j=>P.A k j*yq t j)) _ (HG.out.ext (HX4.out)) (((smq_qb (HQA.out k hlt) HQX.out P.n (Nat.le_refl _)).mono (dot_sz (Nat.le_refl _) hsz)).mono (by omega)))).mono ?_;rintro e w5 ⟨rfl,e5⟩
     have HX5:=Hi33 (HX4.out.trans e5)
     have HB0_5:=Hi33 (HB0_4.out.ext e5)
     clear e5
     go_wp2_with fail
     go_roundw
     case rel=>exact ⟨k+1,by go_num,by omega,Hi33 (ray_next (sgn30 HSG.out) HGk.out),Hi33 ⟨HX5.out,HB0_5.out⟩⟩
     case measure=>simp [intOf];omega
    ·have HSG:=Hi33 h1;clear h1
     have c0_1:=HB0_3.out.cell 1 rfl
     have cr_o____k___2:=keepA HX3.out (HCr.out)
     go_wp2_with fail
     refine (dot7_c _ _ P.n (P.A k) (yq t) _ (HG.out.ext (HX3.out)) (HFK.out.ext HX3.out) (HDX.out.ext HX3.out) (HQA.out k hlt) HQX.out (by omega) hqr hsz).mono ?_;rintro e w4 ⟨rfl,e4⟩
     have HX4:=Hi33 (HX3.out.trans e4)
     have HB0_4:=Hi33 (HB0_3.out.ext e4)
     clear e4 c0_1 cr_o____k___2
     go_wp2_with fail
     refine ((HSG.out▸sg7_c (smq P.n (fun j=>P.A k j*yq t j)) _ (HG.out.ext (HX4.out)) (((smq_qb (HQA.out k hlt) HQX.out P.n (Nat.le_refl _)).mono (dot_sz (Nat.le_refl _) hsz)).mono (by omega)))).mono ?_;rintro e w5 ⟨rfl,e5⟩
     have HX5:=Hi33 (HX4.out.trans e5)
     have HB0_5:=Hi33 (HB0_4.out.ext e5)
     clear e5
     go_wp2
     go_ret
     exact ⟨by rw [fac,if_neg (fun h=>h HLE.out),if_neg (fun h=>h2 (by have:=h.2 k hlt;have h3:=sgn3b HSG.out;grind))];rfl,HX5.out⟩
   ·have hk2:k=P.m:=by omega
    have hge:¬ (k:Int)<((P.m:Nat):Int):=by omega
    rcases sgn3 (P.obj (yq t)) with ⟨h1,h2⟩|⟨h1,h2⟩|⟨h1,h2⟩
    ·have HSG:=Hi33 h1;clear h1
     have c0_1:=HB0_3.out.cell 1 rfl
     have c0_2:=HB0_3.out.cell 2 rfl
     go_wp2_with fail
     refine (dot7_c _ _ P.n P.C (yq t) _ (HG.out.ext (HX3.out)) (HPO.out.ext HX3.out) (HDX.out.ext HX3.out) HQC.out HQX.out (by omega) hqr hsz).mono ?_;rintro e w4 ⟨rfl,e4⟩
     have HX4:=Hi33 (HX3.out.trans e4)
     have HB0_4:=Hi33 (HB0_3.out.ext e4)
     clear e4 c0_1 c0_2
     go_wp2_with fail
     refine ((HSG.out▸sg7_c (P.obj (yq t)) _ (HG.out.ext (HX4.out)) (HQO.out.mono (by omega)))).mono ?_;rintro e w5 ⟨rfl,e5⟩
     have HX5:=Hi33 (HX4.out.trans e5)
     have HB0_5:=Hi33 (HB0_4.out.ext e5)
     clear e5
     go_wp2
     go_ret
     exact ⟨by rw [fac,if_neg (fun h=>h HLE.out),if_pos ⟨h2,fun i hi=>HGk.out i (by omega)⟩];rfl,HX5.out⟩
    ·have HSG:=Hi33 h1;clear h1
     have c0_1:=HB0_3.out.cell 1 rfl
     have c0_2:=HB0_3.out.cell 2 rfl
     go_wp2_with fail
     refine (dot7_c _ _ P.n P.C (yq t) _ (HG.out.ext (HX3.out)) (HPO.out.ext HX3.out) (HDX.out.ext HX3.out) HQC.out HQX.out (by omega) hqr hsz).mono ?_;rintro e w4 ⟨rfl,e4⟩
     have HX4:=Hi33 (HX3.out.trans e4)
     have HB0_4:=Hi33 (HB0_3.out.ext e4)
     clear e4 c0_1 c0_2
     go_wp2_with fail
     refine ((HSG.out▸sg7_c (P.obj (yq t)) _ (HG.out.ext (HX4.out)) (HQO.out.mono (by omega)))).mono ?_;rintro e w5 ⟨rfl,e5⟩
     have HX5:=Hi33 (HX4.out.trans e5)
     have HB0_5:=Hi33 (HB0_4.out.ext e5)
     clear e5
     go_wp2
     go_ret
     exact ⟨by rw [fac,if_neg (fun h=>h HLE.out),if_neg (fun h=>h2 h.1)];rfl,HX5.out⟩
    ·have HSG:=Hi33 h1;clear h1
     have c0_1:=HB0_3.out.cell 1 rfl
     have c0_2:=HB0_3.out.cell 2 rfl
     go_wp2_with fail
     refine (dot7_c _ _ P.n P.C (yq t) _ (HG.out.ext (HX3.out)) (HPO.out.ext HX3.out) (HDX.out.ext HX3.out) HQC.out HQX.out (by omega) hqr hsz).mono ?_;rintro e w4 ⟨rfl,e4⟩
     have HX4:=Hi33 (HX3.out.trans e4)
     have HB0_4:=Hi33 (HB0_3.out.ext e4)
     clear e4 c0_1 c0_2
     go_wp2_with fail
     refine ((HSG.out▸sg7_c (P.obj (yq t)) _ (HG.out.ext (HX4.out)) (HQO.out.mono (by omega)))).mono ?_;rintro e w5 ⟨rfl,e5⟩
     have HX5:=Hi33 (HX4.out.trans e5)
     have HB0_5:=Hi33 (HB0_4.out.ext e5)
     clear e5
     go_wp2
     go_ret
     exact ⟨by rw [fac,if_neg (fun h=>h HLE.out),if_neg (fun h=>h2 h.1)];rfl,HX5.out⟩
theorem vfy_e {P:LP} {kd:Int} {val:ByteArray} {t1 t2 t3:Nat->ByteArray} {m1 m2 m3:Nat} {e:Int} (h:emc kd val m1 m2 m3=e) (he:e≠0):vfy P kd val t1 m1 t2 m2 t3 m3=e:=by rw [vfy,h,if_pos he]
theorem gh_eq {f g:Nat->Rat} {k:Nat} (hz:f k=g k) (h:∀ j,j<k->f j=g j):∀ j,j<k+1->f j=g j:=fun j hj=>by
 by_cases e:j=k
 ·rw [e];exact hz
 ·exact h j (by omega)
theorem lverify_c (P:LP) (vr vc:Value) (va:Nat->Value) (q:Nat) (w:World) (g:Gd w) (hP:PM P w vr vc va) (kd:Int) (val:ByteArray) (hvs:val.size<=1000000) (o1:Option Addr) (m1 c1:Nat) (o2:Option Addr) (m2 c2:Nat) (o3:Option Addr) (m3 c3:Nat) (r:Nat) (t1:Nat->ByteArray) (hT1:Rs w (.slice o1 m1 c1) m1 t1) (hts1:∀ i,i<m1->(t1 i).size<=1000000) (hm1:m1<=1000000) (hq1_:TxQ t1 m1 r) (t2:Nat->ByteArray) (hT2:Rs w (.slice o2 m2 c2) m2 t2) (hts2:∀ i,i<m2->(t2 i).size<=1000000) (hm2:m2<=1000000) (hq2_:TxQ t2 m2 r) (t3:Nat->ByteArray) (hT3:Rs w (.slice o3 m3 c3) m3 t3) (hts3:∀ i,i<m3->(t3 i).size<=1000000) (hm3:m3<=1000000) (hq3_:TxQ t3 m3 r) (hr2:r<=200) (hsz:P.n*(q+r+1)<=150) (hsz2:P.m*(r+q+1)<=190) (hqr:q+r<=40) (qb:∀ i,i<P.m->QB q (P.B i)) (qc:∀ j,j<P.n->QB q (P.C j))  (hm2b:m2<=1000) (Q:PQ P) (hn:P.n<=60) (hm:P.m<=300) (hq1:1<=q) (hq2:q<=200) (qa:∀ i,i<P.m->∀ j,j<P.n->QB q (P.A i j)):Calls Tryz.prog 16 #[.agg #[.int .i64 (P.n:Int),vr,vc],.agg #[.int .i64 kd,.string val,.slice o1 m1 c1,.slice o2 m2 c2,.slice o3 m3 c3]] w (Ret w (.int .i64 (vfy P kd val t1 m1 t2 m2 t3 m3))):=by
 have HPM:=Hi33 hP
 have HT1:=Hi33 hT1
 have HT2:=Hi33 hT2
 have HT3:=Hi33 hT3
 have HS1:=Hi33 hts1
 have HS2:=Hi33 hts2
 have HS3:=Hi33 hts3
 have HQ1:=Hi33 hq1_
 have HQ2:=Hi33 hq2_
 have HQ3:=Hi33 hq3_
 have HQB:=Hi33 qb
 have HQC:=Hi33 qc
 have HG:=Hi33 g
 have HQA:=Hi33 qa
 have HQP:=Hi33 Q
 clear hP hT1 hT2 hT3 hts1 hts2 hts3 hq1_ hq2_ hq3_ qb qc g qa Q
 have HPO:=Hi33 HPM.out.obj;have HPF:=Hi33 HPM.out.fac
 obtain ⟨co,ccap,ec_,_,_,hoo⟩:=HPM.out.obj
 obtain ⟨ro,rcap,er_,_,_,hrr⟩:=HPM.out.rows
 subst er_ ec_
 have HRR:=Hi33 hrr;clear hrr
 have HOO:=Hi33 hoo;clear hoo
 go_enter Tryz.func16,Tryz.ntmps16
 rcases kd5 kd with h|h|rfl|rfl|rfl
 ·have k4:kd<1:=h
  skip
  go_wp2
  go_ret
  exact ⟨by rw [vfy_e (e:=12) (by rw [emc,if_pos (by omega)]) (by decide)];rfl,(((Ext.refl w).alloc _).alloc _)⟩
 ·have k4:¬ kd<1:=by omega
  have k5:3<kd:=h
  go_wp2
  go_ret
  exact ⟨by rw [vfy_e (e:=12) (by rw [emc,if_pos (by omega)]) (by decide)];rfl,(((Ext.refl w).alloc _).alloc _)⟩
 ·go_upto_region 4 with fail
  refine wp_name (fun W=>Ext w W/\Blk W (w.heap.size) (#[.int .i64 (P.n:Int),.slice ro P.m rcap,.slice co P.n ccap]) 32/\Blk W (w.heap.size+1) (#[.int .i64 1,.string val,.slice o1 m1 c1,.slice o2 m2 c2,.slice o3 m3 c3]) 42) ⟨(((Ext.refl w).alloc _).alloc _),((Blk.nw (#[.int .i64 (P.n:Int),.slice ro P.m rcap,.slice co P.n ccap]) 32).alloc _),(Blk.nw (#[.int .i64 1,.string val,.slice o1 m1 c1,.slice o2 m2 c2,.slice o3 m3 c3]) 42)⟩ ?_
  rintro w1 ⟨e1,bB0_1,bB1_1⟩
  have HX1:=Hi33 e1;have HB0_1:=Hi33 bB0_1;have HB1_1:=Hi33 bB1_1
  have HGEB0:Hid (w.heap.size<=w.heap.size):=Hi33 (Nat.le_refl _)
  have HGEB1:Hid (w.heap.size<=w.heap.size+1):=Hi33 (by omega)
  clear e1 bB0_1 bB1_1
  by_cases hc:m3=0
  ·have zm3:¬ (0:Int)<(m3:Int):=by omega
   have nm3_:=Hi33 hc;clear hc
   have HEM:Hid (emc 1 val m1 m2 m3=0):=Hi33 (by rw [emc,if_neg (by decide),if_neg (fun h=>h.elim (fun h=>h.1 rfl) (fun h=>h.elim (fun h=>absurd h.1 (by decide)) (fun h=>h.elim (fun h=>absurd h.1 (by decide)) (fun h=>absurd (nm3_.out) (by have:=h.2;omega)))))])
   have c1_0:=HB1_1.out.cell 0 rfl
   have c1_4:=HB1_1.out.cell 4 rfl
   go_upto_region 7 with fail
   clear c1_0 c1_4
   by_cases hle:lerr t1 m1 P.n≠0
   ·have hz2:¬ lerr t1 m1 P.n=0:=hle
    have c1_2:=HB1_1.out.cell 2 rfl
    have c0_0:=HB0_1.out.cell 0 rfl
    go_wp2_with fail
    refine (list7_c (HG.out.ext (HX1.out)) (HT1.out.ext HX1.out) HS1.out hm1).mono ?_;rintro e w2 ⟨rfl,e2⟩
    have HX2:=Hi33 (HX1.out.trans e2)
    have HB0_2:=Hi33 (HB0_1.out.ext e2)
    have HB1_2:=Hi33 (HB1_1.out.ext e2)
    clear e2 c1_2 c0_0
    go_wp2
    go_ret
    exact ⟨by rw [vfy,if_neg (fun h=>h HEM.out),if_neg (show ¬ ((1:Int)=2) by decide),if_pos hle];rfl,HX2.out⟩
   ·have hle:=Classical.not_not.1 hle
    obtain ⟨em1_,hx_⟩:=lerr_ok hle HQ1.out
    have HX_:=Hi33 hx_;clear hx_
    have HX1R:Hid (Rq w (.slice o1 m1 c1) P.n (yq t1)):=Hi33 (em1_▸HT1.out.congr fun i hi=>by rw [← (HX_.out i hi).1])
    have HXQ:Hid (∀ j,j<P.n->QB r ((yq t1) j)):=Hi33 (fun j hj=>(HX_.out j (by omega)).2)
    have HLE:Hid (lerr t1 m1 P.n=0):=Hi33 hle;clear hle em1_
    have c1_2:=HB1_1.out.cell 2 rfl
    have c0_0:=HB0_1.out.cell 0 rfl
    go_wp2_with fail
    refine ((HLE.out▸list7_c (HG.out.ext (HX1.out)) (HT1.out.ext HX1.out) HS1.out hm1)).mono ?_;rintro e w2 ⟨rfl,e2⟩
    have HX2:=Hi33 (HX1.out.trans e2)
    have HB0_2:=Hi33 (HB0_1.out.ext e2)
    have HB1_2:=Hi33 (HB1_1.out.ext e2)
    clear e2 c1_2 c0_0
    go_upto_region 10 with fail
    have c0_1:=HB0_2.out.cell 1 rfl
    have c1_2:=HB1_2.out.cell 2 rfl
    go_wp2_with fail
    refine (viol7_c P _ _ va q _ (HG.out.ext (HX2.out)) (HPM.out.ext HX2.out) _ (yq t1) r (HX1R.out.ext HX2.out) HXQ.out hsz hqr HQP.out hn hm HQA.out HQB.out).mono ?_;rintro e w3 ⟨v_,rfl,e3,fl_⟩
    have HX3:=Hi33 (HX2.out.trans e3)
    have HB0_3:=Hi33 (HB0_2.out.ext e3)
    have HB1_3:=Hi33 (HB1_2.out.ext e3)
    clear e3 c0_1 c1_2
    obtain ⟨la,lc,rfl⟩:=fl_.lsl;clear fl_
    by_cases hv:0<(fil (vio P (yq t1)) P.m).length
    ·have hz2:(0:Int)<(((fil (vio P (yq t1)) P.m).length:Nat):Int):=by omega
     go_wp2
     go_ret
     exact ⟨by rw [vfy,if_neg (fun h=>h HEM.out),if_neg (show ¬ ((1:Int)=2) by decide),if_neg (fun h=>h HLE.out),if_pos hv];rfl,HX3.out⟩
    ·have hz2:¬ (0:Int)<(((fil (vio P (yq t1)) P.m).length:Nat):Int):=by omega
     have HV:=Hi33 hv;clear hv
     go_upto_region 12 with fail
     by_cases hv:rq val=true
     ·have HRV:=Hi33 hv;clear hv
      have c1_0:=HB1_3.out.cell 0 rfl
      have c1_1:=HB1_3.out.cell 1 rfl
      go_wp2_with fail
      refine ((HRV.out▸r7_c val _ (HG.out.ext (HX3.out)) hvs)).mono ?_;rintro e w4 ⟨rfl,e4⟩
      have HX4:=Hi33 (HX3.out.trans e4)
      have HB0_4:=Hi33 (HB0_3.out.ext e4)
      have HB1_4:=Hi33 (HB1_3.out.ext e4)
      clear e4 c1_0 c1_1
      have c1_0:=HB1_4.out.cell 0 rfl
      go_upto_region 16 with fail
      clear c1_0
      by_cases hme:merr t2 m2 P.m≠0
      ·have hz2:¬ merr t2 m2 P.m=0:=hme
       have c0_1:=HB0_4.out.cell 1 rfl
       go_wp2_with fail
       refine (mult7_c (r:=r) (HG.out.ext (HX4.out)) (HT2.out.ext HX4.out) HS2.out HQ2.out hr2 hm2b).mono ?_;rintro e w5 ⟨rfl,e5⟩
       have HX5:=Hi33 (HX4.out.trans e5)
       have HB0_5:=Hi33 (HB0_4.out.ext e5)
       have HB1_5:=Hi33 (HB1_4.out.ext e5)
       clear e5 c0_1
       go_wp2
       go_ret
       exact ⟨by rw [vfy,if_neg (fun h=>h HEM.out),if_neg (show ¬ ((1:Int)=2) by decide),if_neg (fun h=>h HLE.out),if_neg HV.out,if_neg (show ¬ ((1:Int)=3) by decide),if_pos HRV.out,if_pos (by rw [bdc,if_pos hme];exact hme),bdc,if_pos hme];rfl,HX5.out⟩
      ·have hme:=Classical.not_not.1 hme
       obtain ⟨em2_,hx_⟩:=merr_ok hme HQ2.out
       have HXY:=Hi33 hx_;clear hx_
       have HYR:Hid (Rq w (.slice o2 m2 c2) P.m (yq t2)):=Hi33 (em2_▸HT2.out.congr fun i hi=>by rw [← (HXY.out i hi).1])
       have HYQ:Hid (∀ j,j<P.m->QB r ((yq t2) j)):=Hi33 (fun j hj=>(HXY.out j (by omega)).2)
       have HM0:Hid (merr t2 m2 P.m=0):=Hi33 hme;have HBN:=Hi33 (sum_qb HQ2.out hme HQB.out (by omega));have HSC:=Hi33 (comb_qb HQ2.out hme HQA.out (by omega));clear hme em2_
       have c0_1:=HB0_4.out.cell 1 rfl
       go_wp2_with fail
       refine ((HM0.out▸mult7_c (r:=r) (HG.out.ext (HX4.out)) (HT2.out.ext HX4.out) HS2.out HQ2.out hr2 hm2b)).mono ?_;rintro e w5 ⟨rfl,e5⟩
       have HX5:=Hi33 (HX4.out.trans e5)
       have HB0_5:=Hi33 (HB0_4.out.ext e5)
       have HB1_5:=Hi33 (HB1_4.out.ext e5)
       clear e5 c0_1
       go_upto_region 19 with fail
       have c0_0:=HB0_5.out.cell 0 rfl
       have c0_1:=HB0_5.out.cell 1 rfl
       go_wp2_with fail
       refine (dual7_c P _ _ va q _ (HG.out.ext (HX5.out)) (HPM.out.ext HX5.out) _ (yq t2) r (HYR.out.ext HX5.out) HYQ.out hsz2 (by omega) HQP.out hn hm HQA.out HQB.out).mono ?_;rintro e w6 ⟨vf,rfl,e6,hnq⟩
       have HX6:=Hi33 (HX5.out.trans e6)
       have HB0_6:=Hi33 (HB0_5.out.ext e6)
       have HB1_6:=Hi33 (HB1_5.out.ext e6)
       clear e6 c0_0 c0_1
       obtain ⟨fk,CF,rfl,gf_,bf_,cf_⟩:=hnq
       have HCF:=Hi33 cf_;have HBF0:=Hi33 bf_;clear gf_ bf_ cf_
       go_wp2_with fail
       go_loopw [10] (fun x0_ wx=>∃ k:Nat,x0_ = .int .i64 k/\k<=P.n/\Hid (∀ j,j<k->P.comb (yq t2) j=-P.C j)/\Hid (Ext w wx/\Blk wx (w.heap.size) (#[.int .i64 (P.n:Int),.slice ro P.m rcap,.slice co P.n ccap]) 32/\Blk wx (w.heap.size+1) (#[.int .i64 1,.string val,.slice o1 m1 c1,.slice o2 m2 c2,.slice o3 m3 c3]) 42/\Blk wx (fk) (CF) 34)) (fun x0_ _=>P.n-(intOf x0_).toNat)
       case atStart=>exact ⟨0,rfl,Nat.zero_le _,Hi33 ((fun j hj=>absurd hj (Nat.not_lt_zero j))),Hi33 ⟨HX6.out,HB0_6.out,HB1_6.out,HBF0.out⟩⟩
       case round =>
        rename World=>w7
        obtain ⟨k,rfl,hkk,HGk,HH⟩:=hrel
        have HX7:=Hi33 HH.out.1
        have HB0_7:=Hi33 HH.out.2.1
        have HB1_7:=Hi33 HH.out.2.2.1
        have HBf_7:=Hi33 HH.out.2.2.2
        clear HH
        by_cases hlt:k<P.n
        ·have hlt2:(k:Int)<((P.n:Nat):Int):=by omega
         obtain ⟨ca,rfl,zc_⟩:=HOO.out k hlt
         have HCc:=Hi33 zc_;clear zc_
         have c0_0:=HB0_7.out.cell 0 rfl
         have c1_0:=HB1_7.out.cell 0 rfl
         have c0_2:=HB0_7.out.cell 2 rfl
         have cc_k:=keepA HX7.out (HCc.out)
         go_wp2_with fail
         refine (p3_neg (P.C k) _ (HG.out.ext (HX7.out)) ((HQC.out k hlt).mono (by omega))).mono ?_;rintro e w8 ⟨rfl,e8⟩
         have HX8:=Hi33 (HX7.out.trans e8)
         have HB0_8:=Hi33 (HB0_7.out.ext e8)
         have HB1_8:=Hi33 (HB1_7.out.ext e8)
         have HBf_8:=Hi33 (HBf_7.out.ext e8)
         clear e8 c0_0 c1_0 c0_2 cc_k
         go_upto_region 26 with fail
         by_cases hz:P.comb (yq t2) k=-P.C k
         ·have z1:=qs_eqL hz
          have HZ:=Hi33 hz;clear hz
          have cf_k:=HBf_8.out.cell (k) (HCF.out k hlt)
          go_wp2_with fail
          go_roundw
          case rel=>exact ⟨k+1,by go_num,by omega,Hi33 (gh_eq HZ.out HGk.out),Hi33 ⟨HX8.out,HB0_8.out,HB1_8.out,HBf_8.out⟩⟩
          case measure=>simp [intOf];omega
         ·have z1:=qs_neL hz
          have HZ:=Hi33 hz;clear hz
          have cf_k:=HBf_8.out.cell (k) (HCF.out k hlt)
          go_wp2
          go_ret
          exact ⟨by rw [vfy,if_neg (fun h=>h HEM.out),if_neg (show ¬ ((1:Int)=2) by decide),if_neg (fun h=>h HLE.out),if_neg HV.out,if_neg (show ¬ ((1:Int)=3) by decide),if_pos HRV.out,if_pos (by rw [bdc,if_neg (fun h=>h HM0.out),if_neg (fun h=>HZ.out (h k hlt))];decide),bdc,if_neg (fun h=>h HM0.out),if_neg (fun h=>HZ.out (h k hlt))];rfl,HX8.out⟩
        ·have hk2:k=P.n:=by omega
         have hge:¬ (k:Int)<((P.n:Nat):Int):=by omega
         have c0_0:=HB0_7.out.cell 0 rfl
         go_upto_region 28 with fail
         clear c0_0
         have HBD:Hid (bdc P t2 m2=(qs (-P.bnd (yq t2)),0)):=Hi33 (by rw [bdc,if_neg (fun h=>h HM0.out),if_pos (fun j hj=>HGk.out j (by omega))])
         by_cases h1:qs (-P.bnd (yq t2))=val
         ·have z1:=tl_eq2 h1
          have HB1_:=Hi33 h1;clear h1
          by_cases h2:qs (P.obj (yq t1))=val
          ·have z2:=tl_eq2 h2
           have HB2_:=Hi33 h2;clear h2
           go_wp2_with fail
           refine region_e [.val (.pointer (some ⟨w.heap.size+1,0,none⟩)),.val (.int .i64 1),.val (.bool false),.val (.bool false),.off,.off,.off,.val (.bool false),.val (.bool false),.val (.pointer (some ⟨w.heap.size+1,0,none⟩)),.val (.int .i64 1),.val (.bool true),.val (.bool true),.val (.string (qs (P.bnd (yq t2)))),.val (.string (qs (-P.bnd (yq t2)))),.val (.pointer (some ⟨w.heap.size+1,1,none⟩)),.val (.string val),.val (.bool false),.val (.bool false),.val (.pointer (some ⟨w.heap.size,2,none⟩)),.val (.slice co P.n ccap),.val (.pointer (some ⟨w.heap.size+1,2,none⟩)),.val (.slice o1 m1 c1),.val (.string (qs (P.obj (yq t1)))),.val (.pointer (some ⟨w.heap.size+1,1,none⟩)),.val (.string val),.val (.bool false),.val (.bool false),.val (.bool false),.val (.bool false)] (fun L g W=>True) (S:=fun _=>False) (by kernel_rfl) (by kernel_rfl) (by kernel_rfl) (Mv.refl HX7.out (fun k h=>h.elim)) ?_ ?_ ?_ ?_ (fun gv_ w8 hm_ he_=>?_)
           ·exact fun _=>trivial
           ·exact fun _ _ _ _ h _=>h
           ·exact fun _ _ _ _ _ _ h=>h
           ·skip
            refine RV (fun A_ hs_ K_ hK_=>?_) ?_;· have q3_:=hs_.is 3 (.pointer (some ⟨w.heap.size+1,0,none⟩));go_simp;exact fin_ hK_
            refine RV (fun A_ hs_ K_ hK_=>?_) ?_;· have q134_:=hs_.val 0;have c1_0:=(hs_.mv.blk HB1_7.out (fun h=>h)).cell 0 rfl;go_simp;exact fin_ hK_
            refine RV (fun A_ hs_ K_ hK_=>?_) ?_;· have q135_:=hs_.val 1;go_simp;exact fin_ hK_
            refine RV (fun A_ hs_ K_ hK_=>?_) ?_;· have q136_:=hs_.val 2;go_simp;exact fin_ hK_
            refine RO (RO (RO (RV (fun A_ hs_ K_ hK_=>?_) ?_)));· have q137_:=hs_.val 3;have q140_:=hs_.un 6;go_simp;exact fin_ hK_
            refine RV (fun A_ hs_ K_ hK_=>?_) ?_;· have q141_:=hs_.val 7;go_simp;exact fin_ hK_
            refine RV (fun A_ hs_ K_ hK_=>?_) ?_;· have q3_:=hs_.is 3 (.pointer (some ⟨w.heap.size+1,0,none⟩));go_simp;exact fin_ hK_
            refine RV (fun A_ hs_ K_ hK_=>?_) ?_;· have q143_:=hs_.val 9;have c1_0:=(hs_.mv.blk HB1_7.out (fun h=>h)).cell 0 rfl;go_simp;exact fin_ hK_
            refine RV (fun A_ hs_ K_ hK_=>?_) ?_;· have q144_:=hs_.val 10;go_simp;exact fin_ hK_
            refine RV (fun A_ hs_ K_ hK_=>?_) ?_;· have q145_:=hs_.val 11;go_simp;exact fin_ hK_
            refine RV (fun A_ hs_ K_ hK_=>?_) ?_;· have q9_:=hs_.is 9 (.string (qs (P.bnd (yq t2))));go_simp;exact fin_ hK_
            refine RV (fun A_ hs_ K_ hK_=>?_) ?_;· have q147_:=hs_.val 13;go_simp;refine (p3_neg (P.bnd (yq t2)) _ (HG.out.ext hs_.mv.ext) (HBN.out.mono (by omega))).mono ?_;rintro e W9_ ⟨rfl,e9_⟩;exact hK_.out _ e9_
            refine RV (fun A_ hs_ K_ hK_=>?_) ?_;· have q3_:=hs_.is 3 (.pointer (some ⟨w.heap.size+1,0,none⟩));go_simp;exact fin_ hK_
            refine RV (fun A_ hs_ K_ hK_=>?_) ?_;· have q149_:=hs_.val 15;have c1_1:=(hs_.mv.blk HB1_7.out (fun h=>h)).cell 1 rfl;go_simp;exact fin_ hK_
            refine RV (fun A_ hs_ K_ hK_=>?_) ?_;· have q148_:=hs_.val 14;have q150_:=hs_.val 16;go_simp;exact fin_ hK_
            refine RV (fun A_ hs_ K_ hK_=>?_) ?_;· have q151_:=hs_.val 17;go_simp;exact fin_ hK_
            refine RV (fun A_ hs_ K_ hK_=>?_) ?_;· have q2_:=hs_.is 2 (.pointer (some ⟨w.heap.size,0,none⟩));go_simp;exact fin_ hK_
            refine RV (fun A_ hs_ K_ hK_=>?_) ?_;· have q153_:=hs_.val 19;have c0_2:=(hs_.mv.blk HB0_7.out (fun h=>h)).cell 2 rfl;go_simp;exact fin_ hK_
            refine RV (fun A_ hs_ K_ hK_=>?_) ?_;· have q3_:=hs_.is 3 (.pointer (some ⟨w.heap.size+1,0,none⟩));go_simp;exact fin_ hK_
            refine RV (fun A_ hs_ K_ hK_=>?_) ?_;· have q155_:=hs_.val 21;have c1_2:=(hs_.mv.blk HB1_7.out (fun h=>h)).cell 2 rfl;go_simp;exact fin_ hK_
            refine RV (fun A_ hs_ K_ hK_=>?_) ?_;· have q154_:=hs_.val 20;have q156_:=hs_.val 22;go_simp;refine (dot7_c _ _ P.n P.C (yq t1) _ (HG.out.ext hs_.mv.ext) (HPO.out.ext hs_.mv.ext) (HX1R.out.ext hs_.mv.ext) HQC.out HXQ.out (by omega) (by omega) (by omega)).mono ?_;rintro e W9_ ⟨rfl,e9_⟩;exact hK_.out _ e9_
            refine RV (fun A_ hs_ K_ hK_=>?_) ?_;· have q3_:=hs_.is 3 (.pointer (some ⟨w.heap.size+1,0,none⟩));go_simp;exact fin_ hK_
            refine RV (fun A_ hs_ K_ hK_=>?_) ?_;· have q158_:=hs_.val 24;have c1_1:=(hs_.mv.blk HB1_7.out (fun h=>h)).cell 1 rfl;go_simp;exact fin_ hK_
            refine RV (fun A_ hs_ K_ hK_=>?_) ?_;· have q157_:=hs_.val 23;have q159_:=hs_.val 25;go_simp;exact fin_ hK_
            refine RV (fun A_ hs_ K_ hK_=>?_) ?_;· have q152_:=hs_.val 18;have q160_:=hs_.val 26;go_simp;exact fin_ hK_
            refine RV (fun A_ hs_ K_ hK_=>?_) ?_;· have q146_:=hs_.val 12;have q161_:=hs_.val 27;go_simp;exact fin_ hK_
            refine RV (fun A_ hs_ K_ hK_=>?_) ?_;· have q142_:=hs_.val 8;have q162_:=hs_.val 28;go_simp;exact fin_ hK_
            exact RnEL.nil
           simp only [fse,Ke.value,puts,Act.put,List.setIfInBounds_toArray,List.set_cons_zero,List.set_cons_succ]
           have HX8:Hid (Ext w w8):=Hi33 hm_.ext
           have HB0_8:=Hi33 (hm_.blk HB0_7.out (fun h=>h))
           have HB1_8:=Hi33 (hm_.blk HB1_7.out (fun h=>h))
           have HBf_8:=Hi33 (hm_.blk HBf_7.out (fun h=>h))
           clear hm_ he_
           go_wp2
           go_ret
           exact ⟨by rw [vfy,if_neg (fun h=>h HEM.out),if_neg (show ¬ ((1:Int)=2) by decide),if_neg (fun h=>h HLE.out),if_neg HV.out,if_neg (show ¬ ((1:Int)=3) by decide),if_pos HRV.out,HBD.out,if_neg (show ¬ ((qs (-P.bnd (yq t2)),(0:Int)).2≠0) from fun h=>h rfl),if_neg (fun h=>h.elim (fun h=>h HB1_.out) (fun h=>h HB2_.out))];rfl,HX8.out⟩
          ·have z2:=tl_ne2 h2
           have HB2_:=Hi33 h2;clear h2
           go_wp2_with fail
           refine region_e [.val (.pointer (some ⟨w.heap.size+1,0,none⟩)),.val (.int .i64 1),.val (.bool false),.val (.bool false),.off,.off,.off,.val (.bool false),.val (.bool false),.val (.pointer (some ⟨w.heap.size+1,0,none⟩)),.val (.int .i64 1),.val (.bool true),.val (.bool true),.val (.string (qs (P.bnd (yq t2)))),.val (.string (qs (-P.bnd (yq t2)))),.val (.pointer (some ⟨w.heap.size+1,1,none⟩)),.val (.string val),.val (.bool false),.val (.bool false),.val (.pointer (some ⟨w.heap.size,2,none⟩)),.val (.slice co P.n ccap),.val (.pointer (some ⟨w.heap.size+1,2,none⟩)),.val (.slice o1 m1 c1),.val (.string (qs (P.obj (yq t1)))),.val (.pointer (some ⟨w.heap.size+1,1,none⟩)),.val (.string val),.val (.bool true),.val (.bool true),.val (.bool true),.val (.bool true)] (fun L g W=>True) (S:=fun _=>False) (by kernel_rfl) (by kernel_rfl) (by kernel_rfl) (Mv.refl HX7.out (fun k h=>h.elim)) ?_ ?_ ?_ ?_ (fun gv_ w8 hm_ he_=>?_)
           ·exact fun _=>trivial
           ·exact fun _ _ _ _ h _=>h
           ·exact fun _ _ _ _ _ _ h=>h
           ·skip
            refine RV (fun A_ hs_ K_ hK_=>?_) ?_;· have q3_:=hs_.is 3 (.pointer (some ⟨w.heap.size+1,0,none⟩));go_simp;exact fin_ hK_
            refine RV (fun A_ hs_ K_ hK_=>?_) ?_;· have q134_:=hs_.val 0;have c1_0:=(hs_.mv.blk HB1_7.out (fun h=>h)).cell 0 rfl;go_simp;exact fin_ hK_
            refine RV (fun A_ hs_ K_ hK_=>?_) ?_;· have q135_:=hs_.val 1;go_simp;exact fin_ hK_
            refine RV (fun A_ hs_ K_ hK_=>?_) ?_;· have q136_:=hs_.val 2;go_simp;exact fin_ hK_
            refine RO (RO (RO (RV (fun A_ hs_ K_ hK_=>?_) ?_)));· have q137_:=hs_.val 3;have q140_:=hs_.un 6;go_simp;exact fin_ hK_
            refine RV (fun A_ hs_ K_ hK_=>?_) ?_;· have q141_:=hs_.val 7;go_simp;exact fin_ hK_
            refine RV (fun A_ hs_ K_ hK_=>?_) ?_;· have q3_:=hs_.is 3 (.pointer (some ⟨w.heap.size+1,0,none⟩));go_simp;exact fin_ hK_
            refine RV (fun A_ hs_ K_ hK_=>?_) ?_;· have q143_:=hs_.val 9;have c1_0:=(hs_.mv.blk HB1_7.out (fun h=>h)).cell 0 rfl;go_simp;exact fin_ hK_
            refine RV (fun A_ hs_ K_ hK_=>?_) ?_;· have q144_:=hs_.val 10;go_simp;exact fin_ hK_
            refine RV (fun A_ hs_ K_ hK_=>?_) ?_;· have q145_:=hs_.val 11;go_simp;exact fin_ hK_
            refine RV (fun A_ hs_ K_ hK_=>?_) ?_;· have q9_:=hs_.is 9 (.string (qs (P.bnd (yq t2))));go_simp;exact fin_ hK_
            refine RV (fun A_ hs_ K_ hK_=>?_) ?_;· have q147_:=hs_.val 13;go_simp;refine (p3_neg (P.bnd (yq t2)) _ (HG.out.ext hs_.mv.ext) (HBN.out.mono (by omega))).mono ?_;rintro e W9_ ⟨rfl,e9_⟩;exact hK_.out _ e9_
            refine RV (fun A_ hs_ K_ hK_=>?_) ?_;· have q3_:=hs_.is 3 (.pointer (some ⟨w.heap.size+1,0,none⟩));go_simp;exact fin_ hK_
            refine RV (fun A_ hs_ K_ hK_=>?_) ?_;· have q149_:=hs_.val 15;have c1_1:=(hs_.mv.blk HB1_7.out (fun h=>h)).cell 1 rfl;go_simp;exact fin_ hK_
            refine RV (fun A_ hs_ K_ hK_=>?_) ?_;· have q148_:=hs_.val 14;have q150_:=hs_.val 16;go_simp;exact fin_ hK_
            refine RV (fun A_ hs_ K_ hK_=>?_) ?_;· have q151_:=hs_.val 17;go_simp;exact fin_ hK_
            refine RV (fun A_ hs_ K_ hK_=>?_) ?_;· have q2_:=hs_.is 2 (.pointer (some ⟨w.heap.size,0,none⟩));go_simp;exact fin_ hK_
            refine RV (fun A_ hs_ K_ hK_=>?_) ?_;· have q153_:=hs_.val 19;have c0_2:=(hs_.mv.blk HB0_7.out (fun h=>h)).cell 2 rfl;go_simp;exact fin_ hK_
            refine RV (fun A_ hs_ K_ hK_=>?_) ?_;· have q3_:=hs_.is 3 (.pointer (some ⟨w.heap.size+1,0,none⟩));go_simp;exact fin_ hK_
            refine RV (fun A_ hs_ K_ hK_=>?_) ?_;· have q155_:=hs_.val 21;have c1_2:=(hs_.mv.blk HB1_7.out (fun h=>h)).cell 2 rfl;go_simp;exact fin_ hK_
            refine RV (fun A_ hs_ K_ hK_=>?_) ?_;· have q154_:=hs_.val 20;have q156_:=hs_.val 22;go_simp;refine (dot7_c _ _ P.n P.C (yq t1) _ (HG.out.ext hs_.mv.ext) (HPO.out.ext hs_.mv.ext) (HX1R.out.ext hs_.mv.ext) HQC.out HXQ.out (by omega) (by omega) (by omega)).mono ?_;rintro e W9_ ⟨rfl,e9_⟩;exact hK_.out _ e9_
            refine RV (fun A_ hs_ K_ hK_=>?_) ?_;· have q3_:=hs_.is 3 (.pointer (some ⟨w.heap.size+1,0,none⟩));go_simp;exact fin_ hK_
            refine RV (fun A_ hs_ K_ hK_=>?_) ?_;· have q158_:=hs_.val 24;have c1_1:=(hs_.mv.blk HB1_7.out (fun h=>h)).cell 1 rfl;go_simp;exact fin_ hK_
            refine RV (fun A_ hs_ K_ hK_=>?_) ?_;· have q157_:=hs_.val 23;have q159_:=hs_.val 25;go_simp;exact fin_ hK_
            refine RV (fun A_ hs_ K_ hK_=>?_) ?_;· have q152_:=hs_.val 18;have q160_:=hs_.val 26;go_simp;exact fin_ hK_
            refine RV (fun A_ hs_ K_ hK_=>?_) ?_;· have q146_:=hs_.val 12;have q161_:=hs_.val 27;go_simp;exact fin_ hK_
            refine RV (fun A_ hs_ K_ hK_=>?_) ?_;· have q142_:=hs_.val 8;have q162_:=hs_.val 28;go_simp;exact fin_ hK_
            exact RnEL.nil
           simp only [fse,Ke.value,puts,Act.put,List.setIfInBounds_toArray,List.set_cons_zero,List.set_cons_succ]
           have HX8:Hid (Ext w w8):=Hi33 hm_.ext
           have HB0_8:=Hi33 (hm_.blk HB0_7.out (fun h=>h))
           have HB1_8:=Hi33 (hm_.blk HB1_7.out (fun h=>h))
           have HBf_8:=Hi33 (hm_.blk HBf_7.out (fun h=>h))
           clear hm_ he_
           go_wp2
           go_ret
           exact ⟨by rw [vfy,if_neg (fun h=>h HEM.out),if_neg (show ¬ ((1:Int)=2) by decide),if_neg (fun h=>h HLE.out),if_neg HV.out,if_neg (show ¬ ((1:Int)=3) by decide),if_pos HRV.out,HBD.out,if_neg (show ¬ ((qs (-P.bnd (yq t2)),(0:Int)).2≠0) from fun h=>h rfl),if_pos (Or.inr HB2_.out)];rfl,HX8.out⟩
         ·have z1:=tl_ne2 h1
          have HB1_:=Hi33 h1;clear h1
          go_wp2_with fail
          refine region_e [.val (.pointer (some ⟨w.heap.size+1,0,none⟩)),.val (.int .i64 1),.val (.bool false),.val (.bool false),.off,.off,.off,.val (.bool false),.val (.bool false),.val (.pointer (some ⟨w.heap.size+1,0,none⟩)),.val (.int .i64 1),.val (.bool true),.val (.bool true),.val (.string (qs (P.bnd (yq t2)))),.val (.string (qs (-P.bnd (yq t2)))),.val (.pointer (some ⟨w.heap.size+1,1,none⟩)),.val (.string val),.val (.bool true),.val (.bool true),.off,.off,.off,.off,.off,.off,.off,.off,.val (.bool true),.val (.bool true),.val (.bool true)] (fun L g W=>True) (S:=fun _=>False) (by kernel_rfl) (by kernel_rfl) (by kernel_rfl) (Mv.refl HX7.out (fun k h=>h.elim)) ?_ ?_ ?_ ?_ (fun gv_ w8 hm_ he_=>?_)
          ·exact fun _=>trivial
          ·exact fun _ _ _ _ h _=>h
          ·exact fun _ _ _ _ _ _ h=>h
          ·skip
           refine RV (fun A_ hs_ K_ hK_=>?_) ?_;· have q3_:=hs_.is 3 (.pointer (some ⟨w.heap.size+1,0,none⟩));go_simp;exact fin_ hK_
           refine RV (fun A_ hs_ K_ hK_=>?_) ?_;· have q134_:=hs_.val 0;have c1_0:=(hs_.mv.blk HB1_7.out (fun h=>h)).cell 0 rfl;go_simp;exact fin_ hK_
           refine RV (fun A_ hs_ K_ hK_=>?_) ?_;· have q135_:=hs_.val 1;go_simp;exact fin_ hK_
           refine RV (fun A_ hs_ K_ hK_=>?_) ?_;· have q136_:=hs_.val 2;go_simp;exact fin_ hK_
           refine RO (RO (RO (RV (fun A_ hs_ K_ hK_=>?_) ?_)));· have q137_:=hs_.val 3;have q140_:=hs_.un 6;go_simp;exact fin_ hK_
           refine RV (fun A_ hs_ K_ hK_=>?_) ?_;· have q141_:=hs_.val 7;go_simp;exact fin_ hK_
           refine RV (fun A_ hs_ K_ hK_=>?_) ?_;· have q3_:=hs_.is 3 (.pointer (some ⟨w.heap.size+1,0,none⟩));go_simp;exact fin_ hK_
           refine RV (fun A_ hs_ K_ hK_=>?_) ?_;· have q143_:=hs_.val 9;have c1_0:=(hs_.mv.blk HB1_7.out (fun h=>h)).cell 0 rfl;go_simp;exact fin_ hK_
           refine RV (fun A_ hs_ K_ hK_=>?_) ?_;· have q144_:=hs_.val 10;go_simp;exact fin_ hK_
           refine RV (fun A_ hs_ K_ hK_=>?_) ?_;· have q145_:=hs_.val 11;go_simp;exact fin_ hK_
           refine RV (fun A_ hs_ K_ hK_=>?_) ?_;· have q9_:=hs_.is 9 (.string (qs (P.bnd (yq t2))));go_simp;exact fin_ hK_
           refine RV (fun A_ hs_ K_ hK_=>?_) ?_;· have q147_:=hs_.val 13;go_simp;refine (p3_neg (P.bnd (yq t2)) _ (HG.out.ext hs_.mv.ext) (HBN.out.mono (by omega))).mono ?_;rintro e W9_ ⟨rfl,e9_⟩;exact hK_.out _ e9_
           refine RV (fun A_ hs_ K_ hK_=>?_) ?_;· have q3_:=hs_.is 3 (.pointer (some ⟨w.heap.size+1,0,none⟩));go_simp;exact fin_ hK_
           refine RV (fun A_ hs_ K_ hK_=>?_) ?_;· have q149_:=hs_.val 15;have c1_1:=(hs_.mv.blk HB1_7.out (fun h=>h)).cell 1 rfl;go_simp;exact fin_ hK_
           refine RV (fun A_ hs_ K_ hK_=>?_) ?_;· have q148_:=hs_.val 14;have q150_:=hs_.val 16;go_simp;exact fin_ hK_
           refine RV (fun A_ hs_ K_ hK_=>?_) ?_;· have q151_:=hs_.val 17;go_simp;exact fin_ hK_
           refine RO (RO (RO (RO (RO (RO (RO (RO (RV (fun A_ hs_ K_ hK_=>?_) ?_))))))));· have q152_:=hs_.val 18;have q160_:=hs_.un 26;go_simp;exact fin_ hK_
           refine RV (fun A_ hs_ K_ hK_=>?_) ?_;· have q146_:=hs_.val 12;have q161_:=hs_.val 27;go_simp;exact fin_ hK_
           refine RV (fun A_ hs_ K_ hK_=>?_) ?_;· have q142_:=hs_.val 8;have q162_:=hs_.val 28;go_simp;exact fin_ hK_
           exact RnEL.nil
          simp only [fse,Ke.value,puts,Act.put,List.setIfInBounds_toArray,List.set_cons_zero,List.set_cons_succ]
          have HX8:Hid (Ext w w8):=Hi33 hm_.ext
          have HB0_8:=Hi33 (hm_.blk HB0_7.out (fun h=>h))
          have HB1_8:=Hi33 (hm_.blk HB1_7.out (fun h=>h))
          have HBf_8:=Hi33 (hm_.blk HBf_7.out (fun h=>h))
          clear hm_ he_
          go_wp2
          go_ret
          exact ⟨by rw [vfy,if_neg (fun h=>h HEM.out),if_neg (show ¬ ((1:Int)=2) by decide),if_neg (fun h=>h HLE.out),if_neg HV.out,if_neg (show ¬ ((1:Int)=3) by decide),if_pos HRV.out,HBD.out,if_neg (show ¬ ((qs (-P.bnd (yq t2)),(0:Int)).2≠0) from fun h=>h rfl),if_pos (Or.inl HB1_.out)];rfl,HX8.out⟩
     ·have h3:rq val=false:=by simpa using hv
      have HRV:=Hi33 h3;have HRQ:=Hi33 hv;clear h3 hv
      have c1_0:=HB1_3.out.cell 0 rfl
      have c1_1:=HB1_3.out.cell 1 rfl
      go_wp2_with fail
      refine ((HRV.out▸r7_c val _ (HG.out.ext (HX3.out)) hvs)).mono ?_;rintro e w4 ⟨rfl,e4⟩
      have HX4:=Hi33 (HX3.out.trans e4)
      have HB0_4:=Hi33 (HB0_3.out.ext e4)
      have HB1_4:=Hi33 (HB1_3.out.ext e4)
      clear e4 c1_0 c1_1
      go_wp2
      go_ret
      exact ⟨by rw [vfy,if_neg (fun h=>h HEM.out),if_neg (show ¬ ((1:Int)=2) by decide),if_neg (fun h=>h HLE.out),if_neg HV.out,if_neg (show ¬ ((1:Int)=3) by decide),if_neg HRQ.out];rfl,HX4.out⟩
  ·have zm3:(0:Int)<(m3:Int):=by omega
   have c1_0:=HB1_1.out.cell 0 rfl
   have c1_4:=HB1_1.out.cell 4 rfl
   go_wp2
   go_ret
   exact ⟨by rw [vfy_e (e:=7) (by rw [emc,if_neg (by decide),if_pos (Or.inr (Or.inr (Or.inr ⟨by decide,by omega⟩)))]) (by decide)];rfl,HX1.out⟩
 ·go_upto_region 4 with fail
  refine wp_name (fun W=>Ext w W/\Blk W (w.heap.size) (#[.int .i64 (P.n:Int),.slice ro P.m rcap,.slice co P.n ccap]) 32/\Blk W (w.heap.size+1) (#[.int .i64 2,.string val,.slice o1 m1 c1,.slice o2 m2 c2,.slice o3 m3 c3]) 42) ⟨(((Ext.refl w).alloc _).alloc _),((Blk.nw (#[.int .i64 (P.n:Int),.slice ro P.m rcap,.slice co P.n ccap]) 32).alloc _),(Blk.nw (#[.int .i64 2,.string val,.slice o1 m1 c1,.slice o2 m2 c2,.slice o3 m3 c3]) 42)⟩ ?_
  rintro w1 ⟨e1,bB0_1,bB1_1⟩
  have HX1:=Hi33 e1;have HB0_1:=Hi33 bB0_1;have HB1_1:=Hi33 bB1_1
  have HGEB0:Hid (w.heap.size<=w.heap.size):=Hi33 (Nat.le_refl _)
  have HGEB1:Hid (w.heap.size<=w.heap.size+1):=Hi33 (by omega)
  clear e1 bB0_1 bB1_1
  by_cases hc:m3=0
  ·have zm3:¬ (0:Int)<(m3:Int):=by omega
   have nm3_:=Hi33 hc;clear hc
   by_cases hc:val=⟨#[]⟩
   ·have z1:(val.toList == [])=true:=by rw [hc,toList_data];rfl
    have nv_:=Hi33 hc;clear hc
    by_cases hc:m1=0
    ·have zm1:¬ (0:Int)<(m1:Int):=by omega
     have nm1_:=Hi33 hc;clear hc
     have HEM:Hid (emc 2 val m1 m2 m3=0):=Hi33 (by rw [emc,if_neg (by decide),if_neg (fun h=>h.elim (fun h=>absurd (nv_.out) (by exact h.2)) (fun h=>h.elim (fun h=>absurd (nm1_.out) (by have:=h.2;omega)) (fun h=>h.elim (fun h=>absurd h.1 (by decide)) (fun h=>absurd (nm3_.out) (by have:=h.2;omega)))))])
     have c1_0:=HB1_1.out.cell 0 rfl
     have c1_4:=HB1_1.out.cell 4 rfl
     have c1_1:=HB1_1.out.cell 1 rfl
     have c1_2:=HB1_1.out.cell 2 rfl
     go_upto_region 12 with fail
     clear c1_0 c1_4 c1_1 c1_2
     have c1_0:=HB1_1.out.cell 0 rfl
     go_upto_region 16 with fail
     clear c1_0
     by_cases hme:merr t2 m2 P.m≠0
     ·have hz2:¬ merr t2 m2 P.m=0:=hme
      have c0_1:=HB0_1.out.cell 1 rfl
      go_wp2_with fail
      refine (mult7_c (r:=r) (HG.out.ext (HX1.out)) (HT2.out.ext HX1.out) HS2.out HQ2.out hr2 hm2b).mono ?_;rintro e w2 ⟨rfl,e2⟩
      have HX2:=Hi33 (HX1.out.trans e2)
      have HB0_2:=Hi33 (HB0_1.out.ext e2)
      have HB1_2:=Hi33 (HB1_1.out.ext e2)
      clear e2 c0_1
      go_wp2
      go_ret
      exact ⟨by rw [vfy,if_neg (fun h=>h HEM.out),if_pos rfl,rfc,if_pos hme];rfl,HX2.out⟩
     ·have hme:=Classical.not_not.1 hme
      obtain ⟨em2_,hx_⟩:=merr_ok hme HQ2.out
      have HXY:=Hi33 hx_;clear hx_
      have HYR:Hid (Rq w (.slice o2 m2 c2) P.m (yq t2)):=Hi33 (em2_▸HT2.out.congr fun i hi=>by rw [← (HXY.out i hi).1])
      have HYQ:Hid (∀ j,j<P.m->QB r ((yq t2) j)):=Hi33 (fun j hj=>(HXY.out j (by omega)).2)
      have HM0:Hid (merr t2 m2 P.m=0):=Hi33 hme;have HBN:=Hi33 (sum_qb HQ2.out hme HQB.out (by omega));have HSC:=Hi33 (comb_qb HQ2.out hme HQA.out (by omega));clear hme em2_
      have c0_1:=HB0_1.out.cell 1 rfl
      go_wp2_with fail
      refine ((HM0.out▸mult7_c (r:=r) (HG.out.ext (HX1.out)) (HT2.out.ext HX1.out) HS2.out HQ2.out hr2 hm2b)).mono ?_;rintro e w2 ⟨rfl,e2⟩
      have HX2:=Hi33 (HX1.out.trans e2)
      have HB0_2:=Hi33 (HB0_1.out.ext e2)
      have HB1_2:=Hi33 (HB1_1.out.ext e2)
      clear e2 c0_1
      go_upto_region 19 with fail
      have c0_0:=HB0_2.out.cell 0 rfl
      have c0_1:=HB0_2.out.cell 1 rfl
      go_wp2_with fail
      refine (dual7_c P _ _ va q _ (HG.out.ext (HX2.out)) (HPM.out.ext HX2.out) _ (yq t2) r (HYR.out.ext HX2.out) HYQ.out hsz2 (by omega) HQP.out hn hm HQA.out HQB.out).mono ?_;rintro e w3 ⟨vf,rfl,e3,hnq⟩
      have HX3:=Hi33 (HX2.out.trans e3)
      have HB0_3:=Hi33 (HB0_2.out.ext e3)
      have HB1_3:=Hi33 (HB1_2.out.ext e3)
      clear e3 c0_0 c0_1
      obtain ⟨fk,CF,rfl,gf_,bf_,cf_⟩:=hnq
      have HCF:=Hi33 cf_;have HBF0:=Hi33 bf_;clear gf_ bf_ cf_
      go_wp2_with fail
      go_loopw [10] (fun x0_ wx=>∃ k:Nat,x0_ = .int .i64 k/\k<=P.n/\Hid (∀ j,j<k->P.comb (yq t2) j=0)/\Hid (Ext w wx/\Blk wx (w.heap.size) (#[.int .i64 (P.n:Int),.slice ro P.m rcap,.slice co P.n ccap]) 32/\Blk wx (w.heap.size+1) (#[.int .i64 2,.string val,.slice o1 m1 c1,.slice o2 m2 c2,.slice o3 m3 c3]) 42/\Blk wx (fk) (CF) 34)) (fun x0_ _=>P.n-(intOf x0_).toNat)
      case atStart=>exact ⟨0,rfl,Nat.zero_le _,Hi33 ((fun j hj=>absurd hj (Nat.not_lt_zero j))),Hi33 ⟨HX3.out,HB0_3.out,HB1_3.out,HBF0.out⟩⟩
      case round =>
       rename World=>w4
       obtain ⟨k,rfl,hkk,HGk,HH⟩:=hrel
       have HX4:=Hi33 HH.out.1
       have HB0_4:=Hi33 HH.out.2.1
       have HB1_4:=Hi33 HH.out.2.2.1
       have HBf_4:=Hi33 HH.out.2.2.2
       clear HH
       by_cases hlt:k<P.n
       ·have hlt2:(k:Int)<((P.n:Nat):Int):=by omega
        obtain ⟨ca,rfl,zc_⟩:=HOO.out k hlt
        have HCc:=Hi33 zc_;clear zc_
        have c0_0:=HB0_4.out.cell 0 rfl
        have c1_0:=HB1_4.out.cell 0 rfl
        go_upto_region 26 with fail
        clear c0_0 c1_0
        by_cases hz:P.comb (yq t2) k=0
        ·have z1:=qs_is0 hz
         have HZ:=Hi33 hz;clear hz
         have cf_k:=HBf_4.out.cell (k) (HCF.out k hlt)
         go_wp2_with fail
         go_roundw
         case rel=>exact ⟨k+1,by go_num,by omega,Hi33 (gh_eq HZ.out HGk.out),Hi33 ⟨HX4.out,HB0_4.out,HB1_4.out,HBf_4.out⟩⟩
         case measure=>simp [intOf];omega
        ·have z1:=qs_not0 hz
         have HZ:=Hi33 hz;clear hz
         have cf_k:=HBf_4.out.cell (k) (HCF.out k hlt)
         go_wp2
         go_ret
         exact ⟨by rw [vfy,if_neg (fun h=>h HEM.out),if_pos rfl,rfc,if_neg (fun h=>h HM0.out),if_neg (fun h=>HZ.out (h.2 k hlt))];rfl,HX4.out⟩
       ·have hk2:k=P.n:=by omega
        have hge:¬ (k:Int)<((P.n:Nat):Int):=by omega
        have c0_0:=HB0_4.out.cell 0 rfl
        go_upto_region 28 with fail
        clear c0_0
        rcases sgn3 (P.bnd (yq t2)) with ⟨h1,h2⟩|⟨h1,h2⟩|⟨h1,h2⟩
        ·have HSG:=Hi33 h1;clear h1
         go_wp2_with fail
         refine region_e [.val (.pointer (some ⟨w.heap.size+1,0,none⟩)),.val (.int .i64 2),.val (.bool true),.val (.bool true),.val (.string (qs (P.bnd (yq t2)))),.val (.int .i64 (-1)),.val (.bool false),.val (.bool false),.val (.bool false),.val (.pointer (some ⟨w.heap.size+1,0,none⟩)),.val (.int .i64 2),.val (.bool false),.val (.bool false),.off,.off,.off,.off,.off,.off,.off,.off,.off,.off,.off,.off,.off,.off,.off,.val (.bool false),.val (.bool false)] (fun L g W=>True) (S:=fun _=>False) (by kernel_rfl) (by kernel_rfl) (by kernel_rfl) (Mv.refl HX4.out (fun k h=>h.elim)) ?_ ?_ ?_ ?_ (fun gv_ w5 hm_ he_=>?_)
         ·exact fun _=>trivial
         ·exact fun _ _ _ _ h _=>h
         ·exact fun _ _ _ _ _ _ h=>h
         ·skip
          refine RV (fun A_ hs_ K_ hK_=>?_) ?_;· have q3_:=hs_.is 3 (.pointer (some ⟨w.heap.size+1,0,none⟩));go_simp;exact fin_ hK_
          refine RV (fun A_ hs_ K_ hK_=>?_) ?_;· have q134_:=hs_.val 0;have c1_0:=(hs_.mv.blk HB1_4.out (fun h=>h)).cell 0 rfl;go_simp;exact fin_ hK_
          refine RV (fun A_ hs_ K_ hK_=>?_) ?_;· have q135_:=hs_.val 1;go_simp;exact fin_ hK_
          refine RV (fun A_ hs_ K_ hK_=>?_) ?_;· have q136_:=hs_.val 2;go_simp;exact fin_ hK_
          refine RV (fun A_ hs_ K_ hK_=>?_) ?_;· have q9_:=hs_.is 9 (.string (qs (P.bnd (yq t2))));go_simp;exact fin_ hK_
          refine RV (fun A_ hs_ K_ hK_=>?_) ?_;· have q138_:=hs_.val 4;go_simp;refine ((HSG.out▸sg7_c (P.bnd (yq t2)) _ (HG.out.ext hs_.mv.ext) (HBN.out.mono (by omega)))).mono ?_;rintro e W9_ ⟨rfl,e9_⟩;exact hK_.out _ e9_
          refine RV (fun A_ hs_ K_ hK_=>?_) ?_;· have q139_:=hs_.val 5;go_simp;exact fin_ hK_
          refine RV (fun A_ hs_ K_ hK_=>?_) ?_;· have q137_:=hs_.val 3;have q140_:=hs_.val 6;go_simp;exact fin_ hK_
          refine RV (fun A_ hs_ K_ hK_=>?_) ?_;· have q141_:=hs_.val 7;go_simp;exact fin_ hK_
          refine RV (fun A_ hs_ K_ hK_=>?_) ?_;· have q3_:=hs_.is 3 (.pointer (some ⟨w.heap.size+1,0,none⟩));go_simp;exact fin_ hK_
          refine RV (fun A_ hs_ K_ hK_=>?_) ?_;· have q143_:=hs_.val 9;have c1_0:=(hs_.mv.blk HB1_4.out (fun h=>h)).cell 0 rfl;go_simp;exact fin_ hK_
          refine RV (fun A_ hs_ K_ hK_=>?_) ?_;· have q144_:=hs_.val 10;go_simp;exact fin_ hK_
          refine RV (fun A_ hs_ K_ hK_=>?_) ?_;· have q145_:=hs_.val 11;go_simp;exact fin_ hK_
          refine RO (RO (RO (RO (RO (RO (RO (RO (RO (RO (RO (RO (RO (RO (RO (RV (fun A_ hs_ K_ hK_=>?_) ?_)))))))))))))));· have q146_:=hs_.val 12;have q161_:=hs_.un 27;go_simp;exact fin_ hK_
          refine RV (fun A_ hs_ K_ hK_=>?_) ?_;· have q142_:=hs_.val 8;have q162_:=hs_.val 28;go_simp;exact fin_ hK_
          exact RnEL.nil
         simp only [fse,Ke.value,puts,Act.put,List.setIfInBounds_toArray,List.set_cons_zero,List.set_cons_succ]
         have HX5:Hid (Ext w w5):=Hi33 hm_.ext
         have HB0_5:=Hi33 (hm_.blk HB0_4.out (fun h=>h))
         have HB1_5:=Hi33 (hm_.blk HB1_4.out (fun h=>h))
         have HBf_5:=Hi33 (hm_.blk HBf_4.out (fun h=>h))
         clear hm_ he_
         go_wp2
         go_ret
         exact ⟨by rw [vfy,if_neg (fun h=>h HEM.out),if_pos rfl,rfc,if_neg (fun h=>h HM0.out),if_pos ⟨h2,fun j hj=>HGk.out j (by omega)⟩];rfl,HX5.out⟩
        ·have HSG:=Hi33 h1;clear h1
         go_wp2_with fail
         refine region_e [.val (.pointer (some ⟨w.heap.size+1,0,none⟩)),.val (.int .i64 2),.val (.bool true),.val (.bool true),.val (.string (qs (P.bnd (yq t2)))),.val (.int .i64 0),.val (.bool true),.val (.bool true),.val (.bool true),.off,.off,.off,.off,.off,.off,.off,.off,.off,.off,.off,.off,.off,.off,.off,.off,.off,.off,.off,.off,.val (.bool true)] (fun L g W=>True) (S:=fun _=>False) (by kernel_rfl) (by kernel_rfl) (by kernel_rfl) (Mv.refl HX4.out (fun k h=>h.elim)) ?_ ?_ ?_ ?_ (fun gv_ w5 hm_ he_=>?_)
         ·exact fun _=>trivial
         ·exact fun _ _ _ _ h _=>h
         ·exact fun _ _ _ _ _ _ h=>h
         ·skip
          refine RV (fun A_ hs_ K_ hK_=>?_) ?_;· have q3_:=hs_.is 3 (.pointer (some ⟨w.heap.size+1,0,none⟩));go_simp;exact fin_ hK_
          refine RV (fun A_ hs_ K_ hK_=>?_) ?_;· have q134_:=hs_.val 0;have c1_0:=(hs_.mv.blk HB1_4.out (fun h=>h)).cell 0 rfl;go_simp;exact fin_ hK_
          refine RV (fun A_ hs_ K_ hK_=>?_) ?_;· have q135_:=hs_.val 1;go_simp;exact fin_ hK_
          refine RV (fun A_ hs_ K_ hK_=>?_) ?_;· have q136_:=hs_.val 2;go_simp;exact fin_ hK_
          refine RV (fun A_ hs_ K_ hK_=>?_) ?_;· have q9_:=hs_.is 9 (.string (qs (P.bnd (yq t2))));go_simp;exact fin_ hK_
          refine RV (fun A_ hs_ K_ hK_=>?_) ?_;· have q138_:=hs_.val 4;go_simp;refine ((HSG.out▸sg7_c (P.bnd (yq t2)) _ (HG.out.ext hs_.mv.ext) (HBN.out.mono (by omega)))).mono ?_;rintro e W9_ ⟨rfl,e9_⟩;exact hK_.out _ e9_
          refine RV (fun A_ hs_ K_ hK_=>?_) ?_;· have q139_:=hs_.val 5;go_simp;exact fin_ hK_
          refine RV (fun A_ hs_ K_ hK_=>?_) ?_;· have q137_:=hs_.val 3;have q140_:=hs_.val 6;go_simp;exact fin_ hK_
          refine RV (fun A_ hs_ K_ hK_=>?_) ?_;· have q141_:=hs_.val 7;go_simp;exact fin_ hK_
          refine RO (RO (RO (RO (RO (RO (RO (RO (RO (RO (RO (RO (RO (RO (RO (RO (RO (RO (RO (RO (RV (fun A_ hs_ K_ hK_=>?_) ?_))))))))))))))))))));· have q142_:=hs_.val 8;have q162_:=hs_.un 28;go_simp;exact fin_ hK_
          exact RnEL.nil
         simp only [fse,Ke.value,puts,Act.put,List.setIfInBounds_toArray,List.set_cons_zero,List.set_cons_succ]
         have HX5:Hid (Ext w w5):=Hi33 hm_.ext
         have HB0_5:=Hi33 (hm_.blk HB0_4.out (fun h=>h))
         have HB1_5:=Hi33 (hm_.blk HB1_4.out (fun h=>h))
         have HBf_5:=Hi33 (hm_.blk HBf_4.out (fun h=>h))
         clear hm_ he_
         go_wp2
         go_ret
         exact ⟨by rw [vfy,if_neg (fun h=>h HEM.out),if_pos rfl,rfc,if_neg (fun h=>h HM0.out),if_neg (fun h=>h2 h.1)];rfl,HX5.out⟩
        ·have HSG:=Hi33 h1;clear h1
         go_wp2_with fail
         refine region_e [.val (.pointer (some ⟨w.heap.size+1,0,none⟩)),.val (.int .i64 2),.val (.bool true),.val (.bool true),.val (.string (qs (P.bnd (yq t2)))),.val (.int .i64 1),.val (.bool true),.val (.bool true),.val (.bool true),.off,.off,.off,.off,.off,.off,.off,.off,.off,.off,.off,.off,.off,.off,.off,.off,.off,.off,.off,.off,.val (.bool true)] (fun L g W=>True) (S:=fun _=>False) (by kernel_rfl) (by kernel_rfl) (by kernel_rfl) (Mv.refl HX4.out (fun k h=>h.elim)) ?_ ?_ ?_ ?_ (fun gv_ w5 hm_ he_=>?_)
         ·exact fun _=>trivial
         ·exact fun _ _ _ _ h _=>h
         ·exact fun _ _ _ _ _ _ h=>h
         ·skip
          refine RV (fun A_ hs_ K_ hK_=>?_) ?_;· have q3_:=hs_.is 3 (.pointer (some ⟨w.heap.size+1,0,none⟩));go_simp;exact fin_ hK_
          refine RV (fun A_ hs_ K_ hK_=>?_) ?_;· have q134_:=hs_.val 0;have c1_0:=(hs_.mv.blk HB1_4.out (fun h=>h)).cell 0 rfl;go_simp;exact fin_ hK_
          refine RV (fun A_ hs_ K_ hK_=>?_) ?_;· have q135_:=hs_.val 1;go_simp;exact fin_ hK_
          refine RV (fun A_ hs_ K_ hK_=>?_) ?_;· have q136_:=hs_.val 2;go_simp;exact fin_ hK_
          refine RV (fun A_ hs_ K_ hK_=>?_) ?_;· have q9_:=hs_.is 9 (.string (qs (P.bnd (yq t2))));go_simp;exact fin_ hK_
          refine RV (fun A_ hs_ K_ hK_=>?_) ?_;· have q138_:=hs_.val 4;go_simp;refine ((HSG.out▸sg7_c (P.bnd (yq t2)) _ (HG.out.ext hs_.mv.ext) (HBN.out.mono (by omega)))).mono ?_;rintro e W9_ ⟨rfl,e9_⟩;exact hK_.out _ e9_
          refine RV (fun A_ hs_ K_ hK_=>?_) ?_;· have q139_:=hs_.val 5;go_simp;exact fin_ hK_
          refine RV (fun A_ hs_ K_ hK_=>?_) ?_;· have q137_:=hs_.val 3;have q140_:=hs_.val 6;go_simp;exact fin_ hK_
          refine RV (fun A_ hs_ K_ hK_=>?_) ?_;· have q141_:=hs_.val 7;go_simp;exact fin_ hK_
          refine RO (RO (RO (RO (RO (RO (RO (RO (RO (RO (RO (RO (RO (RO (RO (RO (RO (RO (RO (RO (RV (fun A_ hs_ K_ hK_=>?_) ?_))))))))))))))))))));· have q142_:=hs_.val 8;have q162_:=hs_.un 28;go_simp;exact fin_ hK_
          exact RnEL.nil
         simp only [fse,Ke.value,puts,Act.put,List.setIfInBounds_toArray,List.set_cons_zero,List.set_cons_succ]
         have HX5:Hid (Ext w w5):=Hi33 hm_.ext
         have HB0_5:=Hi33 (hm_.blk HB0_4.out (fun h=>h))
         have HB1_5:=Hi33 (hm_.blk HB1_4.out (fun h=>h))
         have HBf_5:=Hi33 (hm_.blk HBf_4.out (fun h=>h))
         clear hm_ he_
         go_wp2
         go_ret
         exact ⟨by rw [vfy,if_neg (fun h=>h HEM.out),if_pos rfl,rfc,if_neg (fun h=>h HM0.out),if_neg (fun h=>h2 h.1)];rfl,HX5.out⟩
    ·have zm1:(0:Int)<(m1:Int):=by omega
     have c1_0:=HB1_1.out.cell 0 rfl
     have c1_4:=HB1_1.out.cell 4 rfl
     have c1_1:=HB1_1.out.cell 1 rfl
     have c1_2:=HB1_1.out.cell 2 rfl
     go_wp2
     go_ret
     exact ⟨by rw [vfy_e (e:=7) (by rw [emc,if_neg (by decide),if_pos (Or.inr (Or.inl ⟨rfl,by omega⟩))]) (by decide)];rfl,HX1.out⟩
   ·have z1:(val.toList == [])=false:=tl_ne hc
    have c1_0:=HB1_1.out.cell 0 rfl
    have c1_4:=HB1_1.out.cell 4 rfl
    have c1_1:=HB1_1.out.cell 1 rfl
    go_wp2
    go_ret
    exact ⟨by rw [vfy_e (e:=7) (by rw [emc,if_neg (by decide),if_pos (Or.inl ⟨by decide,hc⟩)]) (by decide)];rfl,HX1.out⟩
  ·have zm3:(0:Int)<(m3:Int):=by omega
   have c1_0:=HB1_1.out.cell 0 rfl
   have c1_4:=HB1_1.out.cell 4 rfl
   go_wp2
   go_ret
   exact ⟨by rw [vfy_e (e:=7) (by rw [emc,if_neg (by decide),if_pos (Or.inr (Or.inr (Or.inr ⟨by decide,by omega⟩)))]) (by decide)];rfl,HX1.out⟩
 ·go_upto_region 4 with fail
  refine wp_name (fun W=>Ext w W/\Blk W (w.heap.size) (#[.int .i64 (P.n:Int),.slice ro P.m rcap,.slice co P.n ccap]) 32/\Blk W (w.heap.size+1) (#[.int .i64 3,.string val,.slice o1 m1 c1,.slice o2 m2 c2,.slice o3 m3 c3]) 42) ⟨(((Ext.refl w).alloc _).alloc _),((Blk.nw (#[.int .i64 (P.n:Int),.slice ro P.m rcap,.slice co P.n ccap]) 32).alloc _),(Blk.nw (#[.int .i64 3,.string val,.slice o1 m1 c1,.slice o2 m2 c2,.slice o3 m3 c3]) 42)⟩ ?_
  rintro w1 ⟨e1,bB0_1,bB1_1⟩
  have HX1:=Hi33 e1;have HB0_1:=Hi33 bB0_1;have HB1_1:=Hi33 bB1_1
  have HGEB0:Hid (w.heap.size<=w.heap.size):=Hi33 (Nat.le_refl _)
  have HGEB1:Hid (w.heap.size<=w.heap.size+1):=Hi33 (by omega)
  clear e1 bB0_1 bB1_1
  by_cases hc:val=⟨#[]⟩
  ·have z1:(val.toList == [])=true:=by rw [hc,toList_data];rfl
   have nv_:=Hi33 hc;clear hc
   by_cases hc:m2=0
   ·have zm2:¬ (0:Int)<(m2:Int):=by omega
    have nm2_:=Hi33 hc;clear hc
    have HEM:Hid (emc 3 val m1 m2 m3=0):=Hi33 (by rw [emc,if_neg (by decide),if_neg (fun h=>h.elim (fun h=>absurd (nv_.out) (by exact h.2)) (fun h=>h.elim (fun h=>absurd h.1 (by decide)) (fun h=>h.elim (fun h=>absurd (nm2_.out) (by have:=h.2;omega)) (fun h=>h.1 rfl))))])
    have c1_0:=HB1_1.out.cell 0 rfl
    have c1_1:=HB1_1.out.cell 1 rfl
    go_upto_region 7 with fail
    clear c1_0 c1_1
    by_cases hle:lerr t1 m1 P.n≠0
    ·have hz2:¬ lerr t1 m1 P.n=0:=hle
     have c1_2:=HB1_1.out.cell 2 rfl
     have c0_0:=HB0_1.out.cell 0 rfl
     go_wp2_with fail
     refine (list7_c (HG.out.ext (HX1.out)) (HT1.out.ext HX1.out) HS1.out hm1).mono ?_;rintro e w2 ⟨rfl,e2⟩
     have HX2:=Hi33 (HX1.out.trans e2)
     have HB0_2:=Hi33 (HB0_1.out.ext e2)
     have HB1_2:=Hi33 (HB1_1.out.ext e2)
     clear e2 c1_2 c0_0
     go_wp2
     go_ret
     exact ⟨by rw [vfy,if_neg (fun h=>h HEM.out),if_neg (show ¬ ((3:Int)=2) by decide),if_pos hle];rfl,HX2.out⟩
    ·have hle:=Classical.not_not.1 hle
     obtain ⟨em1_,hx_⟩:=lerr_ok hle HQ1.out
     have HX_:=Hi33 hx_;clear hx_
     have HX1R:Hid (Rq w (.slice o1 m1 c1) P.n (yq t1)):=Hi33 (em1_▸HT1.out.congr fun i hi=>by rw [← (HX_.out i hi).1])
     have HXQ:Hid (∀ j,j<P.n->QB r ((yq t1) j)):=Hi33 (fun j hj=>(HX_.out j (by omega)).2)
     have HLE:Hid (lerr t1 m1 P.n=0):=Hi33 hle;clear hle em1_
     have c1_2:=HB1_1.out.cell 2 rfl
     have c0_0:=HB0_1.out.cell 0 rfl
     go_wp2_with fail
     refine ((HLE.out▸list7_c (HG.out.ext (HX1.out)) (HT1.out.ext HX1.out) HS1.out hm1)).mono ?_;rintro e w2 ⟨rfl,e2⟩
     have HX2:=Hi33 (HX1.out.trans e2)
     have HB0_2:=Hi33 (HB0_1.out.ext e2)
     have HB1_2:=Hi33 (HB1_1.out.ext e2)
     clear e2 c1_2 c0_0
     go_upto_region 10 with fail
     have c0_1:=HB0_2.out.cell 1 rfl
     have c1_2:=HB1_2.out.cell 2 rfl
     go_wp2_with fail
     refine (viol7_c P _ _ va q _ (HG.out.ext (HX2.out)) (HPM.out.ext HX2.out) _ (yq t1) r (HX1R.out.ext HX2.out) HXQ.out hsz hqr HQP.out hn hm HQA.out HQB.out).mono ?_;rintro e w3 ⟨v_,rfl,e3,fl_⟩
     have HX3:=Hi33 (HX2.out.trans e3)
     have HB0_3:=Hi33 (HB0_2.out.ext e3)
     have HB1_3:=Hi33 (HB1_2.out.ext e3)
     clear e3 c0_1 c1_2
     obtain ⟨la,lc,rfl⟩:=fl_.lsl;clear fl_
     by_cases hv:0<(fil (vio P (yq t1)) P.m).length
     ·have hz2:(0:Int)<(((fil (vio P (yq t1)) P.m).length:Nat):Int):=by omega
      go_wp2
      go_ret
      exact ⟨by rw [vfy,if_neg (fun h=>h HEM.out),if_neg (show ¬ ((3:Int)=2) by decide),if_neg (fun h=>h HLE.out),if_pos hv];rfl,HX3.out⟩
     ·have hz2:¬ (0:Int)<(((fil (vio P (yq t1)) P.m).length:Nat):Int):=by omega
      have HV:=Hi33 hv;clear hv
      go_upto_region 12 with fail
      have c1_0:=HB1_3.out.cell 0 rfl
      have c0_0:=HB0_3.out.cell 0 rfl
      have c0_1:=HB0_3.out.cell 1 rfl
      have c0_2:=HB0_3.out.cell 2 rfl
      have c1_4:=HB1_3.out.cell 4 rfl
      go_wp2_with fail
      refine (ray7_c P _ _ va q _ (HG.out.ext (HX3.out)) (HPM.out.ext HX3.out) _ m3 t3 r (HT3.out.ext HX3.out) HS3.out hm3 HQ3.out hr2 (by omega) HQC.out (by omega) HQP.out hn hm hq1 hq2 HQA.out).mono ?_;rintro e w4 ⟨rfl,e4⟩
      have HX4:=Hi33 (HX3.out.trans e4)
      have HB0_4:=Hi33 (HB0_3.out.ext e4)
      have HB1_4:=Hi33 (HB1_3.out.ext e4)
      clear e4 c1_0 c0_0 c0_1 c0_2 c1_4
      go_wp2
      go_ret
      exact ⟨by rw [vfy,if_neg (fun h=>h HEM.out),if_neg (show ¬ ((3:Int)=2) by decide),if_neg (fun h=>h HLE.out),if_neg HV.out,if_pos rfl];rfl,HX4.out⟩
   ·have zm2:(0:Int)<(m2:Int):=by omega
    have c1_0:=HB1_1.out.cell 0 rfl
    have c1_1:=HB1_1.out.cell 1 rfl
    go_wp2
    go_ret
    exact ⟨by rw [vfy_e (e:=7) (by rw [emc,if_neg (by decide),if_pos (Or.inr (Or.inr (Or.inl ⟨rfl,by omega⟩)))]) (by decide)];rfl,HX1.out⟩
  ·have z1:(val.toList == [])=false:=tl_ne hc
   have c1_0:=HB1_1.out.cell 0 rfl
   have c1_1:=HB1_1.out.cell 1 rfl
   go_wp2
   go_ret
   exact ⟨by rw [vfy_e (e:=7) (by rw [emc,if_neg (by decide),if_pos (Or.inl ⟨by decide,hc⟩)]) (by decide)];rfl,HX1.out⟩
section
variable {P:LP} {q:Nat}
theorem yq_qs (x:Nat->Rat):yq (fun j=>qs (x j))=x:=by funext j;exact qv_qs (x j)
theorem lerr_qs {x:Nat->Rat} {n:Nat} (h:∀ j,j<n->QB 200 (x j)):lerr (fun j=>qs (x j)) n n=0:=by
 rw [lerr,if_neg (fun h=>h rfl),if_neg]
 rw [Bool.not_eq_true,any_false];intro i hi;rw [rq_qs (h i hi)];rfl
theorem merr_qs {y:Nat->Rat} {m:Nat} (h:∀ i,i<m->QB 200 (y i)) (hp:∀ i,i<m->0<=y i):merr (fun j=>qs (y j)) m m=0:=by
 rw [merr,if_neg (fun h'=>h' (lerr_qs h)),yq_qs,if_neg]
 rw [Bool.not_eq_true,any_false];intro i hi
 have:=hp i hi
 exact decide_eq_false (by grind)
theorem fil_nil {is:Nat->Bool} {n:Nat} (h:∀ i,i<n->is i=false):(fil is n).length=0:=by
 rw [List.length_eq_zero_iff,fil,List.filter_eq_nil_iff]
 intro i hi;rw [h i (List.mem_range.1 hi)];decide
theorem vio_feas {x:Nat->Rat} (h:P.feas x):∀ i,i<P.m->vio P x i=false:=fun i hi=>decide_eq_false (by have:=h i hi;grind)
theorem vfy_best {v:Rat} {x y:Nat->Rat} {t3:Nat->ByteArray} (h:Best P v x y) (hx:∀ j,j<P.n->QB q (x j)) (hy:∀ i,i<P.m->QB q (y i)) (hv:QB q v) (hq:q<=200) :
    vfy P 1 (qs v) (fun j=>qs (x j)) P.n (fun i=>qs (y i)) P.m t3 0=0:=by
 have he:emc 1 (qs v) P.n P.m 0=0:=by
  rw [emc,if_neg (by decide),if_neg]
  rintro (h|h|h|h)
  ·exact h.1 rfl
  ·exact absurd h.1 (by decide)
  ·exact absurd h.1 (by decide)
  ·exact absurd h.2 (by decide)
 have hb:bdc P (fun i=>qs (y i)) P.m=(qs v,0):=by
  rw [bdc,if_neg (fun h'=>h' (merr_qs (fun i hi=>(hy i hi).mono hq) h.pos)),yq_qs,if_pos h.comb,h.bnd]
  rw [show - -v=v by grind]
 rw [vfy,if_neg (fun h'=>h' he),if_neg (by decide),if_neg (fun h'=>h' (lerr_qs fun j hj=>(hx j hj).mono hq)),yq_qs,fil_nil (vio_feas h.feas),if_neg (by decide),if_neg (by decide),if_pos (rq_qs (hv.mono hq)),hb,if_neg (fun h'=>h' rfl),if_neg]
 rintro (h'|h')
 ·exact h' rfl
 ·exact h' (by rw [h.worth])
theorem vfy_inf {y:Nat->Rat} {t1 t3:Nat->ByteArray} (h:Refutes P y) (hy:∀ i,i<P.m->QB q (y i)) (hq:q<=200):vfy P 2 ⟨#[]⟩ t1 0 (fun i=>qs (y i)) P.m t3 0=0:=by
 have he:emc 2 ⟨#[]⟩ 0 P.m 0=0:=by
  rw [emc,if_neg (by decide),if_neg]
  rintro (h|h|h|h)
  ·exact h.2 rfl
  ·exact absurd h.2 (by decide)
  ·exact absurd h.1 (by decide)
  ·exact absurd h.2 (by decide)
 rw [vfy,if_neg (fun h'=>h' he),if_pos rfl,rfc,if_neg (fun h'=>h' (merr_qs (fun i hi=>(hy i hi).mono hq) h.pos)),yq_qs,if_pos ⟨h.neg,h.comb⟩]
theorem vfy_fall {x d:Nat->Rat} {t2:Nat->ByteArray} (h:Falls P x d) (hx:∀ j,j<P.n->QB q (x j)) (hd:∀ j,j<P.n->QB q (d j)) (hq:q<=200):vfy P 3 ⟨#[]⟩ (fun j=>qs (x j)) P.n t2 0 (fun j=>qs (d j)) P.n=0:=by
 have he:emc 3 ⟨#[]⟩ P.n 0 P.n=0:=by
  rw [emc,if_neg (by decide),if_neg]
  rintro (h|h|h|h)
  ·exact h.2 rfl
  ·exact absurd h.1 (by decide)
  ·exact absurd h.2 (by decide)
  ·exact h.1 rfl
 rw [vfy,if_neg (fun h'=>h' he),if_neg (by decide),if_neg (fun h'=>h' (lerr_qs fun j hj=>(hx j hj).mono hq)),yq_qs,fil_nil (vio_feas h.feas),if_neg (by decide),if_pos rfl,fac,if_neg (fun h'=>h' (lerr_qs fun j hj=>(hd j hj).mono hq)),yq_qs,if_pos ⟨h.worth,fun k hk=>h.row k hk⟩]
end
end Go.Proofs.YtcenemaadnlknaaGreatDoor
