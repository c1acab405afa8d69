/- Part 32 of the proof: M5. -/
import Derived.Test.YtjeimihnoiephaaGreatDoorQZ30
set_option maxRecDepth 100000
namespace Go.Proofs.YtjeimihnoiephaaGreatDoor
open Go Go.RowKit
set_option linter.unusedVariables false
set_option maxRecDepth 100000
theorem k17_0 (w:World) (g:Gd w):Calls Tryz.prog 18 #[.int .i64 1,.int .i64 1] w (Ret w (.string ⟨#[49]⟩)):=by
  have h:=fqof1_c (1) w g (by decide) (by decide)
  exact Eq.mp (by kernel_rfl) h

theorem k17_1 (w:World) (g:Gd w):Calls Tryz.prog 18 #[.int .i64 0,.int .i64 1] w (Ret w (.string ⟨#[48]⟩)):=by
  have h:=fqof1_c (0) w g (by decide) (by decide)
  exact Eq.mp (by kernel_rfl) h

theorem k17_2 (w:World) (g:Gd w):Calls Tryz.prog 18 #[.int .i64 (-3),.int .i64 1] w (Ret w (.string ⟨#[45,51]⟩)):=by
  have h:=fqof1_c (-3) w g (by decide) (by decide)
  exact Eq.mp (by kernel_rfl) h

theorem k17_3 (w:World) (g:Gd w):Calls Tryz.prog 18 #[.int .i64 4,.int .i64 1] w (Ret w (.string ⟨#[52]⟩)):=by
  have h:=fqof1_c (4) w g (by decide) (by decide)
  exact Eq.mp (by kernel_rfl) h

theorem k17_4 (w:World) (g:Gd w):Calls Tryz.prog 41 #[.agg #[.int .i64 1,.int .i64 0,.int .i64 0,.int .i64 1]] w (Ret w (.int .i64 0)):=by
  have h:=rchk_l (t:=⟨1,0,0,1⟩) w g (.ok ⟨by decide,by decide,by decide,by decide⟩ (by rintro ⟨h,_⟩;exact absurd h (by decide)):QErr ⟨1,0,0,1⟩ 0)
  exact Eq.mp (by kernel_rfl) h

theorem k17_5 (w:World) (g:Gd w):Calls Tryz.prog 41 #[.agg #[.int .i64 2,.int .i64 0,.int .i64 0,.int .i64 1]] w (Ret w (.int .i64 0)):=by
  have h:=rchk_l (t:=⟨2,0,0,1⟩) w g (.ok ⟨by decide,by decide,by decide,by decide⟩ (by rintro ⟨h,_⟩;exact absurd h (by decide)):QErr ⟨2,0,0,1⟩ 0)
  exact Eq.mp (by kernel_rfl) h

theorem k17_6 (w:World) (g:Gd w):Calls Tryz.prog 66 #[.int .i64 3,.int .i64 5] w (Ret w (.tuple #[.string ⟨#[51,47,53]⟩,.int .i64 0])):=by
  have h:=rof_c (3) (5) w g (by decide) (by decide)
  exact Eq.mp (by kernel_rfl) h

theorem k17_7 (w:World) (g:Gd w):Calls Tryz.prog 46 #[.string ⟨#[48]⟩,.string ⟨#[48]⟩] w (Ret w (.string ⟨#[48]⟩)):=by
  have h:=rmul_c (0:Rat) (0:Rat) w g (⟨by decide +kernel,by decide +kernel⟩:QB 9 (0:Rat)) (⟨by decide +kernel,by decide +kernel⟩:QB 9 (0:Rat)) (by decide) (by decide)
  exact Eq.mp (by kernel_rfl) h

theorem k17_8 (w:World) (g:Gd w):Calls Tryz.prog 46 #[.string ⟨#[45,51]⟩,.string ⟨#[45,51]⟩] w (Ret w (.string ⟨#[57]⟩)):=by
  have h:=rmul_c (-3:Rat) (-3:Rat) w g (⟨by decide +kernel,by decide +kernel⟩:QB 9 (-3:Rat)) (⟨by decide +kernel,by decide +kernel⟩:QB 9 (-3:Rat)) (by decide) (by decide)
  exact Eq.mp (by kernel_rfl) h

theorem k17_9 (w:World) (g:Gd w):Calls Tryz.prog 46 #[.string ⟨#[52]⟩,.string ⟨#[52]⟩] w (Ret w (.string ⟨#[49,54]⟩)):=by
  have h:=rmul_c (4:Rat) (4:Rat) w g (⟨by decide +kernel,by decide +kernel⟩:QB 9 (4:Rat)) (⟨by decide +kernel,by decide +kernel⟩:QB 9 (4:Rat)) (by decide) (by decide)
  exact Eq.mp (by kernel_rfl) h

theorem k17_10 (w:World) (g:Gd w) (cb:Nat) (ty:TypeId):Blk w cb #[.string ⟨#[48]⟩,.string ⟨#[57]⟩,.string ⟨#[49,54]⟩] ty→Calls Tryz.prog 134 #[.slice (some ⟨cb,0,none⟩) 3 3] w (Ret w (.string ⟨#[50,53]⟩)):=by
  have h:=fun hB=>sum3_c (0:Rat) (9:Rat) (16:Rat) cb (ty:=ty) w g (⟨by decide +kernel,by decide +kernel⟩:QB 9 (0:Rat)) (⟨by decide +kernel,by decide +kernel⟩:QB 9 (9:Rat)) (⟨by decide +kernel,by decide +kernel⟩:QB 9 (16:Rat)) hB (by decide)
  exact Eq.mp (by kernel_rfl) h

theorem k17_11 (w:World) (_:Gd w):Calls Tryz.prog 175 #[.string ⟨#[50,53]⟩] w fun e w'=>e = .returned (.int .i64 (1))∧w=w':=by
  have h:=rsign_c (25:Rat) w
  exact Eq.mp (by kernel_rfl) h

theorem k17_12 (w:World) (_:Gd w):Calls Tryz.prog 72 #[.string ⟨#[50,53]⟩] w (Ret w (.tuple #[.string ⟨#[50,53]⟩,.string ⟨#[49]⟩])):=by
  have h:=parts_c (25:Rat) w (⟨by decide +kernel,by decide +kernel⟩:QB 9 (25:Rat)) (by decide)
  exact Eq.mp (by kernel_rfl) h

theorem k17_13 (w:World) (g:Gd w):Calls Tryz.prog 176 #[.string ⟨#[50,53]⟩] w (Ret w (.tuple #[.string ⟨#[53]⟩,.int .i64 0])):=by
  have h:=iroot_c 5 w g (by decide) (by decide)
  exact Eq.mp (by kernel_rfl) h

theorem k17_14 (w:World) (g:Gd w):Calls Tryz.prog 176 #[.string ⟨#[49]⟩] w (Ret w (.tuple #[.string ⟨#[49]⟩,.int .i64 0])):=by
  have h:=iroot_c 1 w g (by decide) (by decide)
  exact Eq.mp (by kernel_rfl) h

theorem k17_15 (w:World) (g:Gd w):Calls Tryz.prog 75 #[.string ⟨#[53]⟩,.string ⟨#[53]⟩] w (Ret w (.string ⟨#[50,53]⟩)):=by
  have h:=mul_c (5) (5) w g (⟨by decide⟩:IB 9 (5)) (⟨by decide⟩:IB 9 (5)) (by decide) (by decide)
  exact Eq.mp (by kernel_rfl) h

theorem k17_16 (w:World) (g:Gd w):Calls Tryz.prog 75 #[.string ⟨#[49]⟩,.string ⟨#[49]⟩] w (Ret w (.string ⟨#[49]⟩)):=by
  have h:=mul_c (1) (1) w g (⟨by decide⟩:IB 9 (1)) (⟨by decide⟩:IB 9 (1)) (by decide) (by decide)
  exact Eq.mp (by kernel_rfl) h

theorem k17_17 (w:World) (_:Gd w):Calls Tryz.prog 151 #[.string ⟨#[53]⟩,.string ⟨#[49]⟩] w fun e w'=>e = .returned (.string ⟨#[53]⟩)∧w=w':=by
  have h:=join_c (5) 1 w (⟨by decide⟩:IB 9 (5)) (⟨by decide⟩:IB 9 ((1:Nat):Int)) (by decide) (by decide)
  exact Eq.mp (by kernel_rfl) h

theorem k17_18 (w:World) (g:Gd w):Calls Tryz.prog 43 #[.agg #[.string ⟨#[48]⟩,.string ⟨#[45,51]⟩,.string ⟨#[52]⟩]] w (Ret w (.int .i64 0)):=by
  have h:=vCheck_ok ⟨(0:Rat),(-3:Rat),(4:Rat)⟩ w g (⟨⟨by decide +kernel,by decide +kernel⟩,⟨by decide +kernel,by decide +kernel⟩,⟨by decide +kernel,by decide +kernel⟩⟩:VB 200 ⟨(0:Rat),(-3:Rat),(4:Rat)⟩)
  exact Eq.mp (by kernel_rfl) h

theorem k17_19 (w:World) (g:Gd w):Calls Tryz.prog 44 #[.string ⟨#[53]⟩] w (Ret w (.int .i64 0)):=by
  have h:=rcheck_yes (qs (5:Rat)) w g ((⟨by decide +kernel,by decide +kernel⟩:QB 200 (5:Rat)).len (by decide)) (rq_qs (⟨by decide +kernel,by decide +kernel⟩:QB 200 (5:Rat)))
  exact Eq.mp (by kernel_rfl) h

theorem k17_20 (w:World) (_:Gd w):Calls Tryz.prog 72 #[.string ⟨#[57]⟩] w (Ret w (.tuple #[.string ⟨#[57]⟩,.string ⟨#[49]⟩])):=by
  have h:=parts_c (9:Rat) w (⟨by decide +kernel,by decide +kernel⟩:QB 9 (9:Rat)) (by decide)
  exact Eq.mp (by kernel_rfl) h

theorem k17_21 (w:World) (g:Gd w):Calls Tryz.prog 73 #[.string ⟨#[49]⟩,.string ⟨#[49]⟩] w (Ret w (.string ⟨#[49]⟩)):=by
  have h:=gcd_c (1) (1) w g (⟨by decide⟩:IB 9 (1)) (⟨by decide⟩:IB 9 (1)) (by decide) (by decide)
  exact Eq.mp (by kernel_rfl) h

theorem k17_22 (w:World) (g:Gd w):Calls Tryz.prog 74 #[.string ⟨#[49]⟩,.string ⟨#[49]⟩] w (Ret w (.tuple #[.string ⟨#[49]⟩,.string ⟨#[48]⟩,.int .i64 0])):=by
  have h:=divmod_c (1) (1) w g (⟨by decide⟩:IB 9 (1)) (⟨by decide⟩:IB 9 (1)) (by decide) (by decide) (by decide)
  exact Eq.mp (by kernel_rfl) h

theorem k17_23 (w:World) (_:Gd w):Calls Tryz.prog 72 #[.string ⟨#[45,51]⟩] w (Ret w (.tuple #[.string ⟨#[45,51]⟩,.string ⟨#[49]⟩])):=by
  have h:=parts_c (-3:Rat) w (⟨by decide +kernel,by decide +kernel⟩:QB 9 (-3:Rat)) (by decide)
  exact Eq.mp (by kernel_rfl) h

theorem k17_24 (w:World) (_:Gd w):Calls Tryz.prog 72 #[.string ⟨#[48]⟩] w (Ret w (.tuple #[.string ⟨#[48]⟩,.string ⟨#[49]⟩])):=by
  have h:=parts_c (0:Rat) w (⟨by decide +kernel,by decide +kernel⟩:QB 9 (0:Rat)) (by decide)
  exact Eq.mp (by kernel_rfl) h

theorem k17_25 (w:World) (g:Gd w):Calls Tryz.prog 46 #[.string ⟨#[57]⟩,.string ⟨#[49]⟩] w (Ret w (.string ⟨#[57]⟩)):=by
  have h:=rmul_c (9:Rat) (1:Rat) w g (⟨by decide +kernel,by decide +kernel⟩:QB 9 (9:Rat)) (⟨by decide +kernel,by decide +kernel⟩:QB 9 (1:Rat)) (by decide) (by decide)
  exact Eq.mp (by kernel_rfl) h

theorem k17_26 (w:World) (g:Gd w):Calls Tryz.prog 73 #[.string ⟨#[48]⟩,.string ⟨#[57]⟩] w (Ret w (.string ⟨#[57]⟩)):=by
  have h:=gcd_c (0) (9) w g (⟨by decide⟩:IB 9 (0)) (⟨by decide⟩:IB 9 (9)) (by decide) (by decide)
  exact Eq.mp (by kernel_rfl) h

theorem k17_27 (w:World) (_:Gd w):Calls Tryz.prog 98 #[.string ⟨#[57]⟩] w fun e w'=>e = .returned (.int .i64 (1))∧w=w':=by
  have h:=sign_c (9) w
  exact Eq.mp (by kernel_rfl) h

theorem k17_28 (w:World) (g:Gd w):Calls Tryz.prog 46 #[.string ⟨#[45,51]⟩,.string ⟨#[49]⟩] w (Ret w (.string ⟨#[45,51]⟩)):=by
  have h:=rmul_c (-3:Rat) (1:Rat) w g (⟨by decide +kernel,by decide +kernel⟩:QB 9 (-3:Rat)) (⟨by decide +kernel,by decide +kernel⟩:QB 9 (1:Rat)) (by decide) (by decide)
  exact Eq.mp (by kernel_rfl) h

theorem k17_29 (w:World) (g:Gd w):Calls Tryz.prog 73 #[.string ⟨#[57]⟩,.string ⟨#[45,51]⟩] w (Ret w (.string ⟨#[51]⟩)):=by
  have h:=gcd_c (9) (-3) w g (⟨by decide⟩:IB 9 (9)) (⟨by decide⟩:IB 9 (-3)) (by decide) (by decide)
  exact Eq.mp (by kernel_rfl) h

theorem k17_30 (w:World) (g:Gd w):Calls Tryz.prog 46 #[.string ⟨#[48]⟩,.string ⟨#[49]⟩] w (Ret w (.string ⟨#[48]⟩)):=by
  have h:=rmul_c (0:Rat) (1:Rat) w g (⟨by decide +kernel,by decide +kernel⟩:QB 9 (0:Rat)) (⟨by decide +kernel,by decide +kernel⟩:QB 9 (1:Rat)) (by decide) (by decide)
  exact Eq.mp (by kernel_rfl) h

theorem k17_31 (w:World) (g:Gd w):Calls Tryz.prog 73 #[.string ⟨#[51]⟩,.string ⟨#[48]⟩] w (Ret w (.string ⟨#[51]⟩)):=by
  have h:=gcd_c (3) (0) w g (⟨by decide⟩:IB 9 (3)) (⟨by decide⟩:IB 9 (0)) (by decide) (by decide)
  exact Eq.mp (by kernel_rfl) h

theorem k17_32 (w:World) (g:Gd w):Calls Tryz.prog 74 #[.string ⟨#[57]⟩,.string ⟨#[51]⟩] w (Ret w (.tuple #[.string ⟨#[51]⟩,.string ⟨#[48]⟩,.int .i64 0])):=by
  have h:=divmod_c (9) (3) w g (⟨by decide⟩:IB 9 (9)) (⟨by decide⟩:IB 9 (3)) (by decide) (by decide) (by decide)
  exact Eq.mp (by kernel_rfl) h

theorem k17_33 (w:World) (g:Gd w):Calls Tryz.prog 100 #[.string ⟨#[51]⟩] w (Ret w (.tuple #[.int .i64 (3),.bool true])):=by
  have h:=ismall_c (3) w g (by decide)
  exact Eq.mp (by kernel_rfl) h

theorem k17_34 (w:World) (g:Gd w):Calls Tryz.prog 74 #[.string ⟨#[45,51]⟩,.string ⟨#[51]⟩] w (Ret w (.tuple #[.string ⟨#[45,49]⟩,.string ⟨#[48]⟩,.int .i64 0])):=by
  have h:=divmod_c (-3) (3) w g (⟨by decide⟩:IB 9 (-3)) (⟨by decide⟩:IB 9 (3)) (by decide) (by decide) (by decide)
  exact Eq.mp (by kernel_rfl) h

theorem k17_35 (w:World) (g:Gd w):Calls Tryz.prog 100 #[.string ⟨#[45,49]⟩] w (Ret w (.tuple #[.int .i64 (-1),.bool true])):=by
  have h:=ismall_c (-1) w g (by decide)
  exact Eq.mp (by kernel_rfl) h

theorem k17_36 (w:World) (g:Gd w):Calls Tryz.prog 74 #[.string ⟨#[48]⟩,.string ⟨#[51]⟩] w (Ret w (.tuple #[.string ⟨#[48]⟩,.string ⟨#[48]⟩,.int .i64 0])):=by
  have h:=divmod_c (0) (3) w g (⟨by decide⟩:IB 9 (0)) (⟨by decide⟩:IB 9 (3)) (by decide) (by decide) (by decide)
  exact Eq.mp (by kernel_rfl) h

theorem k17_37 (w:World) (g:Gd w):Calls Tryz.prog 100 #[.string ⟨#[48]⟩] w (Ret w (.tuple #[.int .i64 (0),.bool true])):=by
  have h:=ismall_c (0) w g (by decide)
  exact Eq.mp (by kernel_rfl) h

theorem k17_38 (w:World) (g:Gd w):Calls Tryz.prog 90 #[.string ⟨#[53]⟩,.string ⟨#[52]⟩] w (Ret w (.string ⟨#[57]⟩)):=by
  have h:=radd_c (5:Rat) (4:Rat) w g (⟨by decide +kernel,by decide +kernel⟩:QB 9 (5:Rat)) (⟨by decide +kernel,by decide +kernel⟩:QB 9 (4:Rat)) (by decide) (by decide)
  exact Eq.mp (by kernel_rfl) h

theorem k17_39 (w:World) (_:Gd w):Calls Tryz.prog 91 #[.string ⟨#[48]⟩] w (Ret w (.string ⟨#[48]⟩)):=by
  have h:=rneg_c (0:Rat) w (⟨by decide +kernel,by decide +kernel⟩:QB 9 (0:Rat)) (by decide)
  exact Eq.mp (by kernel_rfl) h

theorem k17_40 (w:World) (g:Gd w):Calls Tryz.prog 30 #[.agg #[.int .i64 2,.int .i64 0,.int .i64 0,.int .i64 1],.agg #[.string ⟨#[49]⟩,.string ⟨#[48]⟩,.string ⟨#[48]⟩]] w (Ret w (.tuple #[.agg #[.string ⟨#[51,47,53]⟩,.string ⟨#[52,47,53]⟩,.string ⟨#[48]⟩],.int .i64 0])):=by
  have h:=rapply_c ⟨2,0,0,1⟩ ⟨(1:Rat),(0:Rat),(0:Rat)⟩ w g ⟨by decide,by decide,by decide,by decide⟩ (by rintro ⟨h,_⟩;exact absurd h (by decide)) (⟨⟨by decide +kernel,by decide +kernel⟩,⟨by decide +kernel,by decide +kernel⟩,⟨by decide +kernel,by decide +kernel⟩⟩:VB 9 ⟨(1:Rat),(0:Rat),(0:Rat)⟩) (by decide)
  exact Eq.mp (by kernel_rfl) h

set_option maxHeartbeats 4000000 in
theorem kof17_1_0_0 (w:World) (g:Gd w):Calls Tryz.prog 20 #[.int .i64 1,.int .i64 0,.int .i64 0] w (Ret w (.agg #[.string ⟨#[49]⟩,.string ⟨#[48]⟩,.string ⟨#[48]⟩])):=by
  have HG:=Lib.hid g
  clear g
  go_enter Tryz.func20,Tryz.ntmps20
  go_wp2_with fail
  refine (k17_0 _ (HG.out.ext ((Ext.refl w).alloc _))).mono ?_;rintro e w1 ⟨rfl,e1⟩
  have HX1:Hid (Ext w w1):=Lib.hid (((Ext.refl w).alloc _).trans e1)
  have HB0_1:Hid (Blk w1 (w.heap.size) #[.string ⟨#[]⟩,.string ⟨#[]⟩,.string ⟨#[]⟩] 31):=Lib.hid (Blk.ext (Blk.new' (w:=_) (cs:=#[.string ⟨#[]⟩,.string ⟨#[]⟩,.string ⟨#[]⟩]) (t:=31) (by first|rfl|(simp only [World.size_alloc];done)|(simp only [World.size_alloc];omega)|simp)) e1)
  have HGEB0:Hid (w.heap.size≤w.heap.size):=Lib.hid (by first|omega|(simp only [];omega)|(simp;omega))
  clear e1
  go_wp2_with fail
  refine (k17_1 _ (HG.out.ext HX1.out)).mono ?_;rintro e w2 ⟨rfl,e2⟩
  have HX2:Hid (Ext w w2):=Lib.hid (HX1.out.trans e2)
  have HB0_2:=Lib.hid (Blk.ext HB0_1.out e2)
  clear e2
  go_wp2_with fail
  refine (k17_1 _ (HG.out.ext HX2.out)).mono ?_;rintro e w3 ⟨rfl,e3⟩
  have HX3:Hid (Ext w w3):=Lib.hid (HX2.out.trans e3)
  have HB0_3:=Lib.hid (Blk.ext HB0_2.out e3)
  clear e3
  have c0_0:=HB0_3.out.cell 0 rfl
  have f0_0:=HB0_3.out.free 0
  have c0_1:=HB0_3.out.cell 1 rfl
  have f0_1:=HB0_3.out.free 1
  have c0_2:=HB0_3.out.cell 2 rfl
  have f0_2:=HB0_3.out.free 2
  go_wp2_with fail
  refine wp_name (fun W=>Ext w W∧Blk W (w.heap.size) #[.string ⟨#[49]⟩,.string ⟨#[48]⟩,.string ⟨#[48]⟩] 31) ⟨(((HX3.out.setCell (by have:=HGEB0.out;first|omega|(simp only [];omega)|(simp;omega)) _).setCell (by have:=HGEB0.out;first|omega|(simp only [];omega)|(simp;omega)) _).setCell (by have:=HGEB0.out;first|omega|(simp only [];omega)|(simp;omega)) _),(((HB0_3.out.set 0 (.string ⟨#[49]⟩)).set 1 (.string ⟨#[48]⟩)).set 2 (.string ⟨#[48]⟩))⟩ ?_
  rintro w4 ⟨e4,bB0_4⟩
  have HX4:=Lib.hid e4;have HB0_4:=Lib.hid bB0_4
  clear e4 bB0_4 c0_0 f0_0 c0_1 f0_1 c0_2 f0_2
  have gB0_0:=HB0_4.out.cell 0 rfl
  have gB0_1:=HB0_4.out.cell 1 rfl
  have gB0_2:=HB0_4.out.cell 2 rfl
  refine bodyPost_ret (v:=.agg #[.string ⟨#[49]⟩,.string ⟨#[48]⟩,.string ⟨#[48]⟩]) (by simp [results,Tryz.results20,go_sem,gB0_0,gB0_1,gB0_2]) rfl ⟨rfl,HX4.out⟩

set_option maxHeartbeats 4000000 in
theorem kof17_0_m3_4 (w:World) (g:Gd w):Calls Tryz.prog 20 #[.int .i64 0,.int .i64 (-3),.int .i64 4] w (Ret w (.agg #[.string ⟨#[48]⟩,.string ⟨#[45,51]⟩,.string ⟨#[52]⟩])):=by
  have HG:=Lib.hid g
  clear g
  go_enter Tryz.func20,Tryz.ntmps20
  go_wp2_with fail
  refine (k17_1 _ (HG.out.ext ((Ext.refl w).alloc _))).mono ?_;rintro e w1 ⟨rfl,e1⟩
  have HX1:Hid (Ext w w1):=Lib.hid (((Ext.refl w).alloc _).trans e1)
  have HB0_1:Hid (Blk w1 (w.heap.size) #[.string ⟨#[]⟩,.string ⟨#[]⟩,.string ⟨#[]⟩] 31):=Lib.hid (Blk.ext (Blk.new' (w:=_) (cs:=#[.string ⟨#[]⟩,.string ⟨#[]⟩,.string ⟨#[]⟩]) (t:=31) (by first|rfl|(simp only [World.size_alloc];done)|(simp only [World.size_alloc];omega)|simp)) e1)
  have HGEB0:Hid (w.heap.size≤w.heap.size):=Lib.hid (by first|omega|(simp only [];omega)|(simp;omega))
  clear e1
  go_wp2_with fail
  refine (k17_2 _ (HG.out.ext HX1.out)).mono ?_;rintro e w2 ⟨rfl,e2⟩
  have HX2:Hid (Ext w w2):=Lib.hid (HX1.out.trans e2)
  have HB0_2:=Lib.hid (Blk.ext HB0_1.out e2)
  clear e2
  go_wp2_with fail
  refine (k17_3 _ (HG.out.ext HX2.out)).mono ?_;rintro e w3 ⟨rfl,e3⟩
  have HX3:Hid (Ext w w3):=Lib.hid (HX2.out.trans e3)
  have HB0_3:=Lib.hid (Blk.ext HB0_2.out e3)
  clear e3
  have c0_0:=HB0_3.out.cell 0 rfl
  have f0_0:=HB0_3.out.free 0
  have c0_1:=HB0_3.out.cell 1 rfl
  have f0_1:=HB0_3.out.free 1
  have c0_2:=HB0_3.out.cell 2 rfl
  have f0_2:=HB0_3.out.free 2
  go_wp2_with fail
  refine wp_name (fun W=>Ext w W∧Blk W (w.heap.size) #[.string ⟨#[48]⟩,.string ⟨#[45,51]⟩,.string ⟨#[52]⟩] 31) ⟨(((HX3.out.setCell (by have:=HGEB0.out;first|omega|(simp only [];omega)|(simp;omega)) _).setCell (by have:=HGEB0.out;first|omega|(simp only [];omega)|(simp;omega)) _).setCell (by have:=HGEB0.out;first|omega|(simp only [];omega)|(simp;omega)) _),(((HB0_3.out.set 0 (.string ⟨#[48]⟩)).set 1 (.string ⟨#[45,51]⟩)).set 2 (.string ⟨#[52]⟩))⟩ ?_
  rintro w4 ⟨e4,bB0_4⟩
  have HX4:=Lib.hid e4;have HB0_4:=Lib.hid bB0_4
  clear e4 bB0_4 c0_0 f0_0 c0_1 f0_1 c0_2 f0_2
  have gB0_0:=HB0_4.out.cell 0 rfl
  have gB0_1:=HB0_4.out.cell 1 rfl
  have gB0_2:=HB0_4.out.cell 2 rfl
  refine bodyPost_ret (v:=.agg #[.string ⟨#[48]⟩,.string ⟨#[45,51]⟩,.string ⟨#[52]⟩]) (by simp [results,Tryz.results20,go_sem,gB0_0,gB0_1,gB0_2]) rfl ⟨rfl,HX4.out⟩

set_option maxHeartbeats 4000000 in
theorem ksq_1_0_0_1 (w:World) (g:Gd w):Calls Tryz.prog 42 #[.agg #[.int .i64 1,.int .i64 0,.int .i64 0,.int .i64 1]] w (Ret w (.tuple #[.int .i64 1,.int .i64 1])):=by
  have HG:=Lib.hid g
  clear g
  go_enter Tryz.func42,Tryz.ntmps42
  go_wp2_with fail
  refine wp_name (fun W=>Ext w W∧Blk W (w.heap.size) #[.int .i64 1,.int .i64 0,.int .i64 0,.int .i64 1] 22) ⟨((Ext.refl w).alloc _),(Blk.new' (w:=_) (cs:=#[.int .i64 1,.int .i64 0,.int .i64 0,.int .i64 1]) (t:=22) (by first|rfl|(simp only [World.size_alloc];done)|(simp only [World.size_alloc];omega)|simp))⟩ ?_
  rintro w1 ⟨e1,bB0_1⟩
  have HX1:=Lib.hid e1;have HB0_1:=Lib.hid bB0_1
  have HGEB0:Hid (w.heap.size≤w.heap.size):=Lib.hid (by first|omega|(simp only [];omega)|(simp;omega))
  clear e1 bB0_1
  refine region_lin [.val (.pointer (some ⟨w.heap.size,0,none⟩)),.val (.int .i64 1),.val (.pointer (some ⟨w.heap.size,0,none⟩)),.val (.int .i64 1),.val (.int .i64 1),.val (.pointer (some ⟨w.heap.size,1,none⟩)),.val (.int .i64 0),.val (.pointer (some ⟨w.heap.size,1,none⟩)),.val (.int .i64 0),.val (.int .i64 0),.val (.pointer (some ⟨w.heap.size,2,none⟩)),.val (.int .i64 0),.val (.pointer (some ⟨w.heap.size,2,none⟩)),.val (.int .i64 0),.val (.int .i64 0),.val (.int .i64 0),.val (.pointer (some ⟨w.heap.size,3,none⟩)),.val (.int .i64 1),.val (.pointer (some ⟨w.heap.size,3,none⟩)),.val (.int .i64 1),.val (.int .i64 1),.val (.int .i64 1),.val (.int .i64 1),.val (.int .i64 1)] (by kernel_rfl) (by kernel_rfl) (by kernel_rfl) ?_ (fun g1 w2 hx_ hm_ hne_=>?_)
  · skip
    refine RnL.cons (fun g1 A_ W_ hs_=>?_) ?_
    · have q1_:=(hs_.old 1 (by kernel_rfl):A_.tmps[1]?.getD undef = .pointer (some ⟨w.heap.size,0,none⟩))
      refine Rn.val fun K_ hK_=>?_
      go_simp
      exact hK_.out _ (Ext.refl _)
    refine RnL.cons (fun g1 A_ W_ hs_=>?_) ?_
    · have q4_:=hs_.val 0 rfl rfl rfl
      have cB0_0:=((HB0_1.out.drew.ext hs_.1)).cell 0 rfl
      refine Rn.val fun K_ hK_=>?_
      go_simp
      exact hK_.out _ (Ext.refl _)
    refine RnL.cons (fun g1 A_ W_ hs_=>?_) ?_
    · have q1_:=(hs_.old 1 (by kernel_rfl):A_.tmps[1]?.getD undef = .pointer (some ⟨w.heap.size,0,none⟩))
      refine Rn.val fun K_ hK_=>?_
      go_simp
      exact hK_.out _ (Ext.refl _)
    refine RnL.cons (fun g1 A_ W_ hs_=>?_) ?_
    · have q6_:=hs_.val 2 rfl rfl rfl
      have cB0_0:=((HB0_1.out.drew.ext hs_.1)).cell 0 rfl
      refine Rn.val fun K_ hK_=>?_
      go_simp
      exact hK_.out _ (Ext.refl _)
    refine RnL.cons (fun g1 A_ W_ hs_=>?_) ?_
    · have q5_:=hs_.val 1 rfl rfl rfl
      have q7_:=hs_.val 3 rfl rfl rfl
      refine Rn.val fun K_ hK_=>?_
      go_simp
      exact hK_.out _ (Ext.refl _)
    refine RnL.cons (fun g1 A_ W_ hs_=>?_) ?_
    · have q1_:=(hs_.old 1 (by kernel_rfl):A_.tmps[1]?.getD undef = .pointer (some ⟨w.heap.size,0,none⟩))
      refine Rn.val fun K_ hK_=>?_
      go_simp
      exact hK_.out _ (Ext.refl _)
    refine RnL.cons (fun g1 A_ W_ hs_=>?_) ?_
    · have q9_:=hs_.val 5 rfl rfl rfl
      have cB0_1:=((HB0_1.out.drew.ext hs_.1)).cell 1 rfl
      refine Rn.val fun K_ hK_=>?_
      go_simp
      exact hK_.out _ (Ext.refl _)
    refine RnL.cons (fun g1 A_ W_ hs_=>?_) ?_
    · have q1_:=(hs_.old 1 (by kernel_rfl):A_.tmps[1]?.getD undef = .pointer (some ⟨w.heap.size,0,none⟩))
      refine Rn.val fun K_ hK_=>?_
      go_simp
      exact hK_.out _ (Ext.refl _)
    refine RnL.cons (fun g1 A_ W_ hs_=>?_) ?_
    · have q11_:=hs_.val 7 rfl rfl rfl
      have cB0_1:=((HB0_1.out.drew.ext hs_.1)).cell 1 rfl
      refine Rn.val fun K_ hK_=>?_
      go_simp
      exact hK_.out _ (Ext.refl _)
    refine RnL.cons (fun g1 A_ W_ hs_=>?_) ?_
    · have q10_:=hs_.val 6 rfl rfl rfl
      have q12_:=hs_.val 8 rfl rfl rfl
      refine Rn.val fun K_ hK_=>?_
      go_simp
      exact hK_.out _ (Ext.refl _)
    refine RnL.cons (fun g1 A_ W_ hs_=>?_) ?_
    · have q1_:=(hs_.old 1 (by kernel_rfl):A_.tmps[1]?.getD undef = .pointer (some ⟨w.heap.size,0,none⟩))
      refine Rn.val fun K_ hK_=>?_
      go_simp
      exact hK_.out _ (Ext.refl _)
    refine RnL.cons (fun g1 A_ W_ hs_=>?_) ?_
    · have q14_:=hs_.val 10 rfl rfl rfl
      have cB0_2:=((HB0_1.out.drew.ext hs_.1)).cell 2 rfl
      refine Rn.val fun K_ hK_=>?_
      go_simp
      exact hK_.out _ (Ext.refl _)
    refine RnL.cons (fun g1 A_ W_ hs_=>?_) ?_
    · have q1_:=(hs_.old 1 (by kernel_rfl):A_.tmps[1]?.getD undef = .pointer (some ⟨w.heap.size,0,none⟩))
      refine Rn.val fun K_ hK_=>?_
      go_simp
      exact hK_.out _ (Ext.refl _)
    refine RnL.cons (fun g1 A_ W_ hs_=>?_) ?_
    · have q16_:=hs_.val 12 rfl rfl rfl
      have cB0_2:=((HB0_1.out.drew.ext hs_.1)).cell 2 rfl
      refine Rn.val fun K_ hK_=>?_
      go_simp
      exact hK_.out _ (Ext.refl _)
    refine RnL.cons (fun g1 A_ W_ hs_=>?_) ?_
    · have q15_:=hs_.val 11 rfl rfl rfl
      have q17_:=hs_.val 13 rfl rfl rfl
      refine Rn.val fun K_ hK_=>?_
      go_simp
      exact hK_.out _ (Ext.refl _)
    refine RnL.cons (fun g1 A_ W_ hs_=>?_) ?_
    · have q13_:=hs_.val 9 rfl rfl rfl
      have q18_:=hs_.val 14 rfl rfl rfl
      refine Rn.val fun K_ hK_=>?_
      go_simp
      exact hK_.out _ (Ext.refl _)
    refine RnL.cons (fun g1 A_ W_ hs_=>?_) ?_
    · have q1_:=(hs_.old 1 (by kernel_rfl):A_.tmps[1]?.getD undef = .pointer (some ⟨w.heap.size,0,none⟩))
      refine Rn.val fun K_ hK_=>?_
      go_simp
      exact hK_.out _ (Ext.refl _)
    refine RnL.cons (fun g1 A_ W_ hs_=>?_) ?_
    · have q20_:=hs_.val 16 rfl rfl rfl
      have cB0_3:=((HB0_1.out.drew.ext hs_.1)).cell 3 rfl
      refine Rn.val fun K_ hK_=>?_
      go_simp
      exact hK_.out _ (Ext.refl _)
    refine RnL.cons (fun g1 A_ W_ hs_=>?_) ?_
    · have q1_:=(hs_.old 1 (by kernel_rfl):A_.tmps[1]?.getD undef = .pointer (some ⟨w.heap.size,0,none⟩))
      refine Rn.val fun K_ hK_=>?_
      go_simp
      exact hK_.out _ (Ext.refl _)
    refine RnL.cons (fun g1 A_ W_ hs_=>?_) ?_
    · have q22_:=hs_.val 18 rfl rfl rfl
      have cB0_3:=((HB0_1.out.drew.ext hs_.1)).cell 3 rfl
      refine Rn.val fun K_ hK_=>?_
      go_simp
      exact hK_.out _ (Ext.refl _)
    refine RnL.cons (fun g1 A_ W_ hs_=>?_) ?_
    · have q21_:=hs_.val 17 rfl rfl rfl
      have q23_:=hs_.val 19 rfl rfl rfl
      refine Rn.val fun K_ hK_=>?_
      go_simp
      exact hK_.out _ (Ext.refl _)
    refine RnL.cons (fun g1 A_ W_ hs_=>?_) ?_
    · have q19_:=hs_.val 15 rfl rfl rfl
      have q24_:=hs_.val 20 rfl rfl rfl
      refine Rn.val fun K_ hK_=>?_
      go_simp
      exact hK_.out _ (Ext.refl _)
    refine RnL.cons (fun g1 A_ W_ hs_=>?_) ?_
    · have q8_:=hs_.val 4 rfl rfl rfl
      refine Rn.val fun K_ hK_=>?_
      go_simp
      exact hK_.out _ (Ext.refl _)
    refine RnL.cons (fun g1 A_ W_ hs_=>?_) ?_
    · have q25_:=hs_.val 21 rfl rfl rfl
      refine Rn.val fun K_ hK_=>?_
      go_simp
      exact hK_.out _ (Ext.refl _)
    exact RnL.nil
  simp only [fs,Kd.value,puts,Act.put,List.setIfInBounds_toArray,List.set_cons_zero,List.set_cons_succ]
  have HX2:Hid (Ext w w2):=Lib.hid (HX1.out.drew.trans hx_)
  clear hx_ hm_ hne_
  go_wp2
  go_ret2
  exact ⟨rfl,HX2.out⟩

set_option maxHeartbeats 4000000 in
theorem ksq_2_0_0_1 (w:World) (g:Gd w):Calls Tryz.prog 42 #[.agg #[.int .i64 2,.int .i64 0,.int .i64 0,.int .i64 1]] w (Ret w (.tuple #[.int .i64 4,.int .i64 1])):=by
  have HG:=Lib.hid g
  clear g
  go_enter Tryz.func42,Tryz.ntmps42
  go_wp2_with fail
  refine wp_name (fun W=>Ext w W∧Blk W (w.heap.size) #[.int .i64 2,.int .i64 0,.int .i64 0,.int .i64 1] 22) ⟨((Ext.refl w).alloc _),(Blk.new' (w:=_) (cs:=#[.int .i64 2,.int .i64 0,.int .i64 0,.int .i64 1]) (t:=22) (by first|rfl|(simp only [World.size_alloc];done)|(simp only [World.size_alloc];omega)|simp))⟩ ?_
  rintro w1 ⟨e1,bB0_1⟩
  have HX1:=Lib.hid e1;have HB0_1:=Lib.hid bB0_1
  have HGEB0:Hid (w.heap.size≤w.heap.size):=Lib.hid (by first|omega|(simp only [];omega)|(simp;omega))
  clear e1 bB0_1
  refine region_lin [.val (.pointer (some ⟨w.heap.size,0,none⟩)),.val (.int .i64 2),.val (.pointer (some ⟨w.heap.size,0,none⟩)),.val (.int .i64 2),.val (.int .i64 4),.val (.pointer (some ⟨w.heap.size,1,none⟩)),.val (.int .i64 0),.val (.pointer (some ⟨w.heap.size,1,none⟩)),.val (.int .i64 0),.val (.int .i64 0),.val (.pointer (some ⟨w.heap.size,2,none⟩)),.val (.int .i64 0),.val (.pointer (some ⟨w.heap.size,2,none⟩)),.val (.int .i64 0),.val (.int .i64 0),.val (.int .i64 0),.val (.pointer (some ⟨w.heap.size,3,none⟩)),.val (.int .i64 1),.val (.pointer (some ⟨w.heap.size,3,none⟩)),.val (.int .i64 1),.val (.int .i64 1),.val (.int .i64 1),.val (.int .i64 4),.val (.int .i64 1)] (by kernel_rfl) (by kernel_rfl) (by kernel_rfl) ?_ (fun g1 w2 hx_ hm_ hne_=>?_)
  · skip
    refine RnL.cons (fun g1 A_ W_ hs_=>?_) ?_
    · have q1_:=(hs_.old 1 (by kernel_rfl):A_.tmps[1]?.getD undef = .pointer (some ⟨w.heap.size,0,none⟩))
      refine Rn.val fun K_ hK_=>?_
      go_simp
      exact hK_.out _ (Ext.refl _)
    refine RnL.cons (fun g1 A_ W_ hs_=>?_) ?_
    · have q4_:=hs_.val 0 rfl rfl rfl
      have cB0_0:=((HB0_1.out.drew.ext hs_.1)).cell 0 rfl
      refine Rn.val fun K_ hK_=>?_
      go_simp
      exact hK_.out _ (Ext.refl _)
    refine RnL.cons (fun g1 A_ W_ hs_=>?_) ?_
    · have q1_:=(hs_.old 1 (by kernel_rfl):A_.tmps[1]?.getD undef = .pointer (some ⟨w.heap.size,0,none⟩))
      refine Rn.val fun K_ hK_=>?_
      go_simp
      exact hK_.out _ (Ext.refl _)
    refine RnL.cons (fun g1 A_ W_ hs_=>?_) ?_
    · have q6_:=hs_.val 2 rfl rfl rfl
      have cB0_0:=((HB0_1.out.drew.ext hs_.1)).cell 0 rfl
      refine Rn.val fun K_ hK_=>?_
      go_simp
      exact hK_.out _ (Ext.refl _)
    refine RnL.cons (fun g1 A_ W_ hs_=>?_) ?_
    · have q5_:=hs_.val 1 rfl rfl rfl
      have q7_:=hs_.val 3 rfl rfl rfl
      refine Rn.val fun K_ hK_=>?_
      go_simp
      exact hK_.out _ (Ext.refl _)
    refine RnL.cons (fun g1 A_ W_ hs_=>?_) ?_
    · have q1_:=(hs_.old 1 (by kernel_rfl):A_.tmps[1]?.getD undef = .pointer (some ⟨w.heap.size,0,none⟩))
      refine Rn.val fun K_ hK_=>?_
      go_simp
      exact hK_.out _ (Ext.refl _)
    refine RnL.cons (fun g1 A_ W_ hs_=>?_) ?_
    · have q9_:=hs_.val 5 rfl rfl rfl
      have cB0_1:=((HB0_1.out.drew.ext hs_.1)).cell 1 rfl
      refine Rn.val fun K_ hK_=>?_
      go_simp
      exact hK_.out _ (Ext.refl _)
    refine RnL.cons (fun g1 A_ W_ hs_=>?_) ?_
    · have q1_:=(hs_.old 1 (by kernel_rfl):A_.tmps[1]?.getD undef = .pointer (some ⟨w.heap.size,0,none⟩))
      refine Rn.val fun K_ hK_=>?_
      go_simp
      exact hK_.out _ (Ext.refl _)
    refine RnL.cons (fun g1 A_ W_ hs_=>?_) ?_
    · have q11_:=hs_.val 7 rfl rfl rfl
      have cB0_1:=((HB0_1.out.drew.ext hs_.1)).cell 1 rfl
      refine Rn.val fun K_ hK_=>?_
      go_simp
      exact hK_.out _ (Ext.refl _)
    refine RnL.cons (fun g1 A_ W_ hs_=>?_) ?_
    · have q10_:=hs_.val 6 rfl rfl rfl
      have q12_:=hs_.val 8 rfl rfl rfl
      refine Rn.val fun K_ hK_=>?_
      go_simp
      exact hK_.out _ (Ext.refl _)
    refine RnL.cons (fun g1 A_ W_ hs_=>?_) ?_
    · have q1_:=(hs_.old 1 (by kernel_rfl):A_.tmps[1]?.getD undef = .pointer (some ⟨w.heap.size,0,none⟩))
      refine Rn.val fun K_ hK_=>?_
      go_simp
      exact hK_.out _ (Ext.refl _)
    refine RnL.cons (fun g1 A_ W_ hs_=>?_) ?_
    · have q14_:=hs_.val 10 rfl rfl rfl
      have cB0_2:=((HB0_1.out.drew.ext hs_.1)).cell 2 rfl
      refine Rn.val fun K_ hK_=>?_
      go_simp
      exact hK_.out _ (Ext.refl _)
    refine RnL.cons (fun g1 A_ W_ hs_=>?_) ?_
    · have q1_:=(hs_.old 1 (by kernel_rfl):A_.tmps[1]?.getD undef = .pointer (some ⟨w.heap.size,0,none⟩))
      refine Rn.val fun K_ hK_=>?_
      go_simp
      exact hK_.out _ (Ext.refl _)
    refine RnL.cons (fun g1 A_ W_ hs_=>?_) ?_
    · have q16_:=hs_.val 12 rfl rfl rfl
      have cB0_2:=((HB0_1.out.drew.ext hs_.1)).cell 2 rfl
      refine Rn.val fun K_ hK_=>?_
      go_simp
      exact hK_.out _ (Ext.refl _)
    refine RnL.cons (fun g1 A_ W_ hs_=>?_) ?_
    · have q15_:=hs_.val 11 rfl rfl rfl
      have q17_:=hs_.val 13 rfl rfl rfl
      refine Rn.val fun K_ hK_=>?_
      go_simp
      exact hK_.out _ (Ext.refl _)
    refine RnL.cons (fun g1 A_ W_ hs_=>?_) ?_
    · have q13_:=hs_.val 9 rfl rfl rfl
      have q18_:=hs_.val 14 rfl rfl rfl
      refine Rn.val fun K_ hK_=>?_
      go_simp
      exact hK_.out _ (Ext.refl _)
    refine RnL.cons (fun g1 A_ W_ hs_=>?_) ?_
    · have q1_:=(hs_.old 1 (by kernel_rfl):A_.tmps[1]?.getD undef = .pointer (some ⟨w.heap.size,0,none⟩))
      refine Rn.val fun K_ hK_=>?_
      go_simp
      exact hK_.out _ (Ext.refl _)
    refine RnL.cons (fun g1 A_ W_ hs_=>?_) ?_
    · have q20_:=hs_.val 16 rfl rfl rfl
      have cB0_3:=((HB0_1.out.drew.ext hs_.1)).cell 3 rfl
      refine Rn.val fun K_ hK_=>?_
      go_simp
      exact hK_.out _ (Ext.refl _)
    refine RnL.cons (fun g1 A_ W_ hs_=>?_) ?_
    · have q1_:=(hs_.old 1 (by kernel_rfl):A_.tmps[1]?.getD undef = .pointer (some ⟨w.heap.size,0,none⟩))
      refine Rn.val fun K_ hK_=>?_
      go_simp
      exact hK_.out _ (Ext.refl _)
    refine RnL.cons (fun g1 A_ W_ hs_=>?_) ?_
    · have q22_:=hs_.val 18 rfl rfl rfl
      have cB0_3:=((HB0_1.out.drew.ext hs_.1)).cell 3 rfl
      refine Rn.val fun K_ hK_=>?_
      go_simp
      exact hK_.out _ (Ext.refl _)
    refine RnL.cons (fun g1 A_ W_ hs_=>?_) ?_
    · have q21_:=hs_.val 17 rfl rfl rfl
      have q23_:=hs_.val 19 rfl rfl rfl
      refine Rn.val fun K_ hK_=>?_
      go_simp
      exact hK_.out _ (Ext.refl _)
    refine RnL.cons (fun g1 A_ W_ hs_=>?_) ?_
    · have q19_:=hs_.val 15 rfl rfl rfl
      have q24_:=hs_.val 20 rfl rfl rfl
      refine Rn.val fun K_ hK_=>?_
      go_simp
      exact hK_.out _ (Ext.refl _)
    refine RnL.cons (fun g1 A_ W_ hs_=>?_) ?_
    · have q8_:=hs_.val 4 rfl rfl rfl
      refine Rn.val fun K_ hK_=>?_
      go_simp
      exact hK_.out _ (Ext.refl _)
    refine RnL.cons (fun g1 A_ W_ hs_=>?_) ?_
    · have q25_:=hs_.val 21 rfl rfl rfl
      refine Rn.val fun K_ hK_=>?_
      go_simp
      exact hK_.out _ (Ext.refl _)
    exact RnL.nil
  simp only [fs,Kd.value,puts,Act.put,List.setIfInBounds_toArray,List.set_cons_zero,List.set_cons_succ]
  have HX2:Hid (Ext w w2):=Lib.hid (HX1.out.drew.trans hx_)
  clear hx_ hm_ hne_
  go_wp2
  go_ret2
  exact ⟨rfl,HX2.out⟩

set_option maxHeartbeats 4000000 in
theorem korder (w:World) (g:Gd w):Calls Tryz.prog 13 #[.agg #[.int .i64 1,.int .i64 0,.int .i64 0,.int .i64 1]] w (Ret w (.tuple #[.int .i64 4,.bool true,.int .i64 0])):=by
  have HG:=Lib.hid g
  clear g
  go_enter Tryz.func13,Tryz.ntmps13
  go_wp2_with fail
  refine (k17_4 _ (HG.out.ext ((Ext.refl w).alloc _))).mono ?_;rintro e w1 ⟨rfl,e1⟩
  have HX1:Hid (Ext w w1):=Lib.hid (((Ext.refl w).alloc _).trans e1)
  have HB0_1:Hid (Blk w1 (w.heap.size) #[.int .i64 1,.int .i64 0,.int .i64 0,.int .i64 1] 22):=Lib.hid (Blk.ext (Blk.new' (w:=_) (cs:=#[.int .i64 1,.int .i64 0,.int .i64 0,.int .i64 1]) (t:=22) (by first|rfl|(simp only [World.size_alloc];done)|(simp only [World.size_alloc];omega)|simp)) e1)
  have HGEB0:Hid (w.heap.size≤w.heap.size):=Lib.hid (by first|omega|(simp only [];omega)|(simp;omega))
  clear e1
  have c0_0:=HB0_1.out.cell 0 rfl
  have c0_1:=HB0_1.out.cell 1 rfl
  have c0_2:=HB0_1.out.cell 2 rfl
  have c0_3:=HB0_1.out.cell 3 rfl
  go_wp2_with fail
  refine (ksq_1_0_0_1 _ (HG.out.ext HX1.out)).mono ?_;rintro e w2 ⟨rfl,e2⟩
  have HX2:Hid (Ext w w2):=Lib.hid (HX1.out.trans e2)
  clear e2 c0_0 c0_1 c0_2 c0_3
  go_wp2
  go_ret3
  exact ⟨rfl,HX2.out⟩

set_option maxHeartbeats 4000000 in
theorem kcos (w:World) (g:Gd w):Calls Tryz.prog 33 #[.agg #[.int .i64 2,.int .i64 0,.int .i64 0,.int .i64 1]] w (Ret w (.tuple #[.string ⟨#[51,47,53]⟩,.int .i64 0])):=by
  have HG:=Lib.hid g
  clear g
  go_enter Tryz.func33,Tryz.ntmps33
  go_wp2_with fail
  refine (k17_5 _ (HG.out.ext ((Ext.refl w).alloc _))).mono ?_;rintro e w1 ⟨rfl,e1⟩
  have HX1:Hid (Ext w w1):=Lib.hid (((Ext.refl w).alloc _).trans e1)
  have HB0_1:Hid (Blk w1 (w.heap.size) #[.int .i64 2,.int .i64 0,.int .i64 0,.int .i64 1] 22):=Lib.hid (Blk.ext (Blk.new' (w:=_) (cs:=#[.int .i64 2,.int .i64 0,.int .i64 0,.int .i64 1]) (t:=22) (by first|rfl|(simp only [World.size_alloc];done)|(simp only [World.size_alloc];omega)|simp)) e1)
  have HGEB0:Hid (w.heap.size≤w.heap.size):=Lib.hid (by first|omega|(simp only [];omega)|(simp;omega))
  clear e1
  have c0_0:=HB0_1.out.cell 0 rfl
  have c0_1:=HB0_1.out.cell 1 rfl
  have c0_2:=HB0_1.out.cell 2 rfl
  have c0_3:=HB0_1.out.cell 3 rfl
  go_wp2_with fail
  refine (ksq_2_0_0_1 _ (HG.out.ext HX1.out)).mono ?_;rintro e w2 ⟨rfl,e2⟩
  have HX2:Hid (Ext w w2):=Lib.hid (HX1.out.trans e2)
  clear e2 c0_0 c0_1 c0_2 c0_3
  go_wp2_with fail
  refine (k17_6 _ (HG.out.ext HX2.out)).mono ?_;rintro e w3 ⟨rfl,e3⟩
  have HX3:Hid (Ext w w3):=Lib.hid (HX2.out.trans e3)
  clear e3
  go_wp2
  go_ret2
  exact ⟨rfl,HX3.out⟩

set_option maxHeartbeats 4000000 in
theorem kdot (w:World) (g:Gd w):Calls Tryz.prog 120 #[.agg #[.string ⟨#[48]⟩,.string ⟨#[45,51]⟩,.string ⟨#[52]⟩],.agg #[.string ⟨#[48]⟩,.string ⟨#[45,51]⟩,.string ⟨#[52]⟩]] w (Ret w (.string ⟨#[50,53]⟩)):=by
  have HG:=Lib.hid g
  clear g
  go_enter Tryz.func120,Tryz.ntmps120
  go_wp2_with fail
  refine wp_name (fun W=>Ext w W∧Blk W (w.heap.size) #[.string ⟨#[48]⟩,.string ⟨#[45,51]⟩,.string ⟨#[52]⟩] 31∧Blk W (w.heap.size+1) #[.string ⟨#[48]⟩,.string ⟨#[45,51]⟩,.string ⟨#[52]⟩] 31) ⟨(((Ext.refl w).alloc _).alloc _),((Blk.new' (w:=_) (cs:=#[.string ⟨#[48]⟩,.string ⟨#[45,51]⟩,.string ⟨#[52]⟩]) (t:=31) (by first|rfl|(simp only [World.size_alloc];done)|(simp only [World.size_alloc];omega)|simp)).alloc _),(Blk.new' (w:=_) (cs:=#[.string ⟨#[48]⟩,.string ⟨#[45,51]⟩,.string ⟨#[52]⟩]) (t:=31) (by first|rfl|(simp only [World.size_alloc];done)|(simp only [World.size_alloc];omega)|simp))⟩ ?_
  rintro w1 ⟨e1,bB0_1,bB1_1⟩
  have HX1:=Lib.hid e1;have HB0_1:=Lib.hid bB0_1;have HB1_1:=Lib.hid bB1_1
  have HGEB0:Hid (w.heap.size≤w.heap.size):=Lib.hid (by first|omega|(simp only [];omega)|(simp;omega))
  have HGEB1:Hid (w.heap.size≤w.heap.size+1):=Lib.hid (by first|omega|(simp only [];omega)|(simp;omega))
  clear e1 bB0_1 bB1_1
  refine region_lin [.val (.pointer (some ⟨w.heap.size,0,none⟩)),.val (.string ⟨#[48]⟩),.val (.pointer (some ⟨w.heap.size+1,0,none⟩)),.val (.string ⟨#[48]⟩),.val (.string ⟨#[48]⟩),.val (.pointer (some ⟨w.heap.size,1,none⟩)),.val (.string ⟨#[45,51]⟩),.val (.pointer (some ⟨w.heap.size+1,1,none⟩)),.val (.string ⟨#[45,51]⟩),.val (.string ⟨#[57]⟩),.val (.pointer (some ⟨w.heap.size,2,none⟩)),.val (.string ⟨#[52]⟩),.val (.pointer (some ⟨w.heap.size+1,2,none⟩)),.val (.string ⟨#[52]⟩),.val (.string ⟨#[49,54]⟩),.mem (fun b_ => .slice (some ⟨b_,0,none⟩) 3 3) #[.string ⟨#[48]⟩,.string ⟨#[57]⟩,.string ⟨#[49,54]⟩] 29 Option.none,.val (.string ⟨#[50,53]⟩),.val (.string ⟨#[50,53]⟩)] (by kernel_rfl) (by kernel_rfl) (by kernel_rfl) ?_ (fun g1 w2 hx_ hm_ hne_=>?_)
  · skip
    refine RnL.cons (fun g1 A_ W_ hs_=>?_) ?_
    · have q2_:=(hs_.old 2 (by kernel_rfl):A_.tmps[2]?.getD undef = .pointer (some ⟨w.heap.size,0,none⟩))
      refine Rn.val fun K_ hK_=>?_
      go_simp
      exact hK_.out _ (Ext.refl _)
    refine RnL.cons (fun g1 A_ W_ hs_=>?_) ?_
    · have q5_:=hs_.val 0 rfl rfl rfl
      have cB0_0:=((HB0_1.out.drew.ext hs_.1)).cell 0 rfl
      refine Rn.val fun K_ hK_=>?_
      go_simp
      exact hK_.out _ (Ext.refl _)
    refine RnL.cons (fun g1 A_ W_ hs_=>?_) ?_
    · have q3_:=(hs_.old 3 (by kernel_rfl):A_.tmps[3]?.getD undef = .pointer (some ⟨w.heap.size+1,0,none⟩))
      refine Rn.val fun K_ hK_=>?_
      go_simp
      exact hK_.out _ (Ext.refl _)
    refine RnL.cons (fun g1 A_ W_ hs_=>?_) ?_
    · have q7_:=hs_.val 2 rfl rfl rfl
      have cB1_0:=((HB1_1.out.drew.ext hs_.1)).cell 0 rfl
      refine Rn.val fun K_ hK_=>?_
      go_simp
      exact hK_.out _ (Ext.refl _)
    refine RnL.cons (fun g1 A_ W_ hs_=>?_) ?_
    · have q6_:=hs_.val 1 rfl rfl rfl
      have q8_:=hs_.val 3 rfl rfl rfl
      refine Rn.val fun K_ hK_=>?_
      go_simp
      refine (k17_7 _ (HG.out.ext (HX1.out.drew.trans hs_.1))).mono ?_;rintro e W9_ ⟨rfl,e9_⟩;exact hK_.out _ e9_
    refine RnL.cons (fun g1 A_ W_ hs_=>?_) ?_
    · have q2_:=(hs_.old 2 (by kernel_rfl):A_.tmps[2]?.getD undef = .pointer (some ⟨w.heap.size,0,none⟩))
      refine Rn.val fun K_ hK_=>?_
      go_simp
      exact hK_.out _ (Ext.refl _)
    refine RnL.cons (fun g1 A_ W_ hs_=>?_) ?_
    · have q10_:=hs_.val 5 rfl rfl rfl
      have cB0_1:=((HB0_1.out.drew.ext hs_.1)).cell 1 rfl
      refine Rn.val fun K_ hK_=>?_
      go_simp
      exact hK_.out _ (Ext.refl _)
    refine RnL.cons (fun g1 A_ W_ hs_=>?_) ?_
    · have q3_:=(hs_.old 3 (by kernel_rfl):A_.tmps[3]?.getD undef = .pointer (some ⟨w.heap.size+1,0,none⟩))
      refine Rn.val fun K_ hK_=>?_
      go_simp
      exact hK_.out _ (Ext.refl _)
    refine RnL.cons (fun g1 A_ W_ hs_=>?_) ?_
    · have q12_:=hs_.val 7 rfl rfl rfl
      have cB1_1:=((HB1_1.out.drew.ext hs_.1)).cell 1 rfl
      refine Rn.val fun K_ hK_=>?_
      go_simp
      exact hK_.out _ (Ext.refl _)
    refine RnL.cons (fun g1 A_ W_ hs_=>?_) ?_
    · have q11_:=hs_.val 6 rfl rfl rfl
      have q13_:=hs_.val 8 rfl rfl rfl
      refine Rn.val fun K_ hK_=>?_
      go_simp
      refine (k17_8 _ (HG.out.ext (HX1.out.drew.trans hs_.1))).mono ?_;rintro e W9_ ⟨rfl,e9_⟩;exact hK_.out _ e9_
    refine RnL.cons (fun g1 A_ W_ hs_=>?_) ?_
    · have q2_:=(hs_.old 2 (by kernel_rfl):A_.tmps[2]?.getD undef = .pointer (some ⟨w.heap.size,0,none⟩))
      refine Rn.val fun K_ hK_=>?_
      go_simp
      exact hK_.out _ (Ext.refl _)
    refine RnL.cons (fun g1 A_ W_ hs_=>?_) ?_
    · have q15_:=hs_.val 10 rfl rfl rfl
      have cB0_2:=((HB0_1.out.drew.ext hs_.1)).cell 2 rfl
      refine Rn.val fun K_ hK_=>?_
      go_simp
      exact hK_.out _ (Ext.refl _)
    refine RnL.cons (fun g1 A_ W_ hs_=>?_) ?_
    · have q3_:=(hs_.old 3 (by kernel_rfl):A_.tmps[3]?.getD undef = .pointer (some ⟨w.heap.size+1,0,none⟩))
      refine Rn.val fun K_ hK_=>?_
      go_simp
      exact hK_.out _ (Ext.refl _)
    refine RnL.cons (fun g1 A_ W_ hs_=>?_) ?_
    · have q17_:=hs_.val 12 rfl rfl rfl
      have cB1_2:=((HB1_1.out.drew.ext hs_.1)).cell 2 rfl
      refine Rn.val fun K_ hK_=>?_
      go_simp
      exact hK_.out _ (Ext.refl _)
    refine RnL.cons (fun g1 A_ W_ hs_=>?_) ?_
    · have q16_:=hs_.val 11 rfl rfl rfl
      have q18_:=hs_.val 13 rfl rfl rfl
      refine Rn.val fun K_ hK_=>?_
      go_simp
      refine (k17_9 _ (HG.out.ext (HX1.out.drew.trans hs_.1))).mono ?_;rintro e W9_ ⟨rfl,e9_⟩;exact hK_.out _ e9_
    refine RnL.cons (fun g1 A_ W_ hs_=>?_) ?_
    · have q9_:=hs_.val 4 rfl rfl rfl
      have q14_:=hs_.val 9 rfl rfl rfl
      have q19_:=hs_.val 14 rfl rfl rfl
      refine Rn.mem fun K_ hK_=>?_
      go_simp
      exact hK_.out
    refine RnL.cons (fun g1 A_ W_ hs_=>?_) ?_
    · have q20_:=(hs_.mem 15 rfl rfl rfl).1
      refine Rn.val fun K_ hK_=>?_
      go_simp
      refine (k17_10 _ (HG.out.ext (HX1.out.drew.trans hs_.1)) (g1 15) _ ((hs_.mem 15 rfl rfl rfl).2.2 rfl)).mono ?_;rintro e W9_ ⟨rfl,e9_⟩;exact hK_.out _ e9_
    refine RnL.cons (fun g1 A_ W_ hs_=>?_) ?_
    · have q21_:=hs_.val 16 rfl rfl rfl
      refine Rn.val fun K_ hK_=>?_
      go_simp
      exact hK_.out _ (Ext.refl _)
    exact RnL.nil
  simp only [fs,Kd.value,puts,Act.put,List.setIfInBounds_toArray,List.set_cons_zero,List.set_cons_succ,Nat.reduceAdd]
  have HX2:Hid (Ext w w2):=Lib.hid (HX1.out.drew.trans hx_)
  have HB2_2:Hid (Blk w2 (g1 15) #[.string ⟨#[48]⟩,.string ⟨#[57]⟩,.string ⟨#[49,54]⟩] 29):=Lib.hid (hm_ 15 _ _ _ _ rfl).2;have HGEB2:Hid (w.heap.size≤g1 15):=Lib.hid (Nat.le_trans HX1.out.size (hm_ 15 _ _ _ _ rfl).1)
  clear hx_ hm_ hne_
  generalize g1 15=i2 at *
  clear g1
  go_wp2
  go_ret
  exact ⟨rfl,HX2.out⟩

set_option maxHeartbeats 4000000 in
theorem kroot (w:World) (g:Gd w):Calls Tryz.prog 143 #[.string ⟨#[50,53]⟩] w (Ret w (.tuple #[.string ⟨#[53]⟩,.bool true])):=by
  have HG:=Lib.hid g
  clear g
  go_enter Tryz.func143,Tryz.ntmps143
  go_wp2_with fail
  refine (k17_11 _ (HG.out.ext (Ext.refl w))).mono ?_;rintro e _ ⟨rfl,rfl⟩
  go_wp2_with fail
  refine (k17_12 _ (HG.out.ext (Ext.refl w))).mono ?_;rintro e w1 ⟨rfl,e1⟩
  have HX1:Hid (Ext w w1):=Lib.hid ((Ext.refl w).trans e1)
  clear e1
  go_wp2_with fail
  refine (k17_13 _ (HG.out.ext HX1.out)).mono ?_;rintro e w2 ⟨rfl,e2⟩
  have HX2:Hid (Ext w w2):=Lib.hid (HX1.out.trans e2)
  clear e2
  go_wp2_with fail
  refine (k17_14 _ (HG.out.ext HX2.out)).mono ?_;rintro e w3 ⟨rfl,e3⟩
  have HX3:Hid (Ext w w3):=Lib.hid (HX2.out.trans e3)
  clear e3
  go_wp2_with fail
  refine (k17_15 _ (HG.out.ext HX3.out)).mono ?_;rintro e w4 ⟨rfl,e4⟩
  have HX4:Hid (Ext w w4):=Lib.hid (HX3.out.trans e4)
  clear e4
  go_wp2_with fail
  refine (k17_16 _ (HG.out.ext HX4.out)).mono ?_;rintro e w5 ⟨rfl,e5⟩
  have HX5:Hid (Ext w w5):=Lib.hid (HX4.out.trans e5)
  clear e5
  go_wp2_with fail
  refine (k17_17 _ (HG.out.ext HX5.out)).mono ?_;rintro e _ ⟨rfl,rfl⟩
  go_wp2
  go_ret2
  exact ⟨rfl,HX5.out⟩

set_option maxHeartbeats 4000000 in
theorem klen (w:World) (g:Gd w):Calls Tryz.prog 89 #[.agg #[.string ⟨#[48]⟩,.string ⟨#[45,51]⟩,.string ⟨#[52]⟩]] w (Ret w (.tuple #[.string ⟨#[53]⟩,.int .i64 0])):=by
  have HG:=Lib.hid g
  clear g
  go_enter Tryz.func89,Tryz.ntmps89
  go_wp2_with fail
  refine (k17_18 _ (HG.out.ext ((Ext.refl w).alloc _))).mono ?_;rintro e w1 ⟨rfl,e1⟩
  have HX1:Hid (Ext w w1):=Lib.hid (((Ext.refl w).alloc _).trans e1)
  have HB0_1:Hid (Blk w1 (w.heap.size) #[.string ⟨#[48]⟩,.string ⟨#[45,51]⟩,.string ⟨#[52]⟩] 31):=Lib.hid (Blk.ext (Blk.new' (w:=_) (cs:=#[.string ⟨#[48]⟩,.string ⟨#[45,51]⟩,.string ⟨#[52]⟩]) (t:=31) (by first|rfl|(simp only [World.size_alloc];done)|(simp only [World.size_alloc];omega)|simp)) e1)
  have HGEB0:Hid (w.heap.size≤w.heap.size):=Lib.hid (by first|omega|(simp only [];omega)|(simp;omega))
  clear e1
  have c0_0:=HB0_1.out.cell 0 rfl
  have c0_1:=HB0_1.out.cell 1 rfl
  have c0_2:=HB0_1.out.cell 2 rfl
  go_wp2_with fail
  refine (kdot _ (HG.out.ext HX1.out)).mono ?_;rintro e w2 ⟨rfl,e2⟩
  have HX2:Hid (Ext w w2):=Lib.hid (HX1.out.trans e2)
  clear e2 c0_0 c0_1 c0_2
  go_wp2_with fail
  refine (kroot _ (HG.out.ext HX2.out)).mono ?_;rintro e w3 ⟨rfl,e3⟩
  have HX3:Hid (Ext w w3):=Lib.hid (HX2.out.trans e3)
  clear e3
  go_wp2_with fail
  refine (k17_19 _ (HG.out.ext HX3.out)).mono ?_;rintro e w4 ⟨rfl,e4⟩
  have HX4:Hid (Ext w w4):=Lib.hid (HX3.out.trans e4)
  clear e4
  go_wp2
  go_ret2
  exact ⟨rfl,HX4.out⟩

set_option maxHeartbeats 4000000 in
theorem kwhole (w:World) (g:Gd w):Calls Tryz.prog 45 #[.agg #[.string ⟨#[57]⟩,.string ⟨#[45,51]⟩,.string ⟨#[48]⟩,.string ⟨#[48]⟩]] w (Ret w (.tuple #[.agg #[.int .i64 3,.int .i64 (-1),.int .i64 0,.int .i64 0],.int .i64 0])):=by
  have HG:=Lib.hid g
  clear g
  have ix0:∀ W,(Instr.index 90 (.agg #[.string ⟨#[57]⟩,.string ⟨#[45,51]⟩,.string ⟨#[48]⟩,.string ⟨#[48]⟩]) (.int .i64 0)).run Tryz.prog W = .ok (.string ⟨#[57]⟩) W:=fun W=>by kernel_rfl
  have ix1:∀ W,(Instr.index 90 (.agg #[.string ⟨#[57]⟩,.string ⟨#[45,51]⟩,.string ⟨#[48]⟩,.string ⟨#[48]⟩]) (.int .i64 1)).run Tryz.prog W = .ok (.string ⟨#[45,51]⟩) W:=fun W=>by kernel_rfl
  have ix2:∀ W,(Instr.index 90 (.agg #[.string ⟨#[57]⟩,.string ⟨#[45,51]⟩,.string ⟨#[48]⟩,.string ⟨#[48]⟩]) (.int .i64 2)).run Tryz.prog W = .ok (.string ⟨#[48]⟩) W:=fun W=>by kernel_rfl
  have ix3:∀ W,(Instr.index 90 (.agg #[.string ⟨#[57]⟩,.string ⟨#[45,51]⟩,.string ⟨#[48]⟩,.string ⟨#[48]⟩]) (.int .i64 3)).run Tryz.prog W = .ok (.string ⟨#[48]⟩) W:=fun W=>by kernel_rfl
  have ix4:∀ W,(Instr.index 90 (.agg #[.string ⟨#[57]⟩,.string ⟨#[45,51]⟩,.string ⟨#[48]⟩,.string ⟨#[48]⟩]) (.int .i64 0)).run Tryz.prog W = .ok (.string ⟨#[57]⟩) W:=fun W=>by kernel_rfl
  have ix5:∀ W,(Instr.index 90 (.agg #[.string ⟨#[57]⟩,.string ⟨#[45,51]⟩,.string ⟨#[48]⟩,.string ⟨#[48]⟩]) (.int .i64 1)).run Tryz.prog W = .ok (.string ⟨#[45,51]⟩) W:=fun W=>by kernel_rfl
  have ix6:∀ W,(Instr.index 90 (.agg #[.string ⟨#[57]⟩,.string ⟨#[45,51]⟩,.string ⟨#[48]⟩,.string ⟨#[48]⟩]) (.int .i64 2)).run Tryz.prog W = .ok (.string ⟨#[48]⟩) W:=fun W=>by kernel_rfl
  have ix7:∀ W,(Instr.index 90 (.agg #[.string ⟨#[57]⟩,.string ⟨#[45,51]⟩,.string ⟨#[48]⟩,.string ⟨#[48]⟩]) (.int .i64 3)).run Tryz.prog W = .ok (.string ⟨#[48]⟩) W:=fun W=>by kernel_rfl
  have ix8:∀ W,(Instr.index 134 (.agg #[.string ⟨#[57]⟩,.string ⟨#[45,51]⟩,.string ⟨#[48]⟩,.string ⟨#[48]⟩]) (.int .i64 0)).run Tryz.prog W = .ok (.string ⟨#[57]⟩) W:=fun W=>by kernel_rfl
  have ix9:∀ W,(Instr.index 134 (.agg #[.string ⟨#[57]⟩,.string ⟨#[45,51]⟩,.string ⟨#[48]⟩,.string ⟨#[48]⟩]) (.int .i64 1)).run Tryz.prog W = .ok (.string ⟨#[45,51]⟩) W:=fun W=>by kernel_rfl
  have ix10:∀ W,(Instr.index 134 (.agg #[.string ⟨#[57]⟩,.string ⟨#[45,51]⟩,.string ⟨#[48]⟩,.string ⟨#[48]⟩]) (.int .i64 2)).run Tryz.prog W = .ok (.string ⟨#[48]⟩) W:=fun W=>by kernel_rfl
  have ix11:∀ W,(Instr.index 134 (.agg #[.string ⟨#[57]⟩,.string ⟨#[45,51]⟩,.string ⟨#[48]⟩,.string ⟨#[48]⟩]) (.int .i64 3)).run Tryz.prog W = .ok (.string ⟨#[48]⟩) W:=fun W=>by kernel_rfl
  go_enter Tryz.func45,Tryz.ntmps45
  go_wp2_with fail
  refine wp_loop_rounds 5 ?_
  rw [rounds_succ]
  go_wp2_with fail
  refine (k17_20 _ (HG.out.ext (((Ext.refl w).alloc _).alloc _))).mono ?_;rintro e w1 ⟨rfl,e1⟩
  have HX1:Hid (Ext w w1):=Lib.hid ((((Ext.refl w).alloc _).alloc _).trans e1)
  have HB0_1:Hid (Blk w1 (w.heap.size) #[.string ⟨#[57]⟩,.string ⟨#[45,51]⟩,.string ⟨#[48]⟩,.string ⟨#[48]⟩] 90):=Lib.hid (Blk.ext ((Blk.new' (w:=_) (cs:=#[.string ⟨#[57]⟩,.string ⟨#[45,51]⟩,.string ⟨#[48]⟩,.string ⟨#[48]⟩]) (t:=90) (by first|rfl|(simp only [World.size_alloc];done)|(simp only [World.size_alloc];omega)|simp)).alloc _) e1)
  have HB1_1:Hid (Blk w1 (w.heap.size+1) #[.int .i64 0,.int .i64 0,.int .i64 0,.int .i64 0] 22):=Lib.hid (Blk.ext (Blk.new' (w:=_) (cs:=#[.int .i64 0,.int .i64 0,.int .i64 0,.int .i64 0]) (t:=22) (by first|rfl|(simp only [World.size_alloc];done)|(simp only [World.size_alloc];omega)|simp)) e1)
  have HGEB0:Hid (w.heap.size≤w.heap.size):=Lib.hid (by first|omega|(simp only [];omega)|(simp;omega))
  have HGEB1:Hid (w.heap.size≤w.heap.size+1):=Lib.hid (by first|omega|(simp only [];omega)|(simp;omega))
  clear e1
  go_wp2_with fail
  refine (k17_21 _ (HG.out.ext HX1.out)).mono ?_;rintro e w2 ⟨rfl,e2⟩
  have HX2:Hid (Ext w w2):=Lib.hid (HX1.out.trans e2)
  have HB0_2:=Lib.hid (Blk.ext HB0_1.out e2)
  have HB1_2:=Lib.hid (Blk.ext HB1_1.out e2)
  clear e2
  go_wp2_with fail
  refine (k17_22 _ (HG.out.ext HX2.out)).mono ?_;rintro e w3 ⟨rfl,e3⟩
  have HX3:Hid (Ext w w3):=Lib.hid (HX2.out.trans e3)
  have HB0_3:=Lib.hid (Blk.ext HB0_2.out e3)
  have HB1_3:=Lib.hid (Blk.ext HB1_2.out e3)
  clear e3
  go_wp2_with fail
  refine (k17_16 _ (HG.out.ext HX3.out)).mono ?_;rintro e w4 ⟨rfl,e4⟩
  have HX4:Hid (Ext w w4):=Lib.hid (HX3.out.trans e4)
  have HB0_4:=Lib.hid (Blk.ext HB0_3.out e4)
  have HB1_4:=Lib.hid (Blk.ext HB1_3.out e4)
  clear e4
  go_wp2_with fail
  rw [rounds_succ]
  go_wp2_with fail
  refine (k17_23 _ (HG.out.ext HX4.out)).mono ?_;rintro e w5 ⟨rfl,e5⟩
  have HX5:Hid (Ext w w5):=Lib.hid (HX4.out.trans e5)
  have HB0_5:=Lib.hid (Blk.ext HB0_4.out e5)
  have HB1_5:=Lib.hid (Blk.ext HB1_4.out e5)
  clear e5
  go_wp2_with fail
  refine (k17_21 _ (HG.out.ext HX5.out)).mono ?_;rintro e w6 ⟨rfl,e6⟩
  have HX6:Hid (Ext w w6):=Lib.hid (HX5.out.trans e6)
  have HB0_6:=Lib.hid (Blk.ext HB0_5.out e6)
  have HB1_6:=Lib.hid (Blk.ext HB1_5.out e6)
  clear e6
  go_wp2_with fail
  refine (k17_22 _ (HG.out.ext HX6.out)).mono ?_;rintro e w7 ⟨rfl,e7⟩
  have HX7:Hid (Ext w w7):=Lib.hid (HX6.out.trans e7)
  have HB0_7:=Lib.hid (Blk.ext HB0_6.out e7)
  have HB1_7:=Lib.hid (Blk.ext HB1_6.out e7)
  clear e7
  go_wp2_with fail
  refine (k17_16 _ (HG.out.ext HX7.out)).mono ?_;rintro e w8 ⟨rfl,e8⟩
  have HX8:Hid (Ext w w8):=Lib.hid (HX7.out.trans e8)
  have HB0_8:=Lib.hid (Blk.ext HB0_7.out e8)
  have HB1_8:=Lib.hid (Blk.ext HB1_7.out e8)
  clear e8
  go_wp2_with fail
  rw [rounds_succ]
  go_wp2_with fail
  refine (k17_24 _ (HG.out.ext HX8.out)).mono ?_;rintro e w9 ⟨rfl,e9⟩
  have HX9:Hid (Ext w w9):=Lib.hid (HX8.out.trans e9)
  have HB0_9:=Lib.hid (Blk.ext HB0_8.out e9)
  have HB1_9:=Lib.hid (Blk.ext HB1_8.out e9)
  clear e9
  go_wp2_with fail
  refine (k17_21 _ (HG.out.ext HX9.out)).mono ?_;rintro e w10 ⟨rfl,e10⟩
  have HX10:Hid (Ext w w10):=Lib.hid (HX9.out.trans e10)
  have HB0_10:=Lib.hid (Blk.ext HB0_9.out e10)
  have HB1_10:=Lib.hid (Blk.ext HB1_9.out e10)
  clear e10
  go_wp2_with fail
  refine (k17_22 _ (HG.out.ext HX10.out)).mono ?_;rintro e w11 ⟨rfl,e11⟩
  have HX11:Hid (Ext w w11):=Lib.hid (HX10.out.trans e11)
  have HB0_11:=Lib.hid (Blk.ext HB0_10.out e11)
  have HB1_11:=Lib.hid (Blk.ext HB1_10.out e11)
  clear e11
  go_wp2_with fail
  refine (k17_16 _ (HG.out.ext HX11.out)).mono ?_;rintro e w12 ⟨rfl,e12⟩
  have HX12:Hid (Ext w w12):=Lib.hid (HX11.out.trans e12)
  have HB0_12:=Lib.hid (Blk.ext HB0_11.out e12)
  have HB1_12:=Lib.hid (Blk.ext HB1_11.out e12)
  clear e12
  go_wp2_with fail
  rw [rounds_succ]
  go_wp2_with fail
  refine (k17_24 _ (HG.out.ext HX12.out)).mono ?_;rintro e w13 ⟨rfl,e13⟩
  have HX13:Hid (Ext w w13):=Lib.hid (HX12.out.trans e13)
  have HB0_13:=Lib.hid (Blk.ext HB0_12.out e13)
  have HB1_13:=Lib.hid (Blk.ext HB1_12.out e13)
  clear e13
  go_wp2_with fail
  refine (k17_21 _ (HG.out.ext HX13.out)).mono ?_;rintro e w14 ⟨rfl,e14⟩
  have HX14:Hid (Ext w w14):=Lib.hid (HX13.out.trans e14)
  have HB0_14:=Lib.hid (Blk.ext HB0_13.out e14)
  have HB1_14:=Lib.hid (Blk.ext HB1_13.out e14)
  clear e14
  go_wp2_with fail
  refine (k17_22 _ (HG.out.ext HX14.out)).mono ?_;rintro e w15 ⟨rfl,e15⟩
  have HX15:Hid (Ext w w15):=Lib.hid (HX14.out.trans e15)
  have HB0_15:=Lib.hid (Blk.ext HB0_14.out e15)
  have HB1_15:=Lib.hid (Blk.ext HB1_14.out e15)
  clear e15
  go_wp2_with fail
  refine (k17_16 _ (HG.out.ext HX15.out)).mono ?_;rintro e w16 ⟨rfl,e16⟩
  have HX16:Hid (Ext w w16):=Lib.hid (HX15.out.trans e16)
  have HB0_16:=Lib.hid (Blk.ext HB0_15.out e16)
  have HB1_16:=Lib.hid (Blk.ext HB1_15.out e16)
  clear e16
  go_wp2_with fail
  rw [rounds_succ]
  go_upto_region 11 with fail
  refine wp_name (fun W=>Ext w W∧Blk W (w.heap.size) #[.string ⟨#[57]⟩,.string ⟨#[45,51]⟩,.string ⟨#[48]⟩,.string ⟨#[48]⟩] 90∧Blk W (w.heap.size+1) #[.int .i64 0,.int .i64 0,.int .i64 0,.int .i64 0] 22∧Blk W (w16.heap.size) #[.string ⟨#[]⟩,.string ⟨#[]⟩,.string ⟨#[]⟩,.string ⟨#[]⟩] 134) ⟨(HX16.out.alloc _),(HB0_16.out.alloc _),(HB1_16.out.alloc _),(Blk.new' (w:=_) (cs:=#[.string ⟨#[]⟩,.string ⟨#[]⟩,.string ⟨#[]⟩,.string ⟨#[]⟩]) (t:=134) (by first|rfl|(simp only [World.size_alloc];done)|(simp only [World.size_alloc];omega)|simp))⟩ ?_
  rintro w17 ⟨e17,bB0_17,bB1_17,bB2_17⟩
  have HX17:=Lib.hid e17;have HB0_17:=Lib.hid bB0_17;have HB1_17:=Lib.hid bB1_17;have HB2_17:=Lib.hid bB2_17
  have HGEB2:Hid (w.heap.size≤w16.heap.size):=Lib.hid (by have:=HX16.out.size;first|omega|(simp only [];omega)|(simp;omega))
  clear e17 bB0_17 bB1_17 bB2_17
  have c0_0:=HB0_17.out.cell 0 rfl
  have c0_1:=HB0_17.out.cell 1 rfl
  have c0_2:=HB0_17.out.cell 2 rfl
  have c0_3:=HB0_17.out.cell 3 rfl
  go_wp2_with fail
  refine wp_loop_rounds 5 ?_
  rw [rounds_succ]
  clear c0_0 c0_1 c0_2 c0_3
  go_wp2_with fail
  refine (k17_25 _ (HG.out.ext HX17.out)).mono ?_;rintro e w18 ⟨rfl,e18⟩
  have HX18:Hid (Ext w w18):=Lib.hid (HX17.out.trans e18)
  have HB1_18:=Lib.hid (Blk.ext HB1_17.out e18)
  have HB2_18:=Lib.hid (Blk.ext HB2_17.out e18)
  clear e18
  go_wp2_with fail
  refine (k17_20 _ (HG.out.ext HX18.out)).mono ?_;rintro e w19 ⟨rfl,e19⟩
  have HX19:Hid (Ext w w19):=Lib.hid (HX18.out.trans e19)
  have HB1_19:=Lib.hid (Blk.ext HB1_18.out e19)
  have HB2_19:=Lib.hid (Blk.ext HB2_18.out e19)
  clear e19
  have c2_0:=HB2_19.out.cell 0 rfl
  have f2_0:=HB2_19.out.free 0
  go_upto_region 15 with fail
  refine wp_name (fun W=>Ext w W∧Blk W (w.heap.size+1) #[.int .i64 0,.int .i64 0,.int .i64 0,.int .i64 0] 22∧Blk W (w16.heap.size) #[.string ⟨#[57]⟩,.string ⟨#[]⟩,.string ⟨#[]⟩,.string ⟨#[]⟩] 134) ⟨(HX19.out.setCell (by have:=HGEB2.out;first|omega|(simp only [];omega)|(simp;omega)) _),(HB1_19.out.other (a:=⟨w16.heap.size,0,none⟩) _ (by have:=HB1_16.out.lt;first|omega|(simp only [];omega)|(simp;omega))),(HB2_19.out.set 0 (.string ⟨#[57]⟩))⟩ ?_
  rintro w20 ⟨e20,bB1_20,bB2_20⟩
  have HX20:=Lib.hid e20;have HB1_20:=Lib.hid bB1_20;have HB2_20:=Lib.hid bB2_20
  clear e20 bB1_20 bB2_20 c2_0 f2_0
  have c2_0:=HB2_20.out.cell 0 rfl
  go_wp2_with fail
  refine (k17_26 _ (HG.out.ext HX20.out)).mono ?_;rintro e w21 ⟨rfl,e21⟩
  have HX21:Hid (Ext w w21):=Lib.hid (HX20.out.trans e21)
  have HB1_21:=Lib.hid (Blk.ext HB1_20.out e21)
  have HB2_21:=Lib.hid (Blk.ext HB2_20.out e21)
  clear e21 c2_0
  have c2_0:=HB2_21.out.cell 0 rfl
  go_wp2_with fail
  refine (k17_27 _ (HG.out.ext HX21.out)).mono ?_;rintro e _ ⟨rfl,rfl⟩
  clear c2_0
  go_wp2_with fail
  rw [rounds_succ]
  go_wp2_with fail
  refine (k17_28 _ (HG.out.ext HX21.out)).mono ?_;rintro e w22 ⟨rfl,e22⟩
  have HX22:Hid (Ext w w22):=Lib.hid (HX21.out.trans e22)
  have HB1_22:=Lib.hid (Blk.ext HB1_21.out e22)
  have HB2_22:=Lib.hid (Blk.ext HB2_21.out e22)
  clear e22
  go_wp2_with fail
  refine (k17_23 _ (HG.out.ext HX22.out)).mono ?_;rintro e w23 ⟨rfl,e23⟩
  have HX23:Hid (Ext w w23):=Lib.hid (HX22.out.trans e23)
  have HB1_23:=Lib.hid (Blk.ext HB1_22.out e23)
  have HB2_23:=Lib.hid (Blk.ext HB2_22.out e23)
  clear e23
  have c2_1:=HB2_23.out.cell 1 rfl
  have f2_1:=HB2_23.out.free 1
  go_upto_region 15 with fail
  refine wp_name (fun W=>Ext w W∧Blk W (w.heap.size+1) #[.int .i64 0,.int .i64 0,.int .i64 0,.int .i64 0] 22∧Blk W (w16.heap.size) #[.string ⟨#[57]⟩,.string ⟨#[45,51]⟩,.string ⟨#[]⟩,.string ⟨#[]⟩] 134) ⟨(HX23.out.setCell (by have:=HGEB2.out;first|omega|(simp only [];omega)|(simp;omega)) _),(HB1_23.out.other (a:=⟨w16.heap.size,1,none⟩) _ (by have:=HB1_16.out.lt;first|omega|(simp only [];omega)|(simp;omega))),(HB2_23.out.set 1 (.string ⟨#[45,51]⟩))⟩ ?_
  rintro w24 ⟨e24,bB1_24,bB2_24⟩
  have HX24:=Lib.hid e24;have HB1_24:=Lib.hid bB1_24;have HB2_24:=Lib.hid bB2_24
  clear e24 bB1_24 bB2_24 c2_1 f2_1
  have c2_1:=HB2_24.out.cell 1 rfl
  go_wp2_with fail
  refine (k17_29 _ (HG.out.ext HX24.out)).mono ?_;rintro e w25 ⟨rfl,e25⟩
  have HX25:Hid (Ext w w25):=Lib.hid (HX24.out.trans e25)
  have HB1_25:=Lib.hid (Blk.ext HB1_24.out e25)
  have HB2_25:=Lib.hid (Blk.ext HB2_24.out e25)
  clear e25 c2_1
  go_wp2_with fail
  rw [rounds_succ]
  go_wp2_with fail
  refine (k17_30 _ (HG.out.ext HX25.out)).mono ?_;rintro e w26 ⟨rfl,e26⟩
  have HX26:Hid (Ext w w26):=Lib.hid (HX25.out.trans e26)
  have HB1_26:=Lib.hid (Blk.ext HB1_25.out e26)
  have HB2_26:=Lib.hid (Blk.ext HB2_25.out e26)
  clear e26
  go_wp2_with fail
  refine (k17_24 _ (HG.out.ext HX26.out)).mono ?_;rintro e w27 ⟨rfl,e27⟩
  have HX27:Hid (Ext w w27):=Lib.hid (HX26.out.trans e27)
  have HB1_27:=Lib.hid (Blk.ext HB1_26.out e27)
  have HB2_27:=Lib.hid (Blk.ext HB2_26.out e27)
  clear e27
  have c2_2:=HB2_27.out.cell 2 rfl
  have f2_2:=HB2_27.out.free 2
  go_upto_region 15 with fail
  refine wp_name (fun W=>Ext w W∧Blk W (w.heap.size+1) #[.int .i64 0,.int .i64 0,.int .i64 0,.int .i64 0] 22∧Blk W (w16.heap.size) #[.string ⟨#[57]⟩,.string ⟨#[45,51]⟩,.string ⟨#[48]⟩,.string ⟨#[]⟩] 134) ⟨(HX27.out.setCell (by have:=HGEB2.out;first|omega|(simp only [];omega)|(simp;omega)) _),(HB1_27.out.other (a:=⟨w16.heap.size,2,none⟩) _ (by have:=HB1_16.out.lt;first|omega|(simp only [];omega)|(simp;omega))),(HB2_27.out.set 2 (.string ⟨#[48]⟩))⟩ ?_
  rintro w28 ⟨e28,bB1_28,bB2_28⟩
  have HX28:=Lib.hid e28;have HB1_28:=Lib.hid bB1_28;have HB2_28:=Lib.hid bB2_28
  clear e28 bB1_28 bB2_28 c2_2 f2_2
  have c2_2:=HB2_28.out.cell 2 rfl
  go_wp2_with fail
  refine (k17_31 _ (HG.out.ext HX28.out)).mono ?_;rintro e w29 ⟨rfl,e29⟩
  have HX29:Hid (Ext w w29):=Lib.hid (HX28.out.trans e29)
  have HB1_29:=Lib.hid (Blk.ext HB1_28.out e29)
  have HB2_29:=Lib.hid (Blk.ext HB2_28.out e29)
  clear e29 c2_2
  go_wp2_with fail
  rw [rounds_succ]
  go_wp2_with fail
  refine (k17_30 _ (HG.out.ext HX29.out)).mono ?_;rintro e w30 ⟨rfl,e30⟩
  have HX30:Hid (Ext w w30):=Lib.hid (HX29.out.trans e30)
  have HB1_30:=Lib.hid (Blk.ext HB1_29.out e30)
  have HB2_30:=Lib.hid (Blk.ext HB2_29.out e30)
  clear e30
  go_wp2_with fail
  refine (k17_24 _ (HG.out.ext HX30.out)).mono ?_;rintro e w31 ⟨rfl,e31⟩
  have HX31:Hid (Ext w w31):=Lib.hid (HX30.out.trans e31)
  have HB1_31:=Lib.hid (Blk.ext HB1_30.out e31)
  have HB2_31:=Lib.hid (Blk.ext HB2_30.out e31)
  clear e31
  have c2_3:=HB2_31.out.cell 3 rfl
  have f2_3:=HB2_31.out.free 3
  go_upto_region 15 with fail
  refine wp_name (fun W=>Ext w W∧Blk W (w.heap.size+1) #[.int .i64 0,.int .i64 0,.int .i64 0,.int .i64 0] 22∧Blk W (w16.heap.size) #[.string ⟨#[57]⟩,.string ⟨#[45,51]⟩,.string ⟨#[48]⟩,.string ⟨#[48]⟩] 134) ⟨(HX31.out.setCell (by have:=HGEB2.out;first|omega|(simp only [];omega)|(simp;omega)) _),(HB1_31.out.other (a:=⟨w16.heap.size,3,none⟩) _ (by have:=HB1_16.out.lt;first|omega|(simp only [];omega)|(simp;omega))),(HB2_31.out.set 3 (.string ⟨#[48]⟩))⟩ ?_
  rintro w32 ⟨e32,bB1_32,bB2_32⟩
  have HX32:=Lib.hid e32;have HB1_32:=Lib.hid bB1_32;have HB2_32:=Lib.hid bB2_32
  clear e32 bB1_32 bB2_32 c2_3 f2_3
  have c2_3:=HB2_32.out.cell 3 rfl
  go_wp2_with fail
  refine (k17_31 _ (HG.out.ext HX32.out)).mono ?_;rintro e w33 ⟨rfl,e33⟩
  have HX33:Hid (Ext w w33):=Lib.hid (HX32.out.trans e33)
  have HB1_33:=Lib.hid (Blk.ext HB1_32.out e33)
  have HB2_33:=Lib.hid (Blk.ext HB2_32.out e33)
  clear e33 c2_3
  go_wp2_with fail
  rw [rounds_succ]
  go_upto_region 22 with fail
  refine wp_name (fun W=>Ext w W∧Blk W (w.heap.size+1) #[.int .i64 0,.int .i64 0,.int .i64 0,.int .i64 0] 22∧Blk W (w16.heap.size) #[.string ⟨#[57]⟩,.string ⟨#[45,51]⟩,.string ⟨#[48]⟩,.string ⟨#[48]⟩] 134∧Blk W (w33.heap.size) #[.int .i64 0,.int .i64 0,.int .i64 0,.int .i64 0] 22) ⟨(HX33.out.alloc _),(HB1_33.out.alloc _),(HB2_33.out.alloc _),(Blk.new' (w:=_) (cs:=#[.int .i64 0,.int .i64 0,.int .i64 0,.int .i64 0]) (t:=22) (by first|rfl|(simp only [World.size_alloc];done)|(simp only [World.size_alloc];omega)|simp))⟩ ?_
  rintro w34 ⟨e34,bB1_34,bB2_34,bB3_34⟩
  have HX34:=Lib.hid e34;have HB1_34:=Lib.hid bB1_34;have HB2_34:=Lib.hid bB2_34;have HB3_34:=Lib.hid bB3_34
  have HGEB3:Hid (w.heap.size≤w33.heap.size):=Lib.hid (by have:=HX33.out.size;first|omega|(simp only [];omega)|(simp;omega))
  clear e34 bB1_34 bB2_34 bB3_34
  have c2_0:=HB2_34.out.cell 0 rfl
  have c2_1:=HB2_34.out.cell 1 rfl
  have c2_2:=HB2_34.out.cell 2 rfl
  have c2_3:=HB2_34.out.cell 3 rfl
  go_wp2_with fail
  refine wp_loop_rounds 5 ?_
  rw [rounds_succ]
  clear c2_0 c2_1 c2_2 c2_3
  go_wp2_with fail
  refine (k17_32 _ (HG.out.ext HX34.out)).mono ?_;rintro e w35 ⟨rfl,e35⟩
  have HX35:Hid (Ext w w35):=Lib.hid (HX34.out.trans e35)
  have HB1_35:=Lib.hid (Blk.ext HB1_34.out e35)
  have HB3_35:=Lib.hid (Blk.ext HB3_34.out e35)
  clear e35
  go_wp2_with fail
  refine (k17_33 _ (HG.out.ext HX35.out)).mono ?_;rintro e w36 ⟨rfl,e36⟩
  have HX36:Hid (Ext w w36):=Lib.hid (HX35.out.trans e36)
  have HB1_36:=Lib.hid (Blk.ext HB1_35.out e36)
  have HB3_36:=Lib.hid (Blk.ext HB3_35.out e36)
  clear e36
  have c3_0:=HB3_36.out.cell 0 rfl
  have f3_0:=HB3_36.out.free 0
  go_wp2_with fail
  rw [rounds_succ]
  clear c3_0 f3_0
  go_wp2_with fail
  refine (k17_34 _ (HG.out.ext (HX36.out.setCell (by have:=HGEB3.out;first|omega|(simp only [];omega)|(simp;omega)) _))).mono ?_;rintro e w37 ⟨rfl,e37⟩
  have HX37:Hid (Ext w w37):=Lib.hid ((HX36.out.setCell (by have:=HGEB3.out;first|omega|(simp only [];omega)|(simp;omega)) _).trans e37)
  have HB1_37:Hid (Blk w37 (w.heap.size+1) #[.int .i64 0,.int .i64 0,.int .i64 0,.int .i64 0] 22):=Lib.hid (Blk.ext (HB1_36.out.other (a:=⟨w33.heap.size,0,none⟩) _ (by have:=HB1_33.out.lt;first|omega|(simp only [];omega)|(simp;omega))) e37)
  have HB3_37:Hid (Blk w37 (w33.heap.size) #[.int .i64 3,.int .i64 0,.int .i64 0,.int .i64 0] 22):=Lib.hid (Blk.ext (HB3_36.out.set 0 (.int .i64 3)) e37)
  clear e37
  go_wp2_with fail
  refine (k17_35 _ (HG.out.ext HX37.out)).mono ?_;rintro e w38 ⟨rfl,e38⟩
  have HX38:Hid (Ext w w38):=Lib.hid (HX37.out.trans e38)
  have HB1_38:=Lib.hid (Blk.ext HB1_37.out e38)
  have HB3_38:=Lib.hid (Blk.ext HB3_37.out e38)
  clear e38
  have c3_1:=HB3_38.out.cell 1 rfl
  have f3_1:=HB3_38.out.free 1
  go_wp2_with fail
  rw [rounds_succ]
  clear c3_1 f3_1
  go_wp2_with fail
  refine (k17_36 _ (HG.out.ext (HX38.out.setCell (by have:=HGEB3.out;first|omega|(simp only [];omega)|(simp;omega)) _))).mono ?_;rintro e w39 ⟨rfl,e39⟩
  have HX39:Hid (Ext w w39):=Lib.hid ((HX38.out.setCell (by have:=HGEB3.out;first|omega|(simp only [];omega)|(simp;omega)) _).trans e39)
  have HB1_39:Hid (Blk w39 (w.heap.size+1) #[.int .i64 0,.int .i64 0,.int .i64 0,.int .i64 0] 22):=Lib.hid (Blk.ext (HB1_38.out.other (a:=⟨w33.heap.size,1,none⟩) _ (by have:=HB1_33.out.lt;first|omega|(simp only [];omega)|(simp;omega))) e39)
  have HB3_39:Hid (Blk w39 (w33.heap.size) #[.int .i64 3,.int .i64 (-1),.int .i64 0,.int .i64 0] 22):=Lib.hid (Blk.ext (HB3_38.out.set 1 (.int .i64 (-1))) e39)
  clear e39
  go_wp2_with fail
  refine (k17_37 _ (HG.out.ext HX39.out)).mono ?_;rintro e w40 ⟨rfl,e40⟩
  have HX40:Hid (Ext w w40):=Lib.hid (HX39.out.trans e40)
  have HB1_40:=Lib.hid (Blk.ext HB1_39.out e40)
  have HB3_40:=Lib.hid (Blk.ext HB3_39.out e40)
  clear e40
  have c3_2:=HB3_40.out.cell 2 rfl
  have f3_2:=HB3_40.out.free 2
  go_wp2_with fail
  rw [rounds_succ]
  clear c3_2 f3_2
  go_wp2_with fail
  refine (k17_36 _ (HG.out.ext (HX40.out.setCell (by have:=HGEB3.out;first|omega|(simp only [];omega)|(simp;omega)) _))).mono ?_;rintro e w41 ⟨rfl,e41⟩
  have HX41:Hid (Ext w w41):=Lib.hid ((HX40.out.setCell (by have:=HGEB3.out;first|omega|(simp only [];omega)|(simp;omega)) _).trans e41)
  have HB1_41:Hid (Blk w41 (w.heap.size+1) #[.int .i64 0,.int .i64 0,.int .i64 0,.int .i64 0] 22):=Lib.hid (Blk.ext (HB1_40.out.other (a:=⟨w33.heap.size,2,none⟩) _ (by have:=HB1_33.out.lt;first|omega|(simp only [];omega)|(simp;omega))) e41)
  have HB3_41:Hid (Blk w41 (w33.heap.size) #[.int .i64 3,.int .i64 (-1),.int .i64 0,.int .i64 0] 22):=Lib.hid (Blk.ext (HB3_40.out.set 2 (.int .i64 0)) e41)
  clear e41
  go_wp2_with fail
  refine (k17_37 _ (HG.out.ext HX41.out)).mono ?_;rintro e w42 ⟨rfl,e42⟩
  have HX42:Hid (Ext w w42):=Lib.hid (HX41.out.trans e42)
  have HB1_42:=Lib.hid (Blk.ext HB1_41.out e42)
  have HB3_42:=Lib.hid (Blk.ext HB3_41.out e42)
  clear e42
  have c3_3:=HB3_42.out.cell 3 rfl
  have f3_3:=HB3_42.out.free 3
  go_wp2_with fail
  rw [rounds_succ]
  clear c3_3 f3_3
  go_upto_region 33 with fail
  refine wp_name (fun W=>Ext w W∧Blk W (w.heap.size+1) #[.int .i64 0,.int .i64 0,.int .i64 0,.int .i64 0] 22∧Blk W (w33.heap.size) #[.int .i64 3,.int .i64 (-1),.int .i64 0,.int .i64 0] 22) ⟨(HX42.out.setCell (by have:=HGEB3.out;first|omega|(simp only [];omega)|(simp;omega)) _),(HB1_42.out.other (a:=⟨w33.heap.size,3,none⟩) _ (by have:=HB1_33.out.lt;first|omega|(simp only [];omega)|(simp;omega))),(HB3_42.out.set 3 (.int .i64 0))⟩ ?_
  rintro w43 ⟨e43,bB1_43,bB3_43⟩
  have HX43:=Lib.hid e43;have HB1_43:=Lib.hid bB1_43;have HB3_43:=Lib.hid bB3_43
  clear e43 bB1_43 bB3_43
  have c3_0:=HB3_43.out.cell 0 rfl
  have c3_1:=HB3_43.out.cell 1 rfl
  have c3_2:=HB3_43.out.cell 2 rfl
  have c3_3:=HB3_43.out.cell 3 rfl
  have c1_0:=HB1_43.out.cell 0 rfl
  have f1_0:=HB1_43.out.free 0
  have c1_1:=HB1_43.out.cell 1 rfl
  have f1_1:=HB1_43.out.free 1
  have c1_2:=HB1_43.out.cell 2 rfl
  have f1_2:=HB1_43.out.free 2
  have c1_3:=HB1_43.out.cell 3 rfl
  have f1_3:=HB1_43.out.free 3
  go_wp2_with fail
  refine wp_name (fun W=>Ext w W∧Blk W (w.heap.size+1) #[.int .i64 3,.int .i64 (-1),.int .i64 0,.int .i64 0] 22) ⟨((((HX43.out.setCell (by have:=HGEB1.out;first|omega|(simp only [];omega)|(simp;omega)) _).setCell (by have:=HGEB1.out;first|omega|(simp only [];omega)|(simp;omega)) _).setCell (by have:=HGEB1.out;first|omega|(simp only [];omega)|(simp;omega)) _).setCell (by have:=HGEB1.out;first|omega|(simp only [];omega)|(simp;omega)) _),((((HB1_43.out.set 0 (.int .i64 3)).set 1 (.int .i64 (-1))).set 2 (.int .i64 0)).set 3 (.int .i64 0))⟩ ?_
  rintro w44 ⟨e44,bB1_44⟩
  have HX44:=Lib.hid e44;have HB1_44:=Lib.hid bB1_44
  clear e44 bB1_44 c3_0 c3_1 c3_2 c3_3 c1_0 f1_0 c1_1 f1_1 c1_2 f1_2 c1_3 f1_3
  have gB1_0:=HB1_44.out.cell 0 rfl
  have gB1_1:=HB1_44.out.cell 1 rfl
  have gB1_2:=HB1_44.out.cell 2 rfl
  have gB1_3:=HB1_44.out.cell 3 rfl
  refine bodyPost_ret (v:=.tuple #[.agg #[.int .i64 3,.int .i64 (-1),.int .i64 0,.int .i64 0],.int .i64 0]) (by simp [results,Tryz.results45,go_sem,gB1_0,gB1_1,gB1_2,gB1_3]) rfl ⟨rfl,HX44.out⟩

set_option maxHeartbeats 4000000 in
theorem kuntilt (w:World) (g:Gd w):Calls Tryz.prog 40 #[.agg #[.string ⟨#[48]⟩,.string ⟨#[45,51]⟩,.string ⟨#[52]⟩]] w (Ret w (.tuple #[.agg #[.int .i64 3,.int .i64 (-1),.int .i64 0,.int .i64 0],.int .i64 0])):=by
  have HG:=Lib.hid g
  clear g
  go_enter Tryz.func40,Tryz.ntmps40
  go_wp2_with fail
  refine (k17_18 _ (HG.out.ext (((Ext.refl w).alloc _).alloc _))).mono ?_;rintro e w1 ⟨rfl,e1⟩
  have HX1:Hid (Ext w w1):=Lib.hid ((((Ext.refl w).alloc _).alloc _).trans e1)
  have HB0_1:Hid (Blk w1 (w.heap.size) #[.string ⟨#[48]⟩,.string ⟨#[45,51]⟩,.string ⟨#[52]⟩] 31):=Lib.hid (Blk.ext ((Blk.new' (w:=_) (cs:=#[.string ⟨#[48]⟩,.string ⟨#[45,51]⟩,.string ⟨#[52]⟩]) (t:=31) (by first|rfl|(simp only [World.size_alloc];done)|(simp only [World.size_alloc];omega)|simp)).alloc _) e1)
  have HB1_1:Hid (Blk w1 (w.heap.size+1) #[.int .i64 0,.int .i64 0,.int .i64 0,.int .i64 0] 22):=Lib.hid (Blk.ext (Blk.new' (w:=_) (cs:=#[.int .i64 0,.int .i64 0,.int .i64 0,.int .i64 0]) (t:=22) (by first|rfl|(simp only [World.size_alloc];done)|(simp only [World.size_alloc];omega)|simp)) e1)
  have HGEB0:Hid (w.heap.size≤w.heap.size):=Lib.hid (by first|omega|(simp only [];omega)|(simp;omega))
  have HGEB1:Hid (w.heap.size≤w.heap.size+1):=Lib.hid (by first|omega|(simp only [];omega)|(simp;omega))
  clear e1
  have c0_0:=HB0_1.out.cell 0 rfl
  have c0_1:=HB0_1.out.cell 1 rfl
  have c0_2:=HB0_1.out.cell 2 rfl
  go_wp2_with fail
  refine (klen _ (HG.out.ext HX1.out)).mono ?_;rintro e w2 ⟨rfl,e2⟩
  have HX2:Hid (Ext w w2):=Lib.hid (HX1.out.trans e2)
  have HB0_2:=Lib.hid (Blk.ext HB0_1.out e2)
  have HB1_2:=Lib.hid (Blk.ext HB1_1.out e2)
  clear e2 c0_0 c0_1 c0_2
  have c0_2:=HB0_2.out.cell 2 rfl
  go_wp2_with fail
  refine (k17_38 _ (HG.out.ext HX2.out)).mono ?_;rintro e w3 ⟨rfl,e3⟩
  have HX3:Hid (Ext w w3):=Lib.hid (HX2.out.trans e3)
  have HB0_3:=Lib.hid (Blk.ext HB0_2.out e3)
  have HB1_3:=Lib.hid (Blk.ext HB1_2.out e3)
  clear e3 c0_2
  go_wp2_with fail
  refine wp_name (fun W=>Ext w W∧Blk W (w.heap.size) #[.string ⟨#[48]⟩,.string ⟨#[45,51]⟩,.string ⟨#[52]⟩] 31∧Blk W (w.heap.size+1) #[.int .i64 0,.int .i64 0,.int .i64 0,.int .i64 0] 22) ⟨HX3.out,HB0_3.out,HB1_3.out⟩ ?_
  rintro w4 ⟨e4,bB0_4,bB1_4⟩
  have HX4:=Lib.hid e4;have HB0_4:=Lib.hid bB0_4;have HB1_4:=Lib.hid bB1_4
  clear e4 bB0_4 bB1_4
  refine region_lin_s (X:=w) [⟨w.heap.size+1,#[.int .i64 0,.int .i64 0,.int .i64 0,.int .i64 0],#[.int .i64 3,.int .i64 (-1),.int .i64 0,.int .i64 0],22⟩] [.val (.string ⟨#[57]⟩),.val (.pointer (some ⟨w.heap.size,1,none⟩)),.val (.string ⟨#[45,51]⟩),.val (.pointer (some ⟨w.heap.size,0,none⟩)),.val (.string ⟨#[48]⟩),.val (.string ⟨#[48]⟩),.val (.agg #[.string ⟨#[57]⟩,.string ⟨#[45,51]⟩,.string ⟨#[48]⟩,.string ⟨#[48]⟩]),.val (.tuple #[.agg #[.int .i64 3,.int .i64 (-1),.int .i64 0,.int .i64 0],.int .i64 0]),.val (.agg #[.int .i64 3,.int .i64 (-1),.int .i64 0,.int .i64 0]),.val (.int .i64 0),.st 0,.val (.int .i64 0)] (by kernel_rfl) (by kernel_rfl) (by kernel_rfl) HX4.out.drew (List.forall_mem_cons.2 ⟨⟨HGEB1.out,HB1_4.out.drew⟩,(fun _ h=>by cases h)⟩) dis1 ?_ (fun g4 w5 hx_ hk_ hb_ hm_ hne_=>?_)
  · skip
    refine RnL.cons (fun g4 A_ W_ hs_=>?_) ?_
    · have q7_:=(hs_.old 7 (by kernel_rfl):A_.tmps[7]?.getD undef = .string ⟨#[57]⟩)
      refine Rn.val fun K_ hK_=>?_
      go_simp
      exact hK_.out _ (Ext.refl _)
    refine RnL.cons (fun g4 A_ W_ hs_=>?_) ?_
    · have q1_:=(hs_.old 1 (by kernel_rfl):A_.tmps[1]?.getD undef = .pointer (some ⟨w.heap.size,0,none⟩))
      refine Rn.val fun K_ hK_=>?_
      go_simp
      exact hK_.out _ (Ext.refl _)
    refine RnL.cons (fun g4 A_ W_ hs_=>?_) ?_
    · have q45_:=hs_.val 1 rfl rfl rfl
      have cB0_1:=((hs_.keep (fm2 (show w.heap.size+1≠w.heap.size from by first|omega|(simp only [];omega)|(simp;omega)) fm0) HB0_4.out.drew)).cell 1 rfl
      refine Rn.val fun K_ hK_=>?_
      go_simp
      exact hK_.out _ (Ext.refl _)
    refine RnL.cons (fun g4 A_ W_ hs_=>?_) ?_
    · have q1_:=(hs_.old 1 (by kernel_rfl):A_.tmps[1]?.getD undef = .pointer (some ⟨w.heap.size,0,none⟩))
      refine Rn.val fun K_ hK_=>?_
      go_simp
      exact hK_.out _ (Ext.refl _)
    refine RnL.cons (fun g4 A_ W_ hs_=>?_) ?_
    · have q47_:=hs_.val 3 rfl rfl rfl
      have cB0_0:=((hs_.keep (fm2 (show w.heap.size+1≠w.heap.size from by first|omega|(simp only [];omega)|(simp;omega)) fm0) HB0_4.out.drew)).cell 0 rfl
      refine Rn.val fun K_ hK_=>?_
      go_simp
      exact hK_.out _ (Ext.refl _)
    refine RnL.cons (fun g4 A_ W_ hs_=>?_) ?_
    · have q48_:=hs_.val 4 rfl rfl rfl
      refine Rn.val fun K_ hK_=>?_
      go_simp
      refine (k17_39 _ (HG.out.ext hs_.1)).mono ?_;rintro e W9_ ⟨rfl,e9_⟩;exact hK_.out _ e9_
    refine RnL.cons (fun g4 A_ W_ hs_=>?_) ?_
    · have q44_:=hs_.val 0 rfl rfl rfl
      have q46_:=hs_.val 2 rfl rfl rfl
      have q49_:=hs_.val 5 rfl rfl rfl
      refine Rn.val fun K_ hK_=>?_
      go_simp
      exact hK_.out _ (Ext.refl _)
    refine RnL.cons (fun g4 A_ W_ hs_=>?_) ?_
    · have q50_:=hs_.val 6 rfl rfl rfl
      refine Rn.val fun K_ hK_=>?_
      go_simp
      refine (kwhole _ (HG.out.ext hs_.1)).mono ?_;rintro e W9_ ⟨rfl,e9_⟩;exact hK_.out _ e9_
    refine RnL.cons (fun g4 A_ W_ hs_=>?_) ?_
    · have q51_:=hs_.val 7 rfl rfl rfl
      refine Rn.val fun K_ hK_=>?_
      go_simp
      exact hK_.out _ (Ext.refl _)
    refine RnL.cons (fun g4 A_ W_ hs_=>?_) ?_
    · have q51_:=hs_.val 7 rfl rfl rfl
      refine Rn.val fun K_ hK_=>?_
      go_simp
      exact hK_.out _ (Ext.refl _)
    refine RnL.cons (fun g4 A_ W_ hs_=>?_) ?_
    · have q2_:=(hs_.old 2 (by kernel_rfl):A_.tmps[2]?.getD undef = .pointer (some ⟨w.heap.size+1,0,none⟩))
      have q52_:=hs_.val 8 rfl rfl rfl
      refine Rn.st (n:=0) rfl fun hB0 K_ hK_=>?_
      have hB:Blk W_ (w.heap.size+1) #[.int .i64 0,.int .i64 0,.int .i64 0,.int .i64 0] 22:=hB0;clear hB0
      have c_0:=hB.cell 0 rfl;have f_0:=hB.free 0
      have c_1:=hB.cell 1 rfl;have f_1:=hB.free 1
      have c_2:=hB.cell 2 rfl;have f_2:=hB.free 2
      have c_3:=hB.cell 3 rfl;have f_3:=hB.free 3
      have HB:=Lib.hid hB;clear hB
      go_simp
      exact hK_.out _ (((((Only.refl _ _).set 0 _).set 1 _).set 2 _).set 3 _) ((((HB.out.set 0 _).set 1 _).set 2 _).set 3 _)
    refine RnL.cons (fun g4 A_ W_ hs_=>?_) ?_
    · have q53_:=hs_.val 9 rfl rfl rfl
      refine Rn.val fun K_ hK_=>?_
      go_simp
      exact hK_.out _ (Ext.refl _)
    exact RnL.nil
  simp only [fs,Kd.value,puts,Act.put,List.setIfInBounds_toArray,List.set_cons_zero,List.set_cons_succ]
  have HX5:Hid (Ext w w5):=Lib.hid hx_
  have HB1_5:Hid (Blk w5 (w.heap.size+1) #[.int .i64 3,.int .i64 (-1),.int .i64 0,.int .i64 0] 22):=Lib.hid (hb_ 0 _ rfl)
  clear hx_ hm_ hne_ hk_ hb_
  go_wp2_with fail
  have gB1_0:=HB1_5.out.cell 0 rfl
  have gB1_1:=HB1_5.out.cell 1 rfl
  have gB1_2:=HB1_5.out.cell 2 rfl
  have gB1_3:=HB1_5.out.cell 3 rfl
  refine bodyPost_ret (v:=.tuple #[.agg #[.int .i64 3,.int .i64 (-1),.int .i64 0,.int .i64 0],.int .i64 0]) (by simp [results,Tryz.results40,go_sem,gB1_0,gB1_1,gB1_2,gB1_3]) rfl ⟨rfl,HX5.out⟩

set_option maxHeartbeats 4000000 in
theorem known17_c (w:World) (g:Gd w):Calls Tryz.prog 11 #[] w (Ret w (.bool true)):=by
  have HG:=Lib.hid g
  clear g
  have eqa0:=eq4 3 (-1) 0 0 3 (-1) 0 0
  go_enter Tryz.func11,Tryz.ntmps11
  go_wp2_with fail
  refine (kof17_1_0_0 _ (HG.out.ext (Ext.refl w))).mono ?_;rintro e w1 ⟨rfl,e1⟩
  have HX1:Hid (Ext w w1):=Lib.hid ((Ext.refl w).trans e1)
  clear e1
  go_wp2_with fail
  refine (k17_40 _ (HG.out.ext HX1.out)).mono ?_;rintro e w2 ⟨rfl,e2⟩
  have HX2:Hid (Ext w w2):=Lib.hid (HX1.out.trans e2)
  clear e2
  go_wp2_with fail
  refine (korder _ (HG.out.ext (HX2.out.alloc _))).mono ?_;rintro e w3 ⟨rfl,e3⟩
  have HX3:Hid (Ext w w3):=Lib.hid ((HX2.out.alloc _).trans e3)
  have HB0_3:Hid (Blk w3 (w2.heap.size) #[.string ⟨#[51,47,53]⟩,.string ⟨#[52,47,53]⟩,.string ⟨#[48]⟩] 31):=Lib.hid (Blk.ext (Blk.new' (w:=_) (cs:=#[.string ⟨#[51,47,53]⟩,.string ⟨#[52,47,53]⟩,.string ⟨#[48]⟩]) (t:=31) (by first|rfl|(simp only [World.size_alloc];done)|(simp only [World.size_alloc];omega)|simp)) e3)
  have HGEB0:Hid (w.heap.size≤w2.heap.size):=Lib.hid (by have:=HX2.out.size;first|omega|(simp only [];omega)|(simp;omega))
  clear e3
  go_wp2_with fail
  refine (kof17_0_m3_4 _ (HG.out.ext HX3.out)).mono ?_;rintro e w4 ⟨rfl,e4⟩
  have HX4:Hid (Ext w w4):=Lib.hid (HX3.out.trans e4)
  have HB0_4:=Lib.hid (Blk.ext HB0_3.out e4)
  clear e4
  go_wp2_with fail
  refine (kuntilt _ (HG.out.ext HX4.out)).mono ?_;rintro e w5 ⟨rfl,e5⟩
  have HX5:Hid (Ext w w5):=Lib.hid (HX4.out.trans e5)
  have HB0_5:=Lib.hid (Blk.ext HB0_4.out e5)
  clear e5
  go_wp2_with fail
  refine (kcos _ (HG.out.ext (HX5.out.alloc _))).mono ?_;rintro e w6 ⟨rfl,e6⟩
  have HX6:Hid (Ext w w6):=Lib.hid ((HX5.out.alloc _).trans e6)
  have HB0_6:Hid (Blk w6 (w2.heap.size) #[.string ⟨#[51,47,53]⟩,.string ⟨#[52,47,53]⟩,.string ⟨#[48]⟩] 31):=Lib.hid (Blk.ext (HB0_5.out.alloc _) e6)
  have HB1_6:Hid (Blk w6 (w5.heap.size) #[.int .i64 3,.int .i64 (-1),.int .i64 0,.int .i64 0] 22):=Lib.hid (Blk.ext (Blk.new' (w:=_) (cs:=#[.int .i64 3,.int .i64 (-1),.int .i64 0,.int .i64 0]) (t:=22) (by first|rfl|(simp only [World.size_alloc];done)|(simp only [World.size_alloc];omega)|simp)) e6)
  have HGEB1:Hid (w.heap.size≤w5.heap.size):=Lib.hid (by have:=HX5.out.size;first|omega|(simp only [];omega)|(simp;omega))
  clear e6
  have c0_0:=HB0_6.out.cell 0 rfl
  have c0_1:=HB0_6.out.cell 1 rfl
  have c0_2:=HB0_6.out.cell 2 rfl
  have c1_0:=HB1_6.out.cell 0 rfl
  have c1_1:=HB1_6.out.cell 1 rfl
  have c1_2:=HB1_6.out.cell 2 rfl
  have c1_3:=HB1_6.out.cell 3 rfl
  go_wp2
  go_ret
  exact ⟨rfl,HX6.out⟩
end Go.Proofs.YtjeimihnoiephaaGreatDoor
