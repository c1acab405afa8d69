/- Part 28 of the proof: P2, P3. -/
import Derived.Test.YtcenemaadnlknaaGreatDoorQPB26
import Derived.Test.YtcenemaadnlknaaGreatDoorQPB27
set_option maxRecDepth 100000
set_option maxHeartbeats 2000000
set_option linter.unusedVariables false
theorem Go.Proofs.YtcenemaadnlknaaGreatDoor.Hi28 {p:Prop} (h:p):Go.RowKit.Hid p:=h
namespace Go.Proofs.YtcenemaadnlknaaGreatDoor
open Go Go.RowKit
theorem p3_c (q:Rat) (w:World) (g:Gd w) (hq:QB 200 q):Calls Tryz.prog 44 #[.string (qs q)] w (Ret w (.tuple #[.string (zs q.num),.string (zs (q.den:Int)),.bool true])):=by
 have hl:=hq.len (by decide)
 have hn:IB 200 q.num:=⟨hq.num⟩
 have hd:IB 200 (q.den:Int):=⟨by simpa using hq.den⟩
 by_cases h:q.den=1
 ·have e1:qs q=zs q.num:=by unfold qs zs;rw [ql_one h]
  have e2:zs (q.den:Int)=⟨#[49]⟩:=by rw [h];exact zs_one
  rw [e2]
  rw [e1] at hl ⊢
  have r:RightI (zs q.num).data.toList:=by rw [zs_list];exact right_of_ib hn
  exact p3_none (zs q.num) true w (by rw [zs_list];exact zl_no_slash _) hl ⟨fun _=>rfl,fun e=>absurd r e⟩
 ·have e2:zs (q.den:Int)=⟨(Lib.decDigits q.den).toArray⟩:=by unfold zs;rw [zl_nat]
  have e3:zs q.num=⟨(zl q.num).toArray⟩:=rfl
  rw [e2,e3]
  refine p3_at (qs q) _ _ true w g (by rw [qs_list,ql_frac h]) (zl_no_slash _) hl (Or.inr (Or.inr ⟨q.num,q.den,rfl,(zl_nat _).symm,hn,hd,Or.inr (Or.inr ⟨?_,?_,rfl⟩)⟩))
  ·have:=q.den_nz;omega
  ·have:=q.reduced;unfold Nat.Coprime at this;unfold Int.gcd;simpa using this
theorem sg7_c (q:Rat) (w:World) (g:Gd w) (hq:QB 200 q):Calls Tryz.prog 18 #[.string (qs q)] w (Ret w (.int .i64 q.num.sign)):=by
 have H:=Hi28 (p3_c q w g hq)
 clear g hq
 go_enter Tryz.func18,Tryz.ntmps18
 go_wp2_with (first
  | (go_at_call 44;refine H.out.mono ?_;rintro e w1 ⟨rfl,e1⟩)
  | (go_at_call 47;refine (fsign_c _ _).mono ?_;rintro e w2 ⟨rfl,e2⟩))
 go_ret
 exact ⟨rfl,e1.trans e2⟩
theorem p3_plus (a b:Rat) (w:World) (g:Gd w) (qa:QB 200 a) (qb:QB 200 b):Calls Tryz.prog 19 #[.string (qs a),.string (qs b)] w (Ret w (.string (qs (a+b)))):=by
 have E:=Hi28 (Rat.add_def' a b)
 have HG:=Hi28 g
 have QA:=Hi28 qa;have QB':=Hi28 qb
 have P8:=Hi28 (Nat.mul_ne_zero a.den_nz b.den_nz)
 have P9:Hid ((a.den:Int)*(b.den:Int)=((a.den*b.den:Nat):Int)):=Hi28 (Int.natCast_mul a.den b.den).symm
 have IBD:Hid (IB (200+200) ((a.den*b.den:Nat):Int)):=Hi28 (by rw [← P9.out];exact qa.denIB.mul qb.denIB)
 clear g qa qb
 go_enter Tryz.func19,Tryz.ntmps19
 go_wp2_with (first
  | (go_at_call 44;((with_reducible refine (p3_c a w HG.out QA.out).mono ?_);rintro e w1 ⟨rfl,e1⟩))
  | (go_at_call 44;((with_reducible refine (p3_c b w1 (HG.out.ext e1) QB'.out).mono ?_);rintro e w2 ⟨rfl,e2⟩;have e12:=Ext.trans e1 e2))
  | (go_at_call 46;((with_reducible refine (fmul_c a.num b.den w2 (HG.out.ext e12) QA.out.numIB QB'.out.denIB (by omega) (by omega)).mono ?_);rintro e w3 ⟨rfl,e3⟩;have e13:=e12.trans e3))
  | (go_at_call 46;((with_reducible refine (fmul_c b.num a.den w3 (HG.out.ext e13) QB'.out.numIB QA.out.denIB (by omega) (by omega)).mono ?_);rintro e w4 ⟨rfl,e4⟩;have e14:=e13.trans e4))
  | (go_at_call 48;refine (fadd_c _ _ _ (HG.out.ext e14) (QA.out.numIB.mul QB'.out.denIB) (QB'.out.numIB.mul QA.out.denIB) (by omega) (by omega)).mono ?_;rintro e w5 ⟨rfl,e5⟩;have e15:=e14.trans e5)
  | (go_at_call 46;refine (fmul_c (a.den:Int) b.den _ (HG.out.ext e15) QA.out.denIB QB'.out.denIB (by omega) (by omega)).mono ?_;rw [P9.out];rintro e w6 ⟨rfl,e6⟩;have e16:=e15.trans e6)
  | (go_at_call 45;refine (p3_make _ (a.den*b.den) _ (HG.out.ext e16) P8.out ((QA.out.numIB.mul QB'.out.denIB).add (QB'.out.numIB.mul QA.out.denIB)) IBD.out (by omega) (by omega)).mono ?_;rintro e w7 ⟨rfl,e7⟩))
 go_ret
 exact ⟨ret_qs (by rw [E.out]),e16.trans e7⟩
theorem p3_times (a b:Rat) (w:World) (g:Gd w) (qa:QB 200 a) (qb:QB 200 b):Calls Tryz.prog 17 #[.string (qs a),.string (qs b)] w (Ret w (.string (qs (a*b)))):=by
 have E:=Hi28 (Rat.mul_def' a b)
 have HG:=Hi28 g
 have QA:=Hi28 qa;have QB':=Hi28 qb
 have P8:=Hi28 (Nat.mul_ne_zero a.den_nz b.den_nz)
 have P9:Hid ((a.den:Int)*(b.den:Int)=((a.den*b.den:Nat):Int)):=Hi28 (Int.natCast_mul a.den b.den).symm
 have IBD:Hid (IB (200+200) ((a.den*b.den:Nat):Int)):=Hi28 (by rw [← P9.out];exact qa.denIB.mul qb.denIB)
 clear g qa qb
 go_enter Tryz.func17,Tryz.ntmps17
 go_wp2_with (first
  | (go_at_call 44;((with_reducible refine (p3_c a w HG.out QA.out).mono ?_);rintro e w1 ⟨rfl,e1⟩))
  | (go_at_call 44;((with_reducible refine (p3_c b w1 (HG.out.ext e1) QB'.out).mono ?_);rintro e w2 ⟨rfl,e2⟩;have e12:=Ext.trans e1 e2))
  | (go_at_call 46;((with_reducible refine (fmul_c a.num b.num w2 (HG.out.ext e12) QA.out.numIB QB'.out.numIB (by omega) (by omega)).mono ?_);rintro e w3 ⟨rfl,e3⟩;have e13:=e12.trans e3))
  | (go_at_call 46;refine (fmul_c (a.den:Int) b.den _ (HG.out.ext e13) QA.out.denIB QB'.out.denIB (by omega) (by omega)).mono ?_;rw [P9.out];rintro e w6 ⟨rfl,e6⟩;have e16:=e13.trans e6)
  | (go_at_call 45;refine (p3_make _ (a.den*b.den) _ (HG.out.ext e16) P8.out (QA.out.numIB.mul QB'.out.numIB) IBD.out (by omega) (by omega)).mono ?_;rintro e w7 ⟨rfl,e7⟩))
 go_ret
 exact ⟨ret_qs (by rw [E.out]),e16.trans e7⟩
end Go.Proofs.YtcenemaadnlknaaGreatDoor
