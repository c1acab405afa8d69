/- Part 26 of the proof: A8, P1. -/
import Derived.Test.YtcenemaadnlknaaGreatDoorQPB24
import Derived.Test.YtcenemaadnlknaaGreatDoorQPB25
set_option maxRecDepth 100000
set_option maxHeartbeats 2000000
set_option linter.unusedVariables false
theorem Go.Proofs.YtcenemaadnlknaaGreatDoor.Hi26 {p:Prop} (h:p):Go.RowKit.Hid p:=h
namespace Go.Proofs.YtcenemaadnlknaaGreatDoor
open Go Go.RowKit
theorem natAbs_size (n:Int):(zs (n.natAbs:Int)).size=(Lib.decDigits n.natAbs).length:=zs_nat_size _
set_option maxHeartbeats 1000000 in
theorem fmul_c (a b:Int) {k m:Nat} (w:World) (g:Gd w) (ha:IB k a) (hb:IB m b) (hk:k<=9000) (hm:m<=9000):Calls Tryz.prog 46 #[.string (zs a),.string (zs b)] w (Ret w (.string (zs (a*b)))):=by
 have s1:=natAbs_size a;have s2:=natAbs_size b
 have s3:(Lib.decDigits a.natAbs).length<=9001:=ha.dec_len hk
 have s4:(Lib.decDigits b.natAbs).length<=9001:=hb.dec_len hm
 have p1:=dec_len_pos a.natAbs;have p2:=dec_len_pos b.natAbs
 by_cases h:(Lib.decDigits a.natAbs).length+(Lib.decDigits b.natAbs).length<=18
 ·have h18:((zs (a.natAbs:Int)).size:Int)+((zs (b.natAbs:Int)).size:Int)<=18:=by omega
  have b1:a.natAbs<10 ^ (Lib.decDigits a.natAbs).length:=dec_lt_pow _
  have b2:b.natAbs<10 ^ (Lib.decDigits b.natAbs).length:=dec_lt_pow _
  have b3:(a*b).natAbs<1000000000000000000:=by
   rw [Int.natAbs_mul]
   have:=Nat.mul_lt_mul'' b1 b2
   rw [← Nat.pow_add] at this
   exact Nat.lt_of_lt_of_le this (Nat.pow_le_pow_right (n:=10) (by decide) h)
  have A1:Hid (a.natAbs<1000000000000000000):=Hi26 (Nat.lt_of_lt_of_le b1 (show _<=10 ^ 18 from Nat.pow_le_pow_right (by decide) (by omega)))
  have B1:Hid (b.natAbs<1000000000000000000):=Hi26 (Nat.lt_of_lt_of_le b2 (show _<=10 ^ 18 from Nat.pow_le_pow_right (by decide) (by omega)))
  have c1:-1000000000000000000<=a*b:=by omega
  have c2:a*b<=1000000000000000000:=by omega
  clear s1 s2 s3 s4 p1 p2 h b1 b2 b3 ha hb
  go_enter Tryz.func46,Tryz.ntmps46
  go_wp2_with (first
   | (go_at_call 75;((with_reducible refine (split_c a w).mono ?_);rintro e w1 ⟨rfl,e1⟩))
   | (go_at_call 75;refine (split_c b _).mono ?_;rintro e w2 ⟨rfl,e2⟩)
   | (go_at_call 76;((with_reducible refine (fsmall_c a w2 A1.out).mono ?_);rintro e w3 ⟨rfl,e3⟩))
   | (go_at_call 76;refine (fsmall_c b _ B1.out).mono ?_;rintro e w4 ⟨rfl,e4⟩;have e14:=((e1.trans e2).trans e3).trans e4)
   | (go_at_call 59;refine (fof_c (a*b) (by omega) (by omega) _ (g.ext e14)).mono ?_;rintro e w5 ⟨rfl,e5⟩))
  go_ret
  exact ⟨rfl,e14.trans e5⟩
 ·have h18:¬ ((zs (a.natAbs:Int)).size:Int)+((zs (b.natAbs:Int)).size:Int)<=18:=by omega
  have S1:((zs (a.natAbs:Int)).size:Int)<=9001:=by omega
  have S2:((zs (b.natAbs:Int)).size:Int)<=9001:=by omega
  have L1:Hid ((Lib.decDigits a.natAbs).length<=20000):=Hi26 (by omega)
  have L2:Hid ((Lib.decDigits b.natAbs).length<=20000):=Hi26 (by omega)
  have FA:=Hi26 (ha.rfit (by omega));have FB:=Hi26 (hb.rfit (by omega))
  have FC:Hid (RFit (a.natAbs*b.natAbs)):=Hi26 (by rw [← Int.natAbs_mul];exact (ha.mul hb).rfit (by omega))
  have HS:=Hi26 (sgn_ne a b)
  clear s1 s2 s3 s4 p1 p2 h ha hb
  go_enter Tryz.func46,Tryz.ntmps46
  go_wp2_with (first
   | (go_at_call 75;((with_reducible refine (split_c a w).mono ?_);rintro e w1 ⟨rfl,e1⟩))
   | (go_at_call 75;refine (split_c b _).mono ?_;rintro e w2 ⟨rfl,e2⟩)
   | (go_at_call 79;((with_reducible refine (take_c a.natAbs w2 L1.out).mono ?_);rintro e w3 ⟨va,rfl,e3,ma⟩;obtain ⟨aa,an,ac,rfl⟩:=ma.slice))
   | (go_at_call 79;refine (take_c b.natAbs _ L2.out).mono ?_;rintro e w4 ⟨vb,rfl,e4,mb⟩;obtain ⟨ba,bn,bc,rfl⟩:=mb.slice;have e14:=((e1.trans e2).trans e3).trans e4)
   | (go_at_call 78;refine (rtimes_c a.natAbs b.natAbs _ _ _ (ma.ext e4) mb FA.out FB.out FC.out).mono ?_;rintro e w5 ⟨vc,rfl,e5,mc⟩;obtain ⟨ca,cn,cc,rfl⟩:=mc.slice)
   | (go_at_call 77;refine (made_c _ (a.natAbs*b.natAbs) _ _ mc FC.out (g.ext (e14.trans e5))).mono ?_;rintro e w6 ⟨rfl,e6⟩))
  go_ret
  exact ⟨ret_str HS.out,(e14.trans e5).trans e6⟩
set_option maxHeartbeats 1000000 in
theorem fadd_small (a b:Int) (w:World) (g:Gd w) (ha:(Lib.decDigits a.natAbs).length<=17) (hb:(Lib.decDigits b.natAbs).length<=17):Calls Tryz.prog 48 #[.string (zs a),.string (zs b)] w (Ret w (.string (zs (a+b)))):=by
 have h1:=lt_of_dec_len ha
 have h2:=lt_of_dec_len hb
 have b1:-9223372036854775808<=a+b:=by omega
 have b2:a+b<=9223372036854775807:=by omega
 have HA:=Hi26 ha;have HB:=Hi26 hb
 clear h1 h2 ha hb
 go_enter Tryz.func48,Tryz.ntmps48
 go_wp2_with (first
  | (go_at_call 80;((with_reducible refine (brief_yes a w HA.out).mono ?_);rintro e w1 ⟨rfl,e1⟩))
  | (go_at_call 80;refine (brief_yes b _ HB.out).mono ?_;rintro e w2 ⟨rfl,e2⟩)
  | (go_at_call 59;refine (fof_c (a+b) b1 b2 _ (g.ext (e1.trans e2))).mono ?_;rintro e w3 ⟨rfl,e3⟩))
 go_ret
 exact ⟨rfl,(e1.trans e2).trans e3⟩
theorem fadd_big (a b:Int) {k m:Nat} (w:World) (g:Gd w) (ha:IB k a) (hb:IB m b) (hk:k<=9000) (hm:m<=9000) (h:¬ ((Lib.decDigits a.natAbs).length<=17/\(Lib.decDigits b.natAbs).length<=17)):Calls Tryz.prog 48 #[.string (zs a),.string (zs b)] w (Ret w (.string (zs (a+b)))):=by
 have s3:(Lib.decDigits a.natAbs).length<=9001:=ha.dec_len hk
 have s4:(Lib.decDigits b.natAbs).length<=9001:=hb.dec_len hm
 have L1:Hid ((Lib.decDigits a.natAbs).length<=20000):=Hi26 (by omega)
 have L2:Hid ((Lib.decDigits b.natAbs).length<=20000):=Hi26 (by omega)
 have FA:=Hi26 (ha.rfit (by omega));have FB:=Hi26 (hb.rfit (by omega))
 have Fs:Hid (RFit (a.natAbs+b.natAbs)):=Hi26 (by
  have h1:IB (max k m+1) ((a.natAbs:Int)+(b.natAbs:Int)):=IB.add ⟨by simpa using ha.out⟩ ⟨by simpa using hb.out⟩
  have h2:=h1.rfit (by omega)
  rwa [← Int.natCast_add,Int.natAbs_natCast] at h2)
 clear s3 s4 ha hb
 -- which sum is made
 obtain ⟨sa,hsa⟩:∃ sa,sa=decide (a<0):=⟨_,rfl⟩
 obtain ⟨sb,hsb⟩:∃ sb,sb=decide (b<0):=⟨_,rfl⟩
 have HSA:=Hi26 hsa;have HSB:=Hi26 hsb
 obtain ⟨lt,hlt⟩:∃ lt,lt=decide (a.natAbs<b.natAbs):=⟨_,rfl⟩
 have HLT:=Hi26 hlt
 have key:Hid (((sa == sb)=true->sgn sa (a.natAbs+b.natAbs)=a+b)/\((sa == sb)=false->lt=true->sgn sb (b.natAbs-a.natAbs)=a+b/\a.natAbs<=b.natAbs)/\((sa == sb)=false->lt=false->sgn sa (a.natAbs-b.natAbs)=a+b/\b.natAbs<=a.natAbs)):=Hi26 (by
  refine ⟨fun e=>?_,fun e e2=>?_,fun e e2=>?_⟩
  ·rw [hsa];exact sgn_same (by rw [← hsa,← hsb];simpa using e)
  ·have hl:a.natAbs<b.natAbs:=of_decide_eq_true (hlt▸e2)
   refine ⟨?_,Nat.le_of_lt hl⟩
   rw [hsb,Int.add_comm];exact sgn_diff (by rw [← hsa,← hsb];intro e3;rw [e3] at e;simp at e) (Nat.le_of_lt hl)
  ·have hl:¬ a.natAbs<b.natAbs:=of_decide_eq_false (hlt▸e2)
   refine ⟨?_,by omega⟩
   rw [hsa];exact sgn_diff (by rw [← hsa,← hsb];intro e3;rw [e3] at e;simp at e) (by omega))
 clear hsa hsb hlt
 by_cases h9:(Lib.decDigits a.natAbs).length<=17
 ·have H9:=Hi26 h9
  have H9':Hid (¬ (Lib.decDigits b.natAbs).length<=17):=Hi26 (fun e=>h ⟨h9,e⟩)
  clear h h9
  rcases Bool.eq_false_or_eq_true (sa == sb) with hs|hs
  ·have KEY:=Hi26 (key.out.1 hs)
   clear key
   go_enter Tryz.func48,Tryz.ntmps48
   go_wp2_with (first
    | (go_at_call 80;((with_reducible refine (brief_yes a w H9.out).mono ?_);rintro e w0 ⟨rfl,e0⟩))
    | (go_at_call 80;refine (brief_no b _ H9'.out).mono ?_;rintro e w1 ⟨rfl,e1⟩;have e01:=e0.trans e1)
    | (go_at_call 75;((with_reducible refine (split_c a w1).mono ?_);rw [← HSA.out];rintro e w2 ⟨rfl,e2⟩))
    | (go_at_call 75;refine (split_c b _).mono ?_;rw [← HSB.out];rintro e w3 ⟨rfl,e3⟩)
    | (go_at_call 79;((with_reducible refine (take_c a.natAbs w3 L1.out).mono ?_);rintro e w4 ⟨va,rfl,e4,ma⟩;obtain ⟨aa,an,ac,rfl⟩:=ma.slice))
    | (go_at_call 79;refine (take_c b.natAbs _ L2.out).mono ?_;rintro e w5 ⟨vb,rfl,e5,mb⟩;obtain ⟨ba,bn,bc,rfl⟩:=mb.slice;have e15:=(((e01.trans e2).trans e3).trans e4).trans e5)
    | (go_at_call 81;refine (joined_c a.natAbs b.natAbs 1 _ _ _ (ma.ext e5) mb (by omega) (by omega) (by omega) FA.out FB.out (by rw [joined_plus];exact Fs.out)).mono ?_;rw [joined_plus];rintro e w7 ⟨vc,rfl,e7,mc⟩;obtain ⟨ca,cn,cc,rfl⟩:=mc.slice;have e17:=e15.trans e7)
    | (go_at_call 77;refine (made_c _ (a.natAbs+b.natAbs) _ _ mc Fs.out (g.ext e17)).mono ?_;rintro e w8 ⟨rfl,e8⟩))
   go_ret
   exact ⟨ret_str KEY.out,e17.trans e8⟩
  ·cases lt
   ·have KEY:=Hi26 (key.out.2.2 hs rfl)
    clear key
    go_enter Tryz.func48,Tryz.ntmps48
    go_wp2_with (first
     | (go_at_call 80;((with_reducible refine (brief_yes a w H9.out).mono ?_);rintro e w0 ⟨rfl,e0⟩))
     | (go_at_call 80;refine (brief_no b _ H9'.out).mono ?_;rintro e w1 ⟨rfl,e1⟩;have e01:=e0.trans e1)
     | (go_at_call 75;((with_reducible refine (split_c a w1).mono ?_);rw [← HSA.out];rintro e w2 ⟨rfl,e2⟩))
     | (go_at_call 75;refine (split_c b _).mono ?_;rw [← HSB.out];rintro e w3 ⟨rfl,e3⟩)
     | (go_at_call 79;((with_reducible refine (take_c a.natAbs w3 L1.out).mono ?_);rintro e w4 ⟨va,rfl,e4,ma⟩;obtain ⟨aa,an,ac,rfl⟩:=ma.slice))
     | (go_at_call 79;refine (take_c b.natAbs _ L2.out).mono ?_;rintro e w5 ⟨vb,rfl,e5,mb⟩;obtain ⟨ba,bn,bc,rfl⟩:=mb.slice;have e15:=(((e01.trans e2).trans e3).trans e4).trans e5)
     | (go_at_call 82;refine (less_c a.natAbs b.natAbs _ _ _ (ma.ext e5) mb).mono ?_;rw [← HLT.out];rintro e w6 ⟨rfl,e6⟩)
     | (go_at_call 81;refine (joined_c a.natAbs b.natAbs (-1) _ _ _ ((ma.ext e5).ext e6) (mb.ext e6) (by omega) (by omega) (by have:=KEY.out.2;omega) FA.out FB.out (by rw [joined_minus KEY.out.2];exact FA.out.mono (Nat.sub_le _ _))).mono ?_;rw [joined_minus KEY.out.2];rintro e w7 ⟨vc,rfl,e7,mc⟩;obtain ⟨ca,cn,cc,rfl⟩:=mc.slice;have e17:=(e15.trans e6).trans e7)
     | (go_at_call 77;refine (made_c _ (a.natAbs-b.natAbs) _ _ mc (FA.out.mono (Nat.sub_le _ _)) (g.ext e17)).mono ?_;rintro e w8 ⟨rfl,e8⟩))
    go_ret
    exact ⟨ret_str KEY.out.1,e17.trans e8⟩
   ·have KEY:=Hi26 (key.out.2.1 hs rfl)
    clear key
    go_enter Tryz.func48,Tryz.ntmps48
    go_wp2_with (first
     | (go_at_call 80;((with_reducible refine (brief_yes a w H9.out).mono ?_);rintro e w0 ⟨rfl,e0⟩))
     | (go_at_call 80;refine (brief_no b _ H9'.out).mono ?_;rintro e w1 ⟨rfl,e1⟩;have e01:=e0.trans e1)
     | (go_at_call 75;((with_reducible refine (split_c a w1).mono ?_);rw [← HSA.out];rintro e w2 ⟨rfl,e2⟩))
     | (go_at_call 75;refine (split_c b _).mono ?_;rw [← HSB.out];rintro e w3 ⟨rfl,e3⟩)
     | (go_at_call 79;((with_reducible refine (take_c a.natAbs w3 L1.out).mono ?_);rintro e w4 ⟨va,rfl,e4,ma⟩;obtain ⟨aa,an,ac,rfl⟩:=ma.slice))
     | (go_at_call 79;refine (take_c b.natAbs _ L2.out).mono ?_;rintro e w5 ⟨vb,rfl,e5,mb⟩;obtain ⟨ba,bn,bc,rfl⟩:=mb.slice;have e15:=(((e01.trans e2).trans e3).trans e4).trans e5)
     | (go_at_call 82;refine (less_c a.natAbs b.natAbs _ _ _ (ma.ext e5) mb).mono ?_;rw [← HLT.out];rintro e w6 ⟨rfl,e6⟩)
     | (go_at_call 81;refine (joined_c b.natAbs a.natAbs (-1) _ _ _ (mb.ext e6) ((ma.ext e5).ext e6) (by omega) (by omega) (by have:=KEY.out.2;omega) FB.out FA.out (by rw [joined_minus KEY.out.2];exact FB.out.mono (Nat.sub_le _ _))).mono ?_;rw [joined_minus KEY.out.2];rintro e w7 ⟨vc,rfl,e7,mc⟩;obtain ⟨ca,cn,cc,rfl⟩:=mc.slice;have e17:=(e15.trans e6).trans e7)
     | (go_at_call 77;refine (made_c _ (b.natAbs-a.natAbs) _ _ mc (FB.out.mono (Nat.sub_le _ _)) (g.ext e17)).mono ?_;rintro e w8 ⟨rfl,e8⟩))
    go_ret
    exact ⟨ret_str KEY.out.1,e17.trans e8⟩
 ·have H9:=Hi26 h9
  clear h h9
  by_cases h8:(Lib.decDigits b.natAbs).length<=17
  ·have H9':=Hi26 h8
   clear h8
   rcases Bool.eq_false_or_eq_true (sa == sb) with hs|hs
   ·have KEY:=Hi26 (key.out.1 hs)
    clear key
    go_enter Tryz.func48,Tryz.ntmps48
    go_wp2_with (first
     | (go_at_call 80;((with_reducible refine (brief_no a w H9.out).mono ?_);rintro e w0 ⟨rfl,e0⟩))
     | (go_at_call 80;first|(refine (brief_yes b _ H9'.out).mono ?_;rintro e w1 ⟨rfl,e1⟩;have e01:=e0.trans e1)|(refine (brief_no b _ H9'.out).mono ?_;rintro e w1 ⟨rfl,e1⟩;have e01:=e0.trans e1))
     | (go_at_call 75;((with_reducible refine (split_c a w1).mono ?_);rw [← HSA.out];rintro e w2 ⟨rfl,e2⟩))
     | (go_at_call 75;refine (split_c b _).mono ?_;rw [← HSB.out];rintro e w3 ⟨rfl,e3⟩)
     | (go_at_call 79;((with_reducible refine (take_c a.natAbs w3 L1.out).mono ?_);rintro e w4 ⟨va,rfl,e4,ma⟩;obtain ⟨aa,an,ac,rfl⟩:=ma.slice))
     | (go_at_call 79;refine (take_c b.natAbs _ L2.out).mono ?_;rintro e w5 ⟨vb,rfl,e5,mb⟩;obtain ⟨ba,bn,bc,rfl⟩:=mb.slice;have e15:=(((e01.trans e2).trans e3).trans e4).trans e5)
     | (go_at_call 81;refine (joined_c a.natAbs b.natAbs 1 _ _ _ (ma.ext e5) mb (by omega) (by omega) (by omega) FA.out FB.out (by rw [joined_plus];exact Fs.out)).mono ?_;rw [joined_plus];rintro e w7 ⟨vc,rfl,e7,mc⟩;obtain ⟨ca,cn,cc,rfl⟩:=mc.slice;have e17:=e15.trans e7)
     | (go_at_call 77;refine (made_c _ (a.natAbs+b.natAbs) _ _ mc Fs.out (g.ext e17)).mono ?_;rintro e w8 ⟨rfl,e8⟩))
    go_ret
    exact ⟨ret_str KEY.out,e17.trans e8⟩
   ·cases lt
    ·have KEY:=Hi26 (key.out.2.2 hs rfl)
     clear key
     go_enter Tryz.func48,Tryz.ntmps48
     go_wp2_with (first
      | (go_at_call 80;((with_reducible refine (brief_no a w H9.out).mono ?_);rintro e w0 ⟨rfl,e0⟩))
      | (go_at_call 80;first|(refine (brief_yes b _ H9'.out).mono ?_;rintro e w1 ⟨rfl,e1⟩;have e01:=e0.trans e1)|(refine (brief_no b _ H9'.out).mono ?_;rintro e w1 ⟨rfl,e1⟩;have e01:=e0.trans e1))
      | (go_at_call 75;((with_reducible refine (split_c a w1).mono ?_);rw [← HSA.out];rintro e w2 ⟨rfl,e2⟩))
      | (go_at_call 75;refine (split_c b _).mono ?_;rw [← HSB.out];rintro e w3 ⟨rfl,e3⟩)
      | (go_at_call 79;((with_reducible refine (take_c a.natAbs w3 L1.out).mono ?_);rintro e w4 ⟨va,rfl,e4,ma⟩;obtain ⟨aa,an,ac,rfl⟩:=ma.slice))
      | (go_at_call 79;refine (take_c b.natAbs _ L2.out).mono ?_;rintro e w5 ⟨vb,rfl,e5,mb⟩;obtain ⟨ba,bn,bc,rfl⟩:=mb.slice;have e15:=(((e01.trans e2).trans e3).trans e4).trans e5)
      | (go_at_call 82;refine (less_c a.natAbs b.natAbs _ _ _ (ma.ext e5) mb).mono ?_;rw [← HLT.out];rintro e w6 ⟨rfl,e6⟩)
      | (go_at_call 81;refine (joined_c a.natAbs b.natAbs (-1) _ _ _ ((ma.ext e5).ext e6) (mb.ext e6) (by omega) (by omega) (by have:=KEY.out.2;omega) FA.out FB.out (by rw [joined_minus KEY.out.2];exact FA.out.mono (Nat.sub_le _ _))).mono ?_;rw [joined_minus KEY.out.2];rintro e w7 ⟨vc,rfl,e7,mc⟩;obtain ⟨ca,cn,cc,rfl⟩:=mc.slice;have e17:=(e15.trans e6).trans e7)
      | (go_at_call 77;refine (made_c _ (a.natAbs-b.natAbs) _ _ mc (FA.out.mono (Nat.sub_le _ _)) (g.ext e17)).mono ?_;rintro e w8 ⟨rfl,e8⟩))
     go_ret
     exact ⟨ret_str KEY.out.1,e17.trans e8⟩
    ·have KEY:=Hi26 (key.out.2.1 hs rfl)
     clear key
     go_enter Tryz.func48,Tryz.ntmps48
     go_wp2_with (first
      | (go_at_call 80;((with_reducible refine (brief_no a w H9.out).mono ?_);rintro e w0 ⟨rfl,e0⟩))
      | (go_at_call 80;first|(refine (brief_yes b _ H9'.out).mono ?_;rintro e w1 ⟨rfl,e1⟩;have e01:=e0.trans e1)|(refine (brief_no b _ H9'.out).mono ?_;rintro e w1 ⟨rfl,e1⟩;have e01:=e0.trans e1))
      | (go_at_call 75;((with_reducible refine (split_c a w1).mono ?_);rw [← HSA.out];rintro e w2 ⟨rfl,e2⟩))
      | (go_at_call 75;refine (split_c b _).mono ?_;rw [← HSB.out];rintro e w3 ⟨rfl,e3⟩)
      | (go_at_call 79;((with_reducible refine (take_c a.natAbs w3 L1.out).mono ?_);rintro e w4 ⟨va,rfl,e4,ma⟩;obtain ⟨aa,an,ac,rfl⟩:=ma.slice))
      | (go_at_call 79;refine (take_c b.natAbs _ L2.out).mono ?_;rintro e w5 ⟨vb,rfl,e5,mb⟩;obtain ⟨ba,bn,bc,rfl⟩:=mb.slice;have e15:=(((e01.trans e2).trans e3).trans e4).trans e5)
      | (go_at_call 82;refine (less_c a.natAbs b.natAbs _ _ _ (ma.ext e5) mb).mono ?_;rw [← HLT.out];rintro e w6 ⟨rfl,e6⟩)
      | (go_at_call 81;refine (joined_c b.natAbs a.natAbs (-1) _ _ _ (mb.ext e6) ((ma.ext e5).ext e6) (by omega) (by omega) (by have:=KEY.out.2;omega) FB.out FA.out (by rw [joined_minus KEY.out.2];exact FB.out.mono (Nat.sub_le _ _))).mono ?_;rw [joined_minus KEY.out.2];rintro e w7 ⟨vc,rfl,e7,mc⟩;obtain ⟨ca,cn,cc,rfl⟩:=mc.slice;have e17:=(e15.trans e6).trans e7)
      | (go_at_call 77;refine (made_c _ (b.natAbs-a.natAbs) _ _ mc (FB.out.mono (Nat.sub_le _ _)) (g.ext e17)).mono ?_;rintro e w8 ⟨rfl,e8⟩))
     go_ret
     exact ⟨ret_str KEY.out.1,e17.trans e8⟩
  ·have H9':=Hi26 h8
   clear h8
   rcases Bool.eq_false_or_eq_true (sa == sb) with hs|hs
   ·have KEY:=Hi26 (key.out.1 hs)
    clear key
    go_enter Tryz.func48,Tryz.ntmps48
    go_wp2_with (first
     | (go_at_call 80;((with_reducible refine (brief_no a w H9.out).mono ?_);rintro e w0 ⟨rfl,e0⟩))
     | (go_at_call 80;first|(refine (brief_yes b _ H9'.out).mono ?_;rintro e w1 ⟨rfl,e1⟩;have e01:=e0.trans e1)|(refine (brief_no b _ H9'.out).mono ?_;rintro e w1 ⟨rfl,e1⟩;have e01:=e0.trans e1))
     | (go_at_call 75;((with_reducible refine (split_c a w1).mono ?_);rw [← HSA.out];rintro e w2 ⟨rfl,e2⟩))
     | (go_at_call 75;refine (split_c b _).mono ?_;rw [← HSB.out];rintro e w3 ⟨rfl,e3⟩)
     | (go_at_call 79;((with_reducible refine (take_c a.natAbs w3 L1.out).mono ?_);rintro e w4 ⟨va,rfl,e4,ma⟩;obtain ⟨aa,an,ac,rfl⟩:=ma.slice))
     | (go_at_call 79;refine (take_c b.natAbs _ L2.out).mono ?_;rintro e w5 ⟨vb,rfl,e5,mb⟩;obtain ⟨ba,bn,bc,rfl⟩:=mb.slice;have e15:=(((e01.trans e2).trans e3).trans e4).trans e5)
     | (go_at_call 81;refine (joined_c a.natAbs b.natAbs 1 _ _ _ (ma.ext e5) mb (by omega) (by omega) (by omega) FA.out FB.out (by rw [joined_plus];exact Fs.out)).mono ?_;rw [joined_plus];rintro e w7 ⟨vc,rfl,e7,mc⟩;obtain ⟨ca,cn,cc,rfl⟩:=mc.slice;have e17:=e15.trans e7)
     | (go_at_call 77;refine (made_c _ (a.natAbs+b.natAbs) _ _ mc Fs.out (g.ext e17)).mono ?_;rintro e w8 ⟨rfl,e8⟩))
    go_ret
    exact ⟨ret_str KEY.out,e17.trans e8⟩
   ·cases lt
    ·have KEY:=Hi26 (key.out.2.2 hs rfl)
     clear key
     go_enter Tryz.func48,Tryz.ntmps48
     go_wp2_with (first
      | (go_at_call 80;((with_reducible refine (brief_no a w H9.out).mono ?_);rintro e w0 ⟨rfl,e0⟩))
      | (go_at_call 80;first|(refine (brief_yes b _ H9'.out).mono ?_;rintro e w1 ⟨rfl,e1⟩;have e01:=e0.trans e1)|(refine (brief_no b _ H9'.out).mono ?_;rintro e w1 ⟨rfl,e1⟩;have e01:=e0.trans e1))
      | (go_at_call 75;((with_reducible refine (split_c a w1).mono ?_);rw [← HSA.out];rintro e w2 ⟨rfl,e2⟩))
      | (go_at_call 75;refine (split_c b _).mono ?_;rw [← HSB.out];rintro e w3 ⟨rfl,e3⟩)
      | (go_at_call 79;((with_reducible refine (take_c a.natAbs w3 L1.out).mono ?_);rintro e w4 ⟨va,rfl,e4,ma⟩;obtain ⟨aa,an,ac,rfl⟩:=ma.slice))
      | (go_at_call 79;refine (take_c b.natAbs _ L2.out).mono ?_;rintro e w5 ⟨vb,rfl,e5,mb⟩;obtain ⟨ba,bn,bc,rfl⟩:=mb.slice;have e15:=(((e01.trans e2).trans e3).trans e4).trans e5)
      | (go_at_call 82;refine (less_c a.natAbs b.natAbs _ _ _ (ma.ext e5) mb).mono ?_;rw [← HLT.out];rintro e w6 ⟨rfl,e6⟩)
      | (go_at_call 81;refine (joined_c a.natAbs b.natAbs (-1) _ _ _ ((ma.ext e5).ext e6) (mb.ext e6) (by omega) (by omega) (by have:=KEY.out.2;omega) FA.out FB.out (by rw [joined_minus KEY.out.2];exact FA.out.mono (Nat.sub_le _ _))).mono ?_;rw [joined_minus KEY.out.2];rintro e w7 ⟨vc,rfl,e7,mc⟩;obtain ⟨ca,cn,cc,rfl⟩:=mc.slice;have e17:=(e15.trans e6).trans e7)
      | (go_at_call 77;refine (made_c _ (a.natAbs-b.natAbs) _ _ mc (FA.out.mono (Nat.sub_le _ _)) (g.ext e17)).mono ?_;rintro e w8 ⟨rfl,e8⟩))
     go_ret
     exact ⟨ret_str KEY.out.1,e17.trans e8⟩
    ·have KEY:=Hi26 (key.out.2.1 hs rfl)
     clear key
     go_enter Tryz.func48,Tryz.ntmps48
     go_wp2_with (first
      | (go_at_call 80;((with_reducible refine (brief_no a w H9.out).mono ?_);rintro e w0 ⟨rfl,e0⟩))
      | (go_at_call 80;first|(refine (brief_yes b _ H9'.out).mono ?_;rintro e w1 ⟨rfl,e1⟩;have e01:=e0.trans e1)|(refine (brief_no b _ H9'.out).mono ?_;rintro e w1 ⟨rfl,e1⟩;have e01:=e0.trans e1))
      | (go_at_call 75;((with_reducible refine (split_c a w1).mono ?_);rw [← HSA.out];rintro e w2 ⟨rfl,e2⟩))
      | (go_at_call 75;refine (split_c b _).mono ?_;rw [← HSB.out];rintro e w3 ⟨rfl,e3⟩)
      | (go_at_call 79;((with_reducible refine (take_c a.natAbs w3 L1.out).mono ?_);rintro e w4 ⟨va,rfl,e4,ma⟩;obtain ⟨aa,an,ac,rfl⟩:=ma.slice))
      | (go_at_call 79;refine (take_c b.natAbs _ L2.out).mono ?_;rintro e w5 ⟨vb,rfl,e5,mb⟩;obtain ⟨ba,bn,bc,rfl⟩:=mb.slice;have e15:=(((e01.trans e2).trans e3).trans e4).trans e5)
      | (go_at_call 82;refine (less_c a.natAbs b.natAbs _ _ _ (ma.ext e5) mb).mono ?_;rw [← HLT.out];rintro e w6 ⟨rfl,e6⟩)
      | (go_at_call 81;refine (joined_c b.natAbs a.natAbs (-1) _ _ _ (mb.ext e6) ((ma.ext e5).ext e6) (by omega) (by omega) (by have:=KEY.out.2;omega) FB.out FA.out (by rw [joined_minus KEY.out.2];exact FB.out.mono (Nat.sub_le _ _))).mono ?_;rw [joined_minus KEY.out.2];rintro e w7 ⟨vc,rfl,e7,mc⟩;obtain ⟨ca,cn,cc,rfl⟩:=mc.slice;have e17:=(e15.trans e6).trans e7)
      | (go_at_call 77;refine (made_c _ (b.natAbs-a.natAbs) _ _ mc (FB.out.mono (Nat.sub_le _ _)) (g.ext e17)).mono ?_;rintro e w8 ⟨rfl,e8⟩))
     go_ret
     exact ⟨ret_str KEY.out.1,e17.trans e8⟩
theorem fadd_c (a b:Int) {k m:Nat} (w:World) (g:Gd w) (ha:IB k a) (hb:IB m b) (hk:k<=9000) (hm:m<=9000):Calls Tryz.prog 48 #[.string (zs a),.string (zs b)] w (Ret w (.string (zs (a+b)))):=by
 by_cases h:(Lib.decDigits a.natAbs).length<=17/\(Lib.decDigits b.natAbs).length<=17
 ·exact fadd_small a b w g h.1 h.2
 ·exact fadd_big a b w g ha hb hk hm h
theorem fsub_c (a b:Int) {k m:Nat} (w:World) (g:Gd w) (ha:IB k a) (hb:IB m b) (hk:k<=9000) (hm:m<=9000):Calls Tryz.prog 115 #[.string (zs a),.string (zs b)] w (Ret w (.string (zs (a-b)))):=by
 have HA:=Hi26 ha;have HB:=Hi26 hb;have E:=Hi26 (Int.sub_eq_add_neg (a:=a) (b:=b))
 have L:=Hi26 (hb.len (by omega))
 clear ha hb
 go_enter Tryz.func115,Tryz.ntmps115
 go_wp2_with (first
  | (go_at_call 144;refine (fneg_c b _ L.out).mono ?_;rintro e w1 ⟨rfl,e1⟩)
  | (go_at_call 48;refine (fadd_c a (-b) _ (g.ext e1) HA.out HB.out.neg hk hm).mono ?_;rintro e w2 ⟨rfl,e2⟩))
 go_ret
 exact ⟨ret_str E.out.symm,e1.trans e2⟩
theorem icmp_sign (a b:Int):(a-b).sign=icmp a b:=by
 rcases Int.lt_trichotomy a b with h|h|h
 ·rw [icmp_lt h,Int.sign_eq_neg_one_of_neg (by omega)]
 ·subst h;rw [icmp_eq,Int.sub_self];rfl
 ·rw [icmp_gt h,Int.sign_eq_one_of_pos (by omega)]
theorem fcompare_c (a b:Int) {k m:Nat} (w:World) (g:Gd w) (ha:IB k a) (hb:IB m b) (hk:k<=9000) (hm:m<=9000):Calls Tryz.prog 72 #[.string (zs a),.string (zs b)] w (Ret w (.int .i64 (icmp a b))):=by
 have HA:=Hi26 ha;have HB:=Hi26 hb;have E:=Hi26 (icmp_sign a b)
 clear ha hb
 go_enter Tryz.func72,Tryz.ntmps72
 go_wp2_with (first
  | (go_at_call 115;refine (fsub_c a b _ g HA.out HB.out hk hm).mono ?_;rintro e w1 ⟨rfl,e1⟩)
  | (go_at_call 47;refine (fsign_c _ _).mono ?_;rw [E.out];rintro e w2 ⟨rfl,e2⟩))
 go_ret
 exact ⟨rfl,e1.trans e2⟩
theorem at_ne {s:ByteArray} {x y:List UInt8} (hs:s.data.toList=x ++ 47 :: y) (hx:(47:UInt8) ∉ x):∀ k (h:k<s.size),k<x.length->¬ (s[k].toNat:Int)=47:=by
 intro k h hk e
 have e1:s[k]=x[k]:=by
  rw [bytes_getElem s k h]
  simp only [hs]
  rw [List.getElem_append_left hk]
 have e2 : s[k] = 47 := UInt8.toNat_inj.1 (by have : s[k].toNat = 47 := by omega
                                              simpa using this)
 exact hx (by rw [← e2,e1];exact List.getElem_mem hk)
theorem at_eq {s:ByteArray} {x y:List UInt8} (hs:s.data.toList=x ++ 47 :: y) (h:x.length<s.size):((s[x.length]).toNat:Int)=47:=by
 have e1:s[x.length]=47:=by
  rw [bytes_getElem s _ h]
  simp only [hs]
  rw [List.getElem_append_right (Nat.le_refl _)]
  simp
 rw [e1];rfl
theorem no_47 {s:ByteArray} (hs:(47:UInt8) ∉ s.data.toList):∀ k (h:k<s.size),¬ (s[k].toNat:Int)=47:=by
 intro k h e
 have e2 : s[k] = 47 := UInt8.toNat_inj.1 (by have : s[k].toNat = 47 := by omega
                                              simpa using this)
 rw [bytes_getElem s k h] at e2
 exact hs (by rw [← e2];exact List.getElem_mem _)
theorem p3_none (s:ByteArray) (v:Bool) (w:World) (h:(47:UInt8) ∉ s.data.toList) (hl:s.size<=1000000) (hv:(RightI s.data.toList->v=true)/\(¬ RightI s.data.toList->v=false)) :
    Calls Tryz.prog 44 #[.string s] w (Ret w (.tuple #[.string s,.string ⟨#[49]⟩,.bool v])):=by
 have HN:=Hi26 (no_47 h);have HV:=Hi26 hv
 clear h hv
 go_enter Tryz.func44,Tryz.ntmps44
 go_wp2
 go_loop [6,7] (fun a i=>∃ k:Nat,k<=s.size/\i = .int .i64 k/\a = .int .i64 (-1)) (fun _ i=>s.size-(intOf i).toNat)
 case atStart=>exact ⟨0,Nat.zero_le _,rfl,rfl⟩
 case round =>
  obtain ⟨k,hk,rfl,rfl⟩:=hrel
  by_cases hlt:k<s.size
  ·have h47:=HN.out k hlt
   have hlt2:(k:Int)<s.size:=by omega
   go_wp2
   go_round
   case rel=>exact ⟨k+1,by omega,by go_num,rfl⟩
   case measure=>simp [intOf];omega
  ·have hge:¬ (k:Int)<s.size:=by omega
   go_wp2_with (go_at_call 71;refine (fright_c s v _ hl HV.out).mono ?_;rintro e w1 ⟨rfl,e1⟩)
   go_ret3
   exact ⟨rfl,e1⟩
theorem right_of_ib {a:Int} (h:IB 200 a):RightI (zl a):=right_zl.2 (by have:=dec_len_le (u:=a.natAbs) (k:=200) (by decide) h.out;omega)
set_option maxHeartbeats 8000000 in
theorem p3_at (s:ByteArray) (x y:List UInt8) (v:Bool) (w:World) (g:Gd w) (hs:s.data.toList=x ++ 47 :: y) (hx:(47:UInt8) ∉ x) (hl:s.size<=1000000)
    (hv:(¬ RightI x/\v=false)∨(RightI x/\¬ RightI y/\v=false)∨(∃ a b:Int,x=zl a/\y=zl b/\IB 200 a/\IB 200 b/\((¬ 1<b/\v=false)∨(1<b/\Int.gcd a b≠1/\v=false)∨(1<b/\Int.gcd a b=1/\v=true)))) :
    Calls Tryz.prog 44 #[.string s] w (Ret w (.tuple #[.string ⟨x.toArray⟩,.string ⟨y.toArray⟩,.bool v])):=by
 have hszl:s.size=s.data.toList.length:=by rw [Array.length_toList];rfl
 have hsz:x.length+1+y.length=s.size:=by rw [hszl,hs];simp;omega
 have lx:(⟨x.toArray⟩:ByteArray).size<=1000000:=by rw [size_list];simp only;omega
 have ly:(⟨y.toArray⟩:ByteArray).size<=1000000:=by rw [size_list];simp only;omega
 have hcl:=cut_left x y
 have hcr:=cut_right x y
 rw [show (⟨(x ++ 47 :: y).toArray⟩:ByteArray)=s by rw [← hs]] at hcl hcr
 have hne:=at_ne hs hx
 have heq:=fun h=>at_eq hs h
 obtain ⟨n,hn⟩:∃ n,n=x.length:=⟨_,rfl⟩
 rw [← hn] at hcl hcr hne hsz
 have heq2:∀ h:n<s.size,((s[n]).toNat:Int)=47:=by subst hn;exact heq
 obtain ⟨X,hX⟩:∃ X,s.extract 0 n=X:=⟨_,rfl⟩
 obtain ⟨Y,hY⟩:∃ Y,s.extract (n+1) s.size=Y:=⟨_,rfl⟩
 rw [hX] at hcl;rw [hY] at hcr
 have HV:=Hi26 hv;have HNE:=Hi26 hne;have HEQ:=Hi26 heq2;have HX:=Hi26 hX;have HY:=Hi26 hY;have HXE:=Hi26 hcl;have HYE:=Hi26 hcr;have HLX:=Hi26 lx;have HLY:=Hi26 ly;have HG:=Hi26 g
 rw [← hcl,← hcr]
 have hn1:n<s.size:=by omega
 have hnz:(n:Int)+1<=(s.size:Int):=by omega
 have hnz2:(n:Int)<=(s.size:Int):=by omega
 have hn0:¬ (n:Int)<0:=by omega
 clear hs hx hv hszl hsz lx ly hcl hcr hne heq heq2 hn hX hY g
 go_enter Tryz.func44,Tryz.ntmps44
 go_wp2
 go_loop [6,7] (fun a i=>∃ (k:Nat) (av:Int),k<=s.size/\i = .int .i64 k/\a = .int .i64 av/\((k<=n/\av=-1)∨(n<k/\av=n))) (fun _ i=>s.size-(intOf i).toNat)
 case atStart=>exact ⟨0,-1,Nat.zero_le _,rfl,rfl,Or.inl ⟨Nat.zero_le _,rfl⟩⟩
 case round =>
  obtain ⟨k,av,hk,rfl,rfl,hav⟩:=hrel
  by_cases hlt:k<s.size
  ·have hlt2:(k:Int)<s.size:=by omega
   rcases hav with ⟨h1,rfl⟩|⟨h1,rfl⟩
   ·by_cases h2:k<n
    ·have h47:=HNE.out k hlt h2
     go_wp2
     go_round
     case rel=>exact ⟨k+1,-1,by omega,by go_num,rfl,Or.inl ⟨by omega,rfl⟩⟩
     case measure=>simp [intOf];omega
    ·obtain rfl:n=k:=by omega
     have h47:=HEQ.out hlt
     go_wp2
     go_round
     case rel=>exact ⟨n+1,n,by omega,by go_num,rfl,Or.inr ⟨by omega,rfl⟩⟩
     case measure=>simp [intOf];omega
   ·by_cases h47:(s[k].toNat:Int)=47
    ·go_wp2
     go_round
     case rel=>exact ⟨k+1,n,by omega,by go_num,rfl,Or.inr ⟨by omega,rfl⟩⟩
     case measure=>simp [intOf];omega
    ·go_wp2
     go_round
     case rel=>exact ⟨k+1,n,by omega,by go_num,rfl,Or.inr ⟨by omega,rfl⟩⟩
     case measure=>simp [intOf];omega
  ·have hge:¬ (k:Int)<s.size:=by omega
   obtain rfl:av=n:=by rcases hav with ⟨h1,_⟩|⟨_,h2⟩ <;> omega
   clear hav
   go_upto_region 10 with fail
   go_cut [2,3] from 29 to 35 (fun a b wx=>a = .string X/\b = .string Y/\Ext w wx)
   case first =>
    go_region
    all_goals
     go_wp2_with fail
     go_meet
     exact ⟨by rw [← HX.out],by rw [← HY.out],(Ext.refl _).drew⟩
   obtain ⟨rfl,rfl,e0⟩:=hcut
   rename World=>w0
   have RX:RightI X.data.toList ↔ RightI x:=by rw [HXE.out]
   have RY:RightI Y.data.toList ↔ RightI y:=by rw [HYE.out]
   have LX:X.size<=1000000:=by rw [HXE.out];exact HLX.out
   have LY:Y.size<=1000000:=by rw [HYE.out];exact HLY.out
   have HRX:=Hi26 RX;have HRY:=Hi26 RY;have HG0:=Hi26 (HG.out.ext e0)
   clear RX RY
   rcases HV.out with ⟨h1,rfl⟩|⟨h1,h2,rfl⟩|⟨a,b,ea,eb,ha,hb,hh⟩
   ·have H1:=Hi26 h1
    clear h1
    go_wp2_with (go_at_call 71;((with_reducible refine (fright_c X false w0 LX ⟨fun h=>absurd (HRX.out.1 h) H1.out,fun _=>rfl⟩).mono ?_);rintro e w1 ⟨rfl,e1⟩))
    go_ret3
    exact ⟨rfl,e0.trans e1⟩
   ·have H1:=Hi26 h1;have H2:=Hi26 h2
    clear h1 h2
    go_wp2_with (first
     | (go_at_call 71;((with_reducible refine (fright_c X true w0 LX ⟨fun _=>rfl,fun h=>absurd (HRX.out.2 H1.out) h⟩).mono ?_);rintro e w1 ⟨rfl,e1⟩))
     | (go_at_call 71;((with_reducible refine (fright_c Y false w1 LY ⟨fun h=>absurd (HRY.out.1 h) H2.out,fun _=>rfl⟩).mono ?_);rintro e w2 ⟨rfl,e2⟩)))
    go_ret3
    exact ⟨rfl,(e0.trans e1).trans e2⟩
   ·have ra:RightI x:=ea▸right_of_ib ha
    have rb:RightI y:=eb▸right_of_ib hb
    have eX:X=zs a:=by rw [HXE.out,ea];rfl
    have eY:Y=zs b:=by rw [HYE.out,eb];rfl
    have RA:=Hi26 (HRX.out.2 ra);have RB:=Hi26 (HRY.out.2 rb);have HA:=Hi26 ha;have HB:=Hi26 hb
    clear ra rb ha hb HRX HRY HXE HYE HX HY
    subst eX;subst eY
    have HCC:Hid (∀ w,Gd w->Calls Tryz.prog 72 #[.string (zs b),.string ⟨#[49]⟩] w (Ret w (.int .i64 (icmp b 1)))):=Hi26 (fun w g=>by have:=fcompare_c b 1 w g HB.out (m:=1) ⟨by decide⟩ (by decide) (by decide);rw [zs_one] at this;exact this)
    obtain ⟨c,hcc⟩:∃ c,c=icmp b 1:=⟨_,rfl⟩
    have HC1:=Hi26 hcc
    rcases hh with ⟨h3,rfl⟩|⟨h3,h4,rfl⟩|⟨h3,h4,rfl⟩
    ·have hc1:¬ 0<c:=by
      rw [hcc]
      by_cases h:b=1
      ·subst h;rw [icmp_eq];omega
      ·rw [icmp_lt (by omega)];omega
     clear hcc h3 ea eb
     go_wp2_with (first
      | (go_at_call 71;((with_reducible refine (fright_c (zs a) true w0 LX ⟨fun _=>rfl,fun h=>absurd RA.out h⟩).mono ?_);rintro e w1 ⟨rfl,e1⟩))
      | (go_at_call 71;((with_reducible refine (fright_c (zs b) true w1 LY ⟨fun _=>rfl,fun h=>absurd RB.out h⟩).mono ?_);rintro e w2 ⟨rfl,e2⟩))
      | (go_at_call 72;refine (HCC.out _ (HG0.out.ext (e1.trans e2))).mono ?_;rw [← HC1.out];rintro e w3 ⟨rfl,e3⟩))
     go_ret3
     exact ⟨rfl,((e0.trans e1).trans e2).trans e3⟩
    ·have hc1:0<c:=by rw [hcc,icmp_gt h3];omega
     obtain ⟨G,hG⟩:∃ G:Nat,G=Int.gcd a b:=⟨_,rfl⟩
     have HGG:=Hi26 hG
     have z3:=zs_not1 (n:=(G:Int)) (by omega);have z4:=zs_nnot1 (n:=(G:Int)) (by omega)
     clear hcc h3 h4 hG ea eb
     go_wp2_with (first
      | (go_at_call 71;((with_reducible refine (fright_c (zs a) true w0 LX ⟨fun _=>rfl,fun h=>absurd RA.out h⟩).mono ?_);rintro e w1 ⟨rfl,e1⟩))
      | (go_at_call 71;((with_reducible refine (fright_c (zs b) true w1 LY ⟨fun _=>rfl,fun h=>absurd RB.out h⟩).mono ?_);rintro e w2 ⟨rfl,e2⟩))
      | (go_at_call 72;refine (HCC.out _ (HG0.out.ext (e1.trans e2))).mono ?_;rw [← HC1.out];rintro e w3 ⟨rfl,e3⟩)
      | (go_at_call 73;refine (fgcd_c a b _ (HG0.out.ext ((e1.trans e2).trans e3)) HA.out HB.out (by decide) (by decide)).mono ?_;rw [← HGG.out];rintro e w4 ⟨rfl,e4⟩))
     go_ret3
     exact ⟨rfl,(((e0.trans e1).trans e2).trans e3).trans e4⟩
    ·have hc1:0<c:=by rw [hcc,icmp_gt h3];omega
     obtain ⟨G,hG⟩:∃ G:Nat,G=Int.gcd a b:=⟨_,rfl⟩
     have HGG:=Hi26 hG
     have z3:=zs_is1 (n:=(G:Int)) (by omega);have z4:=zs_nis1 (n:=(G:Int)) (by omega)
     clear hcc h3 h4 hG ea eb
     go_wp2_with (first
      | (go_at_call 71;((with_reducible refine (fright_c (zs a) true w0 LX ⟨fun _=>rfl,fun h=>absurd RA.out h⟩).mono ?_);rintro e w1 ⟨rfl,e1⟩))
      | (go_at_call 71;((with_reducible refine (fright_c (zs b) true w1 LY ⟨fun _=>rfl,fun h=>absurd RB.out h⟩).mono ?_);rintro e w2 ⟨rfl,e2⟩))
      | (go_at_call 72;refine (HCC.out _ (HG0.out.ext (e1.trans e2))).mono ?_;rw [← HC1.out];rintro e w3 ⟨rfl,e3⟩)
      | (go_at_call 73;refine (fgcd_c a b _ (HG0.out.ext ((e1.trans e2).trans e3)) HA.out HB.out (by decide) (by decide)).mono ?_;rw [← HGG.out];rintro e w4 ⟨rfl,e4⟩))
     go_ret3
     exact ⟨rfl,(((e0.trans e1).trans e2).trans e3).trans e4⟩
end Go.Proofs.YtcenemaadnlknaaGreatDoor
