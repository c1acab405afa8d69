/- Part 18. -/
import Derived.Test.YtmahadmefplbnaaGreatDoorQRV10
import Derived.Test.YtmahadmefplbnaaGreatDoorQRV15
import Derived.Test.YtmahadmefplbnaaGreatDoorQRV17
set_option maxRecDepth 100000
set_option maxHeartbeats 2000000
theorem Go.Proofs.YtmahadmefplbnaaGreatDoor.Hi18 {p:Prop} (h:p):Go.RowKit.Hid p:=h
namespace Go.Proofs.YtmahadmefplbnaaGreatDoor
open Go Go.RowKit
def fitE:Nat:=10000
structure Fit5 (n:Nat):Prop where
 out:n<1000000000 ^ fitE
theorem Mag.len_le {w:World} {ad:Option Addr} {n c N:Nat} (h:Mag w (.slice ad n c) N) (f:Fit5 N):n<=10000:=by
 obtain ⟨l,⟨ad',cap,b,off,hv,_⟩,hc,hm⟩:=h;simp only [Value.slice.injEq] at hv;rw [hv.2.1];exact pow_len_le (k:=fitE) (by decide) hc (by rw [hm];exact f.out)
theorem Mag.zero_len {w:World} {ad:Option Addr} {c N:Nat} (h:Mag w (.slice ad 0 c) N):N=0:=by
 obtain ⟨l,⟨ad',cap,b,off,hv,_⟩,hc,hm⟩:=h;simp only [Value.slice.injEq] at hv;have:l=[]:=List.length_eq_zero_iff.1 hv.2.1.symm;subst this;exact hm.symm
theorem close_c (s:Bool) (N:Nat) (ad:Option Addr) (n c:Nat) (w:World) (hm:Mag w (.slice ad n c) N) (f:Fit5 N) (g:Gd w) :
    Calls Tryz.prog 171 #[.agg #[.bool s,.slice ad n c]] w (Ret w (.string (zs (sgn s N)))):=by
 have hn:=hm.len_le f;by_cases h0:n=0
 ·subst h0;rw [hm.zero_len,sgn_zero];exact close_zero s ad c w
 ·cases s
  ·exact close_false N ad n c w hm (by omega) hn g
  ·exact close_true N ad n c w hm (by omega) hn g
theorem IB.fit {k:Nat} {a:Int} (h:IB k a) (hk:k<=9000):Fd a.natAbs :=
 ⟨Nat.lt_of_lt_of_le h.out (by rw [show (1000000000:Nat)=10 ^ 9 by decide,← Nat.pow_mul];exact Nat.pow_le_pow_right (by decide) (Nat.le_trans hk (by decide)))⟩
theorem Fd.fit {a:Nat} (h:Fd a):Fit a:=⟨Nat.lt_of_lt_of_le h.out (Nat.pow_le_pow_right (by decide) (by decide))⟩
theorem Fit.five {a:Nat} (h:Fit a):Fit5 a:=⟨Nat.lt_of_lt_of_le h.out (Nat.pow_le_pow_right (by decide) (by decide))⟩
theorem Fit.mul5 {a b:Nat} (h:Fit a) (k:Fit b):Fit5 (a*b):=⟨by
 have h1:=Nat.mul_lt_mul'' h.out k.out;rw [← Nat.pow_add] at h1;exact Nat.lt_of_lt_of_le h1 (Nat.pow_le_pow_right (by decide) (by decide))⟩
theorem Fit.add5 {a b:Nat} (h:Fit a) (k:Fit b):Fit5 (a+b):=⟨by
 have h1:a+b<1000000000 ^ fitK+1000000000 ^ fitK:=by have:=h.out;have:=k.out;omega
 have h2:(1000000000:Nat) ^ fitK+1000000000 ^ fitK<=1000000000 ^ (fitK+1):=by rw [Nat.pow_succ];omega
 exact Nat.lt_of_lt_of_le (Nat.lt_of_lt_of_le h1 h2) (Nat.pow_le_pow_right (by decide) (by decide))⟩
theorem IB.len {k:Nat} {a:Int} (h:IB k a) (hk:k<=9000):(zl a).length<=100000:=by
 have:=zl_len_le (n:=a) (k:=k+1) (by omega) (Nat.lt_of_lt_of_le h.out (Nat.pow_le_pow_right (by decide) (by omega)));omega
theorem sgn_ne (a b:Int):sgn (decide (a<0) != decide (b<0)) (a.natAbs*b.natAbs)=a*b:=by
 rw [← Int.natAbs_mul];rcases Int.lt_or_le a 0 with ha|ha <;> rcases Int.lt_or_le b 0 with hb|hb
 ·have:=Int.mul_pos_of_neg_of_neg ha hb;simp [sgn,ha,hb];omega
 ·have:=Int.mul_nonpos_of_nonpos_of_nonneg (Int.le_of_lt ha) hb;simp [sgn,ha,show ¬ b<0 by omega];omega
 ·have:=Int.mul_nonpos_of_nonneg_of_nonpos ha (Int.le_of_lt hb);simp [sgn,hb,show ¬ a<0 by omega];omega
 ·have:=Int.mul_nonneg ha hb;simp [sgn,show ¬ a<0 by omega,show ¬ b<0 by omega];omega
theorem Num.ext {w w':World} {v:Value} {n:Int} (h:Num w v n) (e:Ext w w'):Num w' v n :=
 let ⟨ad,k,c,h1,h2⟩:=h;⟨ad,k,c,h1,h2.ext e⟩
theorem ret_str {a b:Int} (h:a=b):Ending.returned (.string (zs a)) = .returned (.string (zs b)):=by rw [h]
theorem mul_small (a b:Int) (w:World) (g:Gd w) (ha:(zl a).length<=9) (hb:(zl b).length<=9):Calls Tryz.prog 88 #[.string (zs a),.string (zs b)] w (Ret w (.string (zs (a*b)))):=by
 have h1:=lt_of_zl_len ha;have h2:=lt_of_zl_len hb;have h3:(a*b).natAbs<1000000000*1000000000:=by rw [Int.natAbs_mul];exact Nat.mul_lt_mul'' h1 h2
 have b1:-9223372036854775808<=a*b:=by omega
 have b2:a*b<=9223372036854775807:=by omega
 have HA:=Hi18 ha;have HB:=Hi18 hb;clear h1 h2 h3 ha hb;go_enter Tryz.func88,Tryz.ntmps88;go_wp2_with (first
  | (go_at_call 167;((with_reducible refine (quick_yes a 9 w (by have:=HA.out;omega) (by decide)).mono ?_);rintro e w1 ⟨rfl,e1⟩))
  | (go_at_call 167;refine (quick_yes b 9 _ (by have:=HB.out;omega) (by decide)).mono ?_;rintro e w2 ⟨rfl,e2⟩)
  | (go_at_call 168;refine (of_c (a*b) b1 b2 _ (g.ext (e1.trans e2))).mono ?_;rintro e w3 ⟨rfl,e3⟩))
 go_ret;exact ⟨rfl,(e1.trans e2).trans e3⟩
theorem mul_big (a b:Int) {k m:Nat} (w:World) (g:Gd w) (ha:IB k a) (hb:IB m b) (hk:k<=9000) (hm:m<=9000) (h:¬ ((zl a).length<=9/\(zl b).length<=9)):Calls Tryz.prog 88 #[.string (zs a),.string (zs b)] w (Ret w (.string (zs (a*b)))):=by
 have la:=ha.len hk;have lb:=hb.len hm;have fa:=(ha.fit hk).fit;have fb:=(hb.fit hm).fit;have HSG:=Hi18 (sgn_ne a b);have HA:=Hi18 fa;have HB:=Hi18 fb;have HG:=Hi18 g;clear ha hb fa fb g;by_cases h9:(zl a).length<=9
 ·have h9':¬ (zl b).length<=9:=fun e=>h ⟨h9,e⟩
  have H9:=Hi18 h9;have H9':=Hi18 h9';clear h h9 h9';go_enter Tryz.func88,Tryz.ntmps88;go_wp2_with (first
   | (go_at_call 167;((with_reducible refine (quick_yes a 9 w (by have:=H9.out;omega) (by decide)).mono ?_);rintro e w1 ⟨rfl,e1⟩))
   | (go_at_call 167;refine (quick_no b 9 _ (by have:=H9'.out;omega)).mono ?_;rintro e w2 ⟨rfl,e2⟩)
   | (go_at_call 169;((with_reducible refine (open_c a w2 la).mono ?_);rintro e w3 ⟨va,rfl,e3,ad,na,ca,rfl,ma⟩))
   | (go_at_call 169;refine (open_c b w3 lb).mono ?_;rintro e w4 ⟨vb,rfl,e4,bd,nb,cb,rfl,mb⟩))
  have e12:Ext w w2:=e1.trans e2;clear e1 e2;generalize decide (a<0)=sa at HSG ⊢;generalize decide (b<0)=sb at HSG ⊢;obtain ⟨W,hW⟩:∃ W,(w4.alloc (.cells #[.bool sa,.slice ad na ca] 216)).alloc (.cells #[.bool sb,.slice bd nb cb] 216)=W:=⟨_,rfl⟩
  have ea:Ext w3 W:=by rw [← hW];exact (e4.alloc _).alloc _
  have eb:Ext w4 W:=by rw [← hW];exact ((Ext.refl _).alloc _).alloc _
  have b9:Blk W w4.heap.size #[.bool sa,.slice ad na ca] 216:=by rw [← hW];exact (Blk.new w4 _ _).alloc _
  have b10:Blk W (w4.heap.size+1) #[.bool sb,.slice bd nb cb] 216:=by rw [← hW];have:=Blk.new (w4.alloc (.cells #[.bool sa,.slice ad na ca] 216)) #[.bool sb,.slice bd nb cb] 216;simpa using this
  have ew:Ext w W:=(e12.trans e3).trans ea;rw [hW];have HMA:=Hi18 (ma.ext ea);have HMB:=Hi18 (mb.ext eb);have HEW:=Hi18 ew;have c1:=b9.cell 0 (v:=.bool sa) rfl;have c2:=b9.cell 1 (v:=.slice ad na ca) rfl;have c3:=b10.cell 0 (v:=.bool sb) rfl;have c4:=b10.cell 1 (v:=.slice bd nb cb) rfl;clear hW ea eb ma mb e12 e3 e4 ew b9 b10;go_region_held3 (fun w'=>w'.cell? ⟨w4.heap.size,0,none⟩=some (.bool sa)/\w'.cell? ⟨w4.heap.size,1,none⟩=some (.slice ad na ca)/\w'.cell? ⟨w4.heap.size+1,0,none⟩=some (.bool sb)/\w'.cell? ⟨w4.heap.size+1,1,none⟩=some (.slice bd nb cb)) (first|exact ⟨c1,c2,c3,c4⟩|exact ⟨e5.keeps c1,e5.keeps c2,e5.keeps c3,e5.keeps c4⟩|exact ⟨e6.keeps (e5.keeps c1),e6.keeps (e5.keeps c2),e6.keeps (e5.keeps c3),e6.keeps (e5.keeps c4)⟩) (first
   | (go_at_call 170;refine (times_c a.natAbs b.natAbs _ _ _ (HMA.out.ext (Ext.refl _).drew) (HMB.out.ext (Ext.refl _).drew) HA.out HB.out).mono ?_;rintro e w5 ⟨v5,rfl,e5,m5⟩;obtain ⟨a5,n5,c5,rfl⟩:=m5.slice)
   | (go_at_call 171;refine (close_c _ (a.natAbs*b.natAbs) _ _ _ _ m5 (HA.out.mul5 HB.out) (HG.out.ext ((HEW.out.drew).trans e5))).mono ?_;rintro e w6 ⟨rfl,e6⟩))
  go_wp2;go_ret;exact ⟨ret_str HSG.out,((HEW.out.drew).trans e5).trans e6⟩
 ·have H9:=Hi18 h9;clear h h9;go_enter Tryz.func88,Tryz.ntmps88;go_wp2_with (first
   | (go_at_call 167;((with_reducible refine (quick_no a 9 w (by have:=H9.out;omega)).mono ?_);rintro e w2 ⟨rfl,e12⟩))
   | (go_at_call 169;((with_reducible refine (open_c a w2 la).mono ?_);rintro e w3 ⟨va,rfl,e3,ad,na,ca,rfl,ma⟩))
   | (go_at_call 169;refine (open_c b w3 lb).mono ?_;rintro e w4 ⟨vb,rfl,e4,bd,nb,cb,rfl,mb⟩))
  generalize decide (a<0)=sa at HSG ⊢;generalize decide (b<0)=sb at HSG ⊢;obtain ⟨W,hW⟩:∃ W,(w4.alloc (.cells #[.bool sa,.slice ad na ca] 216)).alloc (.cells #[.bool sb,.slice bd nb cb] 216)=W:=⟨_,rfl⟩
  have ea:Ext w3 W:=by rw [← hW];exact (e4.alloc _).alloc _
  have eb:Ext w4 W:=by rw [← hW];exact ((Ext.refl _).alloc _).alloc _
  have b9:Blk W w4.heap.size #[.bool sa,.slice ad na ca] 216:=by rw [← hW];exact (Blk.new w4 _ _).alloc _
  have b10:Blk W (w4.heap.size+1) #[.bool sb,.slice bd nb cb] 216:=by rw [← hW];have:=Blk.new (w4.alloc (.cells #[.bool sa,.slice ad na ca] 216)) #[.bool sb,.slice bd nb cb] 216;simpa using this
  have ew:Ext w W:=(e12.trans e3).trans ea;rw [hW];have HMA:=Hi18 (ma.ext ea);have HMB:=Hi18 (mb.ext eb);have HEW:=Hi18 ew;have c1:=b9.cell 0 (v:=.bool sa) rfl;have c2:=b9.cell 1 (v:=.slice ad na ca) rfl;have c3:=b10.cell 0 (v:=.bool sb) rfl;have c4:=b10.cell 1 (v:=.slice bd nb cb) rfl;clear hW ea eb ma mb e12 e3 e4 ew b9 b10;go_region_held3 (fun w'=>w'.cell? ⟨w4.heap.size,0,none⟩=some (.bool sa)/\w'.cell? ⟨w4.heap.size,1,none⟩=some (.slice ad na ca)/\w'.cell? ⟨w4.heap.size+1,0,none⟩=some (.bool sb)/\w'.cell? ⟨w4.heap.size+1,1,none⟩=some (.slice bd nb cb)) (first|exact ⟨c1,c2,c3,c4⟩|exact ⟨e5.keeps c1,e5.keeps c2,e5.keeps c3,e5.keeps c4⟩|exact ⟨e6.keeps (e5.keeps c1),e6.keeps (e5.keeps c2),e6.keeps (e5.keeps c3),e6.keeps (e5.keeps c4)⟩) (first
   | (go_at_call 170;refine (times_c a.natAbs b.natAbs _ _ _ (HMA.out.ext (Ext.refl _).drew) (HMB.out.ext (Ext.refl _).drew) HA.out HB.out).mono ?_;rintro e w5 ⟨v5,rfl,e5,m5⟩;obtain ⟨a5,n5,c5,rfl⟩:=m5.slice)
   | (go_at_call 171;refine (close_c _ (a.natAbs*b.natAbs) _ _ _ _ m5 (HA.out.mul5 HB.out) (HG.out.ext ((HEW.out.drew).trans e5))).mono ?_;rintro e w6 ⟨rfl,e6⟩))
  go_wp2;go_ret;exact ⟨ret_str HSG.out,((HEW.out.drew).trans e5).trans e6⟩
theorem mul_c (a b:Int) {k m:Nat} (w:World) (g:Gd w) (ha:IB k a) (hb:IB m b) (hk:k<=9000) (hm:m<=9000):Calls Tryz.prog 88 #[.string (zs a),.string (zs b)] w (Ret w (.string (zs (a*b)))):=by
 by_cases h:(zl a).length<=9/\(zl b).length<=9
 ·exact mul_small a b w g h.1 h.2
 ·exact mul_big a b w g ha hb hk hm h
theorem add_small (a b:Int) (w:World) (g:Gd w) (ha:(zl a).length<=18) (hb:(zl b).length<=18):Calls Tryz.prog 189 #[.string (zs a),.string (zs b)] w (Ret w (.string (zs (a+b)))):=by
 have h1:=lt_of_zl_len ha;have h2:=lt_of_zl_len hb;have b1:-9223372036854775808<=a+b:=by omega
 have b2:a+b<=9223372036854775807:=by omega
 have HA:=Hi18 ha;have HB:=Hi18 hb;clear h1 h2 ha hb;go_enter Tryz.func189,Tryz.ntmps189;go_wp2_with (first
  | (go_at_call 167;((with_reducible refine (quick_yes a 18 w (by have:=HA.out;omega) (by decide)).mono ?_);rintro e w1 ⟨rfl,e1⟩))
  | (go_at_call 167;refine (quick_yes b 18 _ (by have:=HB.out;omega) (by decide)).mono ?_;rintro e w2 ⟨rfl,e2⟩)
  | (go_at_call 168;refine (of_c (a+b) b1 b2 _ (g.ext (e1.trans e2))).mono ?_;rintro e w3 ⟨rfl,e3⟩))
 go_ret;exact ⟨rfl,(e1.trans e2).trans e3⟩
theorem sgn_same {a b:Int} (h:decide (a<0)=decide (b<0)):sgn (decide (a<0)) (a.natAbs+b.natAbs)=a+b:=by
 have h':a<0 ↔ b<0:=by simpa using h
 by_cases ha:a<0
 ·have:=h'.1 ha;simp [sgn,ha];omega
 ·have:¬ b<0:=fun e=>ha (h'.2 e)
  simp [sgn,ha];omega
theorem sgn_diff {a b:Int} (h:decide (a<0)≠decide (b<0)) (hl:b.natAbs<=a.natAbs):sgn (decide (a<0)) (a.natAbs-b.natAbs)=a+b:=by
 by_cases ha:a<0
 ·have:¬ b<0:=by intro e;exact h (by simp [ha,e])
  simp [sgn,ha];omega
 ·have:b<0:=by
   by_cases hb:b<0
   ·exact hb
   ·exact absurd (by simp [ha,hb]) h
  simp [sgn,ha];omega
set_option maxHeartbeats 4000000 in
theorem add_same (a b:Int) {k m:Nat} (w:World) (g:Gd w) (ha:IB k a) (hb:IB m b) (hk:k<=9000) (hm:m<=9000) (h:¬ ((zl a).length<=18/\(zl b).length<=18)) (HS:Hid ((decide (a<0) == decide (b<0))=true/\sgn (decide (a<0)) (a.natAbs+b.natAbs)=a+b)):Calls Tryz.prog 189 #[.string (zs a),.string (zs b)] w (Ret w (.string (zs (a+b)))):=by
 have la:=ha.len hk;have lb:=hb.len hm;have fa:=(ha.fit hk).fit;have fb:=(hb.fit hm).fit;have HA:=Hi18 fa;have HB:=Hi18 fb;have HG:=Hi18 g;clear ha hb fa fb g;by_cases h9:(zl a).length<=18
 ·have h9':¬ (zl b).length<=18:=fun e=>h ⟨h9,e⟩
  have H9:=Hi18 h9;have H9':=Hi18 h9';clear h h9 h9';go_enter Tryz.func189,Tryz.ntmps189;go_upto_region 7 with (first
   | (go_at_call 167;((with_reducible refine (quick_yes a 18 w (by have:=H9.out;omega) (by decide)).mono ?_);rintro e w1 ⟨rfl,e1⟩))
   | (go_at_call 167;refine (quick_no b 18 _ (by have:=H9'.out;omega)).mono ?_;rintro e w2 ⟨rfl,e2⟩)
   | (go_at_call 169;((with_reducible refine (open_c a w2 la).mono ?_);rintro e w3 ⟨va,rfl,e3,ad,na,ca,rfl,ma⟩))
   | (go_at_call 169;refine (open_c b w3 lb).mono ?_;rintro e w4 ⟨vb,rfl,e4,bd,nb,cb,rfl,mb⟩))
  have e12:Ext w w2:=e1.trans e2;clear e1 e2;generalize hsa:decide (a<0)=sa at HS ⊢;generalize hsb:decide (b<0)=sb at HS ⊢;clear hsa hsb;obtain ⟨W,hW⟩:∃ W,(w4.alloc (.cells #[.bool sa,.slice ad na ca] 216)).alloc (.cells #[.bool sb,.slice bd nb cb] 216)=W:=⟨_,rfl⟩
  have ea:Ext w3 W:=by rw [← hW];exact (e4.alloc _).alloc _
  have eb:Ext w4 W:=by rw [← hW];exact ((Ext.refl _).alloc _).alloc _
  have b9:Blk W w4.heap.size #[.bool sa,.slice ad na ca] 216:=by rw [← hW];exact (Blk.new w4 _ _).alloc _
  have b10:Blk W (w4.heap.size+1) #[.bool sb,.slice bd nb cb] 216:=by rw [← hW];have:=Blk.new (w4.alloc (.cells #[.bool sa,.slice ad na ca] 216)) #[.bool sb,.slice bd nb cb] 216;simpa using this
  have ew:Ext w W:=(e12.trans e3).trans ea;have hsz:w.heap.size<=w4.heap.size:=((e12.trans e3).trans e4).size;rw [hW];have HMA:=Hi18 (ma.ext ea);have HMB:=Hi18 (mb.ext eb);have HEW:=Hi18 ew;have c1:=b9.cell 0 (v:=.bool sa) rfl;have c2:=b9.cell 1 (v:=.slice ad na ca) rfl;have c3:=b10.cell 0 (v:=.bool sb) rfl;have c4:=b10.cell 1 (v:=.slice bd nb cb) rfl;have hs:=HS.out.1;clear hW ea eb ma mb e12 e3 e4 ew b9 b10 hsz;go_wp2_with fail;go_region_held3 (fun w'=>w'.cell? ⟨w4.heap.size,0,none⟩=some (.bool sa)/\w'.cell? ⟨w4.heap.size,1,none⟩=some (.slice ad na ca)/\w'.cell? ⟨w4.heap.size+1,0,none⟩=some (.bool sb)/\w'.cell? ⟨w4.heap.size+1,1,none⟩=some (.slice bd nb cb)) (first|exact ⟨c1,c2,c3,c4⟩|exact ⟨e5.keeps c1,e5.keeps c2,e5.keeps c3,e5.keeps c4⟩|exact ⟨e6.keeps (e5.keeps c1),e6.keeps (e5.keeps c2),e6.keeps (e5.keeps c3),e6.keeps (e5.keeps c4)⟩) (first
   | (go_at_call 250;refine (plus_c a.natAbs b.natAbs _ _ _ (HMA.out.ext (Ext.refl _).drew) (HMB.out.ext (Ext.refl _).drew) HA.out HB.out).mono ?_;rintro e w5 ⟨v5,rfl,e5,m5⟩;obtain ⟨a5,n5,c5,rfl⟩:=m5.slice)
   | (go_at_call 171;refine (close_c _ (a.natAbs+b.natAbs) _ _ _ _ m5 (HA.out.add5 HB.out) (HG.out.ext ((HEW.out.drew).trans e5))).mono ?_;rintro e w6 ⟨rfl,e6⟩))
  go_wp2;go_ret;exact ⟨ret_str HS.out.2,((HEW.out.drew).trans e5).trans e6⟩
 ·have H9:=Hi18 h9;clear h h9;go_enter Tryz.func189,Tryz.ntmps189;go_upto_region 7 with (first
   | (go_at_call 167;((with_reducible refine (quick_no a 18 w (by have:=H9.out;omega)).mono ?_);rintro e w2 ⟨rfl,e12⟩))
   | (go_at_call 169;((with_reducible refine (open_c a w2 la).mono ?_);rintro e w3 ⟨va,rfl,e3,ad,na,ca,rfl,ma⟩))
   | (go_at_call 169;refine (open_c b w3 lb).mono ?_;rintro e w4 ⟨vb,rfl,e4,bd,nb,cb,rfl,mb⟩))
  generalize hsa:decide (a<0)=sa at HS ⊢;generalize hsb:decide (b<0)=sb at HS ⊢;clear hsa hsb;obtain ⟨W,hW⟩:∃ W,(w4.alloc (.cells #[.bool sa,.slice ad na ca] 216)).alloc (.cells #[.bool sb,.slice bd nb cb] 216)=W:=⟨_,rfl⟩
  have ea:Ext w3 W:=by rw [← hW];exact (e4.alloc _).alloc _
  have eb:Ext w4 W:=by rw [← hW];exact ((Ext.refl _).alloc _).alloc _
  have b9:Blk W w4.heap.size #[.bool sa,.slice ad na ca] 216:=by rw [← hW];exact (Blk.new w4 _ _).alloc _
  have b10:Blk W (w4.heap.size+1) #[.bool sb,.slice bd nb cb] 216:=by rw [← hW];have:=Blk.new (w4.alloc (.cells #[.bool sa,.slice ad na ca] 216)) #[.bool sb,.slice bd nb cb] 216;simpa using this
  have ew:Ext w W:=(e12.trans e3).trans ea;have hsz:w.heap.size<=w4.heap.size:=((e12.trans e3).trans e4).size;rw [hW];have HMA:=Hi18 (ma.ext ea);have HMB:=Hi18 (mb.ext eb);have HEW:=Hi18 ew;have c1:=b9.cell 0 (v:=.bool sa) rfl;have c2:=b9.cell 1 (v:=.slice ad na ca) rfl;have c3:=b10.cell 0 (v:=.bool sb) rfl;have c4:=b10.cell 1 (v:=.slice bd nb cb) rfl;have hs:=HS.out.1;clear hW ea eb ma mb e12 e3 e4 ew b9 b10 hsz;go_wp2_with fail;go_region_held3 (fun w'=>w'.cell? ⟨w4.heap.size,0,none⟩=some (.bool sa)/\w'.cell? ⟨w4.heap.size,1,none⟩=some (.slice ad na ca)/\w'.cell? ⟨w4.heap.size+1,0,none⟩=some (.bool sb)/\w'.cell? ⟨w4.heap.size+1,1,none⟩=some (.slice bd nb cb)) (first|exact ⟨c1,c2,c3,c4⟩|exact ⟨e5.keeps c1,e5.keeps c2,e5.keeps c3,e5.keeps c4⟩|exact ⟨e6.keeps (e5.keeps c1),e6.keeps (e5.keeps c2),e6.keeps (e5.keeps c3),e6.keeps (e5.keeps c4)⟩) (first
   | (go_at_call 250;refine (plus_c a.natAbs b.natAbs _ _ _ (HMA.out.ext (Ext.refl _).drew) (HMB.out.ext (Ext.refl _).drew) HA.out HB.out).mono ?_;rintro e w5 ⟨v5,rfl,e5,m5⟩;obtain ⟨a5,n5,c5,rfl⟩:=m5.slice)
   | (go_at_call 171;refine (close_c _ (a.natAbs+b.natAbs) _ _ _ _ m5 (HA.out.add5 HB.out) (HG.out.ext ((HEW.out.drew).trans e5))).mono ?_;rintro e w6 ⟨rfl,e6⟩))
  go_wp2;go_ret;exact ⟨ret_str HS.out.2,((HEW.out.drew).trans e5).trans e6⟩
set_option maxHeartbeats 4000000 in
theorem add_stay (a b:Int) {k m:Nat} (w:World) (g:Gd w) (ha:IB k a) (hb:IB m b) (hk:k<=9000) (hm:m<=9000) (h:¬ ((zl a).length<=18/\(zl b).length<=18)) (HS:Hid ((decide (a<0) == decide (b<0))=false/\sgn (decide (a<0)) (a.natAbs-b.natAbs)=a+b)) (HLE:Hid (b.natAbs<=a.natAbs)):Calls Tryz.prog 189 #[.string (zs a),.string (zs b)] w (Ret w (.string (zs (a+b)))):=by
 have la:=ha.len hk;have lb:=hb.len hm;have fa:=(ha.fit hk).fit;have fb:=(hb.fit hm).fit;have HA:=Hi18 fa;have HB:=Hi18 fb;have HG:=Hi18 g;clear ha hb fa fb g;by_cases h9:(zl a).length<=18
 ·have h9':¬ (zl b).length<=18:=fun e=>h ⟨h9,e⟩
  have H9:=Hi18 h9;have H9':=Hi18 h9';clear h h9 h9';go_enter Tryz.func189,Tryz.ntmps189;go_upto_region 7 with (first
   | (go_at_call 167;((with_reducible refine (quick_yes a 18 w (by have:=H9.out;omega) (by decide)).mono ?_);rintro e w1 ⟨rfl,e1⟩))
   | (go_at_call 167;refine (quick_no b 18 _ (by have:=H9'.out;omega)).mono ?_;rintro e w2 ⟨rfl,e2⟩)
   | (go_at_call 169;((with_reducible refine (open_c a w2 la).mono ?_);rintro e w3 ⟨va,rfl,e3,ad,na,ca,rfl,ma⟩))
   | (go_at_call 169;refine (open_c b w3 lb).mono ?_;rintro e w4 ⟨vb,rfl,e4,bd,nb,cb,rfl,mb⟩))
  have e12:Ext w w2:=e1.trans e2;clear e1 e2;generalize hsa:decide (a<0)=sa at HS ⊢;generalize hsb:decide (b<0)=sb at HS ⊢;clear hsa hsb;obtain ⟨W,hW⟩:∃ W,(w4.alloc (.cells #[.bool sa,.slice ad na ca] 216)).alloc (.cells #[.bool sb,.slice bd nb cb] 216)=W:=⟨_,rfl⟩
  have ea:Ext w3 W:=by rw [← hW];exact (e4.alloc _).alloc _
  have eb:Ext w4 W:=by rw [← hW];exact ((Ext.refl _).alloc _).alloc _
  have b9:Blk W w4.heap.size #[.bool sa,.slice ad na ca] 216:=by rw [← hW];exact (Blk.new w4 _ _).alloc _
  have b10:Blk W (w4.heap.size+1) #[.bool sb,.slice bd nb cb] 216:=by rw [← hW];have:=Blk.new (w4.alloc (.cells #[.bool sa,.slice ad na ca] 216)) #[.bool sb,.slice bd nb cb] 216;simpa using this
  have ew:Ext w W:=(e12.trans e3).trans ea;have hsz:w.heap.size<=w4.heap.size:=((e12.trans e3).trans e4).size;rw [hW];have hs:=HS.out.1;have c1':=b9.cell 0 (v:=.bool sa) rfl;have c2':=b9.cell 1 (v:=.slice ad na ca) rfl;have c3':=b10.cell 0 (v:=.bool sb) rfl;have c4':=b10.cell 1 (v:=.slice bd nb cb) rfl;have hord:=order_c a.natAbs b.natAbs (.slice ad na ca) (.slice bd nb cb) W (ma.ext ea) (mb.ext eb);obtain ⟨o,ho⟩:∃ o,o=ncmp a.natAbs b.natAbs:=⟨_,rfl⟩
  rw [← ho] at hord;have ho1:0<=o:=by rw [ho];exact ncmp_ge HLE.out
  have ho2:¬ o<0:=by omega
  have HMa:=Hi18 (ma.ext ea);have HMb:=Hi18 (mb.ext eb);have HEW0:=Hi18 ew;have HB9:=Hi18 b9;have HB10:=Hi18 b10;clear hW ea eb ma mb e12 e3 e4 ew b9 b10 ho;go_upto_region 11 with (go_at_call 251;refine hord.mono ?_;rintro e w7 ⟨rfl,e7⟩;have c1:=e7.keeps c1';have c2:=e7.keeps c2';have c3:=e7.keeps c3';have c4:=e7.keeps c4')
  have HM1:=Hi18 (HMa.out.ext e7);have HM2:=Hi18 (HMb.out.ext e7);have HEW:=Hi18 (HEW0.out.trans e7);have b9:=HB9.out.ext e7;have b10:=HB10.out.ext e7;clear c1 c2 c3 c4 c1' c2' c3' c4' hord e7;have c1:=b9.cell 0 (v:=.bool sa) rfl;have c2:=b9.cell 1 (v:=.slice ad na ca) rfl;have c3:=b10.cell 0 (v:=.bool sb) rfl;have c4:=b10.cell 1 (v:=.slice bd nb cb) rfl;clear b9 b10;go_wp2_with fail;go_region_held3 (fun w'=>w'.cell? ⟨w4.heap.size,0,none⟩=some (.bool sa)/\w'.cell? ⟨w4.heap.size,1,none⟩=some (.slice ad na ca)/\w'.cell? ⟨w4.heap.size+1,0,none⟩=some (.bool sb)/\w'.cell? ⟨w4.heap.size+1,1,none⟩=some (.slice bd nb cb)) (first|exact ⟨c1,c2,c3,c4⟩|exact ⟨e5.keeps c1,e5.keeps c2,e5.keeps c3,e5.keeps c4⟩|exact ⟨e6.keeps (e5.keeps c1),e6.keeps (e5.keeps c2),e6.keeps (e5.keeps c3),e6.keeps (e5.keeps c4)⟩) (first
   | (go_at_call 252;refine (minus_c a.natAbs b.natAbs _ _ _ (HM1.out.ext (Ext.refl _).drew) (HM2.out.ext (Ext.refl _).drew) HA.out HLE.out).mono ?_;rintro e w5 ⟨v5,rfl,e5,m5⟩;obtain ⟨a5,n5,c5,rfl⟩:=m5.slice)
   | (go_at_call 171;refine (close_c _ (a.natAbs-b.natAbs) _ _ _ _ m5 (Fit.five (HA.out.mono (Nat.sub_le _ _))) (HG.out.ext ((HEW.out.drew).trans e5))).mono ?_;rintro e w6 ⟨rfl,e6⟩))
  go_wp2;go_ret;exact ⟨ret_str HS.out.2,((HEW.out.drew).trans e5).trans e6⟩
 ·have H9:=Hi18 h9;clear h h9;go_enter Tryz.func189,Tryz.ntmps189;go_upto_region 7 with (first
   | (go_at_call 167;((with_reducible refine (quick_no a 18 w (by have:=H9.out;omega)).mono ?_);rintro e w2 ⟨rfl,e12⟩))
   | (go_at_call 169;((with_reducible refine (open_c a w2 la).mono ?_);rintro e w3 ⟨va,rfl,e3,ad,na,ca,rfl,ma⟩))
   | (go_at_call 169;refine (open_c b w3 lb).mono ?_;rintro e w4 ⟨vb,rfl,e4,bd,nb,cb,rfl,mb⟩))
  generalize hsa:decide (a<0)=sa at HS ⊢;generalize hsb:decide (b<0)=sb at HS ⊢;clear hsa hsb;obtain ⟨W,hW⟩:∃ W,(w4.alloc (.cells #[.bool sa,.slice ad na ca] 216)).alloc (.cells #[.bool sb,.slice bd nb cb] 216)=W:=⟨_,rfl⟩
  have ea:Ext w3 W:=by rw [← hW];exact (e4.alloc _).alloc _
  have eb:Ext w4 W:=by rw [← hW];exact ((Ext.refl _).alloc _).alloc _
  have b9:Blk W w4.heap.size #[.bool sa,.slice ad na ca] 216:=by rw [← hW];exact (Blk.new w4 _ _).alloc _
  have b10:Blk W (w4.heap.size+1) #[.bool sb,.slice bd nb cb] 216:=by rw [← hW];have:=Blk.new (w4.alloc (.cells #[.bool sa,.slice ad na ca] 216)) #[.bool sb,.slice bd nb cb] 216;simpa using this
  have ew:Ext w W:=(e12.trans e3).trans ea;have hsz:w.heap.size<=w4.heap.size:=((e12.trans e3).trans e4).size;rw [hW];have hs:=HS.out.1;have c1':=b9.cell 0 (v:=.bool sa) rfl;have c2':=b9.cell 1 (v:=.slice ad na ca) rfl;have c3':=b10.cell 0 (v:=.bool sb) rfl;have c4':=b10.cell 1 (v:=.slice bd nb cb) rfl;have hord:=order_c a.natAbs b.natAbs (.slice ad na ca) (.slice bd nb cb) W (ma.ext ea) (mb.ext eb);obtain ⟨o,ho⟩:∃ o,o=ncmp a.natAbs b.natAbs:=⟨_,rfl⟩
  rw [← ho] at hord;have ho1:0<=o:=by rw [ho];exact ncmp_ge HLE.out
  have ho2:¬ o<0:=by omega
  have HMa:=Hi18 (ma.ext ea);have HMb:=Hi18 (mb.ext eb);have HEW0:=Hi18 ew;have HB9:=Hi18 b9;have HB10:=Hi18 b10;clear hW ea eb ma mb e12 e3 e4 ew b9 b10 ho;go_upto_region 11 with (go_at_call 251;refine hord.mono ?_;rintro e w7 ⟨rfl,e7⟩;have c1:=e7.keeps c1';have c2:=e7.keeps c2';have c3:=e7.keeps c3';have c4:=e7.keeps c4')
  have HM1:=Hi18 (HMa.out.ext e7);have HM2:=Hi18 (HMb.out.ext e7);have HEW:=Hi18 (HEW0.out.trans e7);have b9:=HB9.out.ext e7;have b10:=HB10.out.ext e7;clear c1 c2 c3 c4 c1' c2' c3' c4' hord e7;have c1:=b9.cell 0 (v:=.bool sa) rfl;have c2:=b9.cell 1 (v:=.slice ad na ca) rfl;have c3:=b10.cell 0 (v:=.bool sb) rfl;have c4:=b10.cell 1 (v:=.slice bd nb cb) rfl;clear b9 b10;go_wp2_with fail;go_region_held3 (fun w'=>w'.cell? ⟨w4.heap.size,0,none⟩=some (.bool sa)/\w'.cell? ⟨w4.heap.size,1,none⟩=some (.slice ad na ca)/\w'.cell? ⟨w4.heap.size+1,0,none⟩=some (.bool sb)/\w'.cell? ⟨w4.heap.size+1,1,none⟩=some (.slice bd nb cb)) (first|exact ⟨c1,c2,c3,c4⟩|exact ⟨e5.keeps c1,e5.keeps c2,e5.keeps c3,e5.keeps c4⟩|exact ⟨e6.keeps (e5.keeps c1),e6.keeps (e5.keeps c2),e6.keeps (e5.keeps c3),e6.keeps (e5.keeps c4)⟩) (first
   | (go_at_call 252;refine (minus_c a.natAbs b.natAbs _ _ _ (HM1.out.ext (Ext.refl _).drew) (HM2.out.ext (Ext.refl _).drew) HA.out HLE.out).mono ?_;rintro e w5 ⟨v5,rfl,e5,m5⟩;obtain ⟨a5,n5,c5,rfl⟩:=m5.slice)
   | (go_at_call 171;refine (close_c _ (a.natAbs-b.natAbs) _ _ _ _ m5 (Fit.five (HA.out.mono (Nat.sub_le _ _))) (HG.out.ext ((HEW.out.drew).trans e5))).mono ?_;rintro e w6 ⟨rfl,e6⟩))
  go_wp2;go_ret;exact ⟨ret_str HS.out.2,((HEW.out.drew).trans e5).trans e6⟩
set_option maxHeartbeats 4000000 in
theorem add_swap (a b:Int) {k m:Nat} (w:World) (g:Gd w) (ha:IB k a) (hb:IB m b) (hk:k<=9000) (hm:m<=9000) (h:¬ ((zl a).length<=18/\(zl b).length<=18)) (HS:Hid ((decide (a<0) == decide (b<0))=false/\sgn (decide (b<0)) (b.natAbs-a.natAbs)=a+b)) (HLT:Hid (a.natAbs<b.natAbs)) (HLE:Hid (a.natAbs<=b.natAbs)):Calls Tryz.prog 189 #[.string (zs a),.string (zs b)] w (Ret w (.string (zs (a+b)))):=by
 have la:=ha.len hk;have lb:=hb.len hm;have fa:=(ha.fit hk).fit;have fb:=(hb.fit hm).fit;have HA:=Hi18 fa;have HB:=Hi18 fb;have HG:=Hi18 g;clear ha hb fa fb g;by_cases h9:(zl a).length<=18
 ·have h9':¬ (zl b).length<=18:=fun e=>h ⟨h9,e⟩
  have H9:=Hi18 h9;have H9':=Hi18 h9';clear h h9 h9';go_enter Tryz.func189,Tryz.ntmps189;go_upto_region 7 with (first
   | (go_at_call 167;((with_reducible refine (quick_yes a 18 w (by have:=H9.out;omega) (by decide)).mono ?_);rintro e w1 ⟨rfl,e1⟩))
   | (go_at_call 167;refine (quick_no b 18 _ (by have:=H9'.out;omega)).mono ?_;rintro e w2 ⟨rfl,e2⟩)
   | (go_at_call 169;((with_reducible refine (open_c a w2 la).mono ?_);rintro e w3 ⟨va,rfl,e3,ad,na,ca,rfl,ma⟩))
   | (go_at_call 169;refine (open_c b w3 lb).mono ?_;rintro e w4 ⟨vb,rfl,e4,bd,nb,cb,rfl,mb⟩))
  have e12:Ext w w2:=e1.trans e2;clear e1 e2;generalize hsa:decide (a<0)=sa at HS ⊢;generalize hsb:decide (b<0)=sb at HS ⊢;clear hsa hsb;obtain ⟨W,hW⟩:∃ W,(w4.alloc (.cells #[.bool sa,.slice ad na ca] 216)).alloc (.cells #[.bool sb,.slice bd nb cb] 216)=W:=⟨_,rfl⟩
  have ea:Ext w3 W:=by rw [← hW];exact (e4.alloc _).alloc _
  have eb:Ext w4 W:=by rw [← hW];exact ((Ext.refl _).alloc _).alloc _
  have b9:Blk W w4.heap.size #[.bool sa,.slice ad na ca] 216:=by rw [← hW];exact (Blk.new w4 _ _).alloc _
  have b10:Blk W (w4.heap.size+1) #[.bool sb,.slice bd nb cb] 216:=by rw [← hW];have:=Blk.new (w4.alloc (.cells #[.bool sa,.slice ad na ca] 216)) #[.bool sb,.slice bd nb cb] 216;simpa using this
  have ew:Ext w W:=(e12.trans e3).trans ea;have hsz:w.heap.size<=w4.heap.size:=((e12.trans e3).trans e4).size;rw [hW];have hs:=HS.out.1;have c1':=b9.cell 0 (v:=.bool sa) rfl;have c2':=b9.cell 1 (v:=.slice ad na ca) rfl;have c3':=b10.cell 0 (v:=.bool sb) rfl;have c4':=b10.cell 1 (v:=.slice bd nb cb) rfl;have hord:=order_c a.natAbs b.natAbs (.slice ad na ca) (.slice bd nb cb) W (ma.ext ea) (mb.ext eb);rw [ncmp_lt HLT.out] at hord;have HMa:=Hi18 (ma.ext ea);have HMb:=Hi18 (mb.ext eb);have HEW0:=Hi18 ew;have HB9:=Hi18 b9;have HB10:=Hi18 b10;have HMa4:=Hi18 (ma.ext e4);have HMb4:=Hi18 mb;have HE4:=Hi18 eb;have HE0:=Hi18 ((e12.trans e3).trans e4);clear hW ea eb ma mb e12 e3 e4 ew b9 b10;go_upto_region 11 with (go_at_call 251;refine hord.mono ?_;rintro e w7 ⟨rfl,e7⟩;have c1:=e7.keeps c1';have c2:=e7.keeps c2';have c3:=e7.keeps c3';have c4:=e7.keeps c4';have f9:=(HB9.out.ext e7).free 0;have f9':=(HB9.out.ext e7).free 1;have f10:=(HB10.out.ext e7).free 0;have f10':=(HB10.out.ext e7).free 1)
  obtain ⟨W8,hW8⟩:∃ W8,((((w7.setCell ⟨w4.heap.size,0,none⟩ (.bool sb)).setCell ⟨w4.heap.size,1,none⟩ (.slice bd nb cb)).setCell ⟨w4.heap.size+1,0,none⟩ (.bool sa)).setCell ⟨w4.heap.size+1,1,none⟩ (.slice ad na ca))=W8:=⟨_,rfl⟩
  have e8:Ext w4 W8:=by rw [← hW8];exact ((((HE4.out.trans e7).setCell (Nat.le_refl _) _).setCell (Nat.le_refl _) _).setCell (Nat.le_succ _) _).setCell (Nat.le_succ _) _
  have b9:Blk W8 w4.heap.size #[.bool sb,.slice bd nb cb] 216:=by
   rw [← hW8];exact ((((HB9.out.ext e7).set 0 (.bool sb)).set 1 (.slice bd nb cb)).other _ (by simp)).other _ (by simp)
  have b10:Blk W8 (w4.heap.size+1) #[.bool sa,.slice ad na ca] 216:=by
   rw [← hW8];exact ((((HB10.out.ext e7).other _ (by simp)).other _ (by simp)).set 0 (.bool sa)).set 1 (.slice ad na ca)
  rw [hW8];have HM1:=Hi18 (HMb4.out.ext e8);have HM2:=Hi18 (HMa4.out.ext e8);have HEW:=Hi18 (HE0.out.trans e8);clear c1 c2 c3 c4 c1' c2' c3' c4' f9 f9' f10 f10' hord e7 e8 hW8;have c1:=b9.cell 0 (v:=.bool sb) rfl;have c2:=b9.cell 1 (v:=.slice bd nb cb) rfl;have c3:=b10.cell 0 (v:=.bool sa) rfl;have c4:=b10.cell 1 (v:=.slice ad na ca) rfl;clear b9 b10;go_wp2_with fail;go_region_held3 (fun w'=>w'.cell? ⟨w4.heap.size,0,none⟩=some (.bool sb)/\w'.cell? ⟨w4.heap.size,1,none⟩=some (.slice bd nb cb)/\w'.cell? ⟨w4.heap.size+1,0,none⟩=some (.bool sa)/\w'.cell? ⟨w4.heap.size+1,1,none⟩=some (.slice ad na ca)) (first|exact ⟨c1,c2,c3,c4⟩|exact ⟨e5.keeps c1,e5.keeps c2,e5.keeps c3,e5.keeps c4⟩|exact ⟨e6.keeps (e5.keeps c1),e6.keeps (e5.keeps c2),e6.keeps (e5.keeps c3),e6.keeps (e5.keeps c4)⟩) (first
   | (go_at_call 252;refine (minus_c b.natAbs a.natAbs _ _ _ (HM1.out.ext (Ext.refl _).drew) (HM2.out.ext (Ext.refl _).drew) HB.out HLE.out).mono ?_;rintro e w5 ⟨v5,rfl,e5,m5⟩;obtain ⟨a5,n5,c5,rfl⟩:=m5.slice)
   | (go_at_call 171;refine (close_c _ (b.natAbs-a.natAbs) _ _ _ _ m5 (Fit.five (HB.out.mono (Nat.sub_le _ _))) (HG.out.ext ((HEW.out.drew).trans e5))).mono ?_;rintro e w6 ⟨rfl,e6⟩))
  go_wp2;go_ret;exact ⟨ret_str HS.out.2,((HEW.out.drew).trans e5).trans e6⟩
 ·have H9:=Hi18 h9;clear h h9;go_enter Tryz.func189,Tryz.ntmps189;go_upto_region 7 with (first
   | (go_at_call 167;((with_reducible refine (quick_no a 18 w (by have:=H9.out;omega)).mono ?_);rintro e w2 ⟨rfl,e12⟩))
   | (go_at_call 169;((with_reducible refine (open_c a w2 la).mono ?_);rintro e w3 ⟨va,rfl,e3,ad,na,ca,rfl,ma⟩))
   | (go_at_call 169;refine (open_c b w3 lb).mono ?_;rintro e w4 ⟨vb,rfl,e4,bd,nb,cb,rfl,mb⟩))
  generalize hsa:decide (a<0)=sa at HS ⊢;generalize hsb:decide (b<0)=sb at HS ⊢;clear hsa hsb;obtain ⟨W,hW⟩:∃ W,(w4.alloc (.cells #[.bool sa,.slice ad na ca] 216)).alloc (.cells #[.bool sb,.slice bd nb cb] 216)=W:=⟨_,rfl⟩
  have ea:Ext w3 W:=by rw [← hW];exact (e4.alloc _).alloc _
  have eb:Ext w4 W:=by rw [← hW];exact ((Ext.refl _).alloc _).alloc _
  have b9:Blk W w4.heap.size #[.bool sa,.slice ad na ca] 216:=by rw [← hW];exact (Blk.new w4 _ _).alloc _
  have b10:Blk W (w4.heap.size+1) #[.bool sb,.slice bd nb cb] 216:=by rw [← hW];have:=Blk.new (w4.alloc (.cells #[.bool sa,.slice ad na ca] 216)) #[.bool sb,.slice bd nb cb] 216;simpa using this
  have ew:Ext w W:=(e12.trans e3).trans ea;have hsz:w.heap.size<=w4.heap.size:=((e12.trans e3).trans e4).size;rw [hW];have hs:=HS.out.1;have c1':=b9.cell 0 (v:=.bool sa) rfl;have c2':=b9.cell 1 (v:=.slice ad na ca) rfl;have c3':=b10.cell 0 (v:=.bool sb) rfl;have c4':=b10.cell 1 (v:=.slice bd nb cb) rfl;have hord:=order_c a.natAbs b.natAbs (.slice ad na ca) (.slice bd nb cb) W (ma.ext ea) (mb.ext eb);rw [ncmp_lt HLT.out] at hord;have HMa:=Hi18 (ma.ext ea);have HMb:=Hi18 (mb.ext eb);have HEW0:=Hi18 ew;have HB9:=Hi18 b9;have HB10:=Hi18 b10;have HMa4:=Hi18 (ma.ext e4);have HMb4:=Hi18 mb;have HE4:=Hi18 eb;have HE0:=Hi18 ((e12.trans e3).trans e4);clear hW ea eb ma mb e12 e3 e4 ew b9 b10;go_upto_region 11 with (go_at_call 251;refine hord.mono ?_;rintro e w7 ⟨rfl,e7⟩;have c1:=e7.keeps c1';have c2:=e7.keeps c2';have c3:=e7.keeps c3';have c4:=e7.keeps c4';have f9:=(HB9.out.ext e7).free 0;have f9':=(HB9.out.ext e7).free 1;have f10:=(HB10.out.ext e7).free 0;have f10':=(HB10.out.ext e7).free 1)
  obtain ⟨W8,hW8⟩:∃ W8,((((w7.setCell ⟨w4.heap.size,0,none⟩ (.bool sb)).setCell ⟨w4.heap.size,1,none⟩ (.slice bd nb cb)).setCell ⟨w4.heap.size+1,0,none⟩ (.bool sa)).setCell ⟨w4.heap.size+1,1,none⟩ (.slice ad na ca))=W8:=⟨_,rfl⟩
  have e8:Ext w4 W8:=by rw [← hW8];exact ((((HE4.out.trans e7).setCell (Nat.le_refl _) _).setCell (Nat.le_refl _) _).setCell (Nat.le_succ _) _).setCell (Nat.le_succ _) _
  have b9:Blk W8 w4.heap.size #[.bool sb,.slice bd nb cb] 216:=by
   rw [← hW8];exact ((((HB9.out.ext e7).set 0 (.bool sb)).set 1 (.slice bd nb cb)).other _ (by simp)).other _ (by simp)
  have b10:Blk W8 (w4.heap.size+1) #[.bool sa,.slice ad na ca] 216:=by
   rw [← hW8];exact ((((HB10.out.ext e7).other _ (by simp)).other _ (by simp)).set 0 (.bool sa)).set 1 (.slice ad na ca)
  rw [hW8];have HM1:=Hi18 (HMb4.out.ext e8);have HM2:=Hi18 (HMa4.out.ext e8);have HEW:=Hi18 (HE0.out.trans e8);clear c1 c2 c3 c4 c1' c2' c3' c4' f9 f9' f10 f10' hord e7 e8 hW8;have c1:=b9.cell 0 (v:=.bool sb) rfl;have c2:=b9.cell 1 (v:=.slice bd nb cb) rfl;have c3:=b10.cell 0 (v:=.bool sa) rfl;have c4:=b10.cell 1 (v:=.slice ad na ca) rfl;clear b9 b10;go_wp2_with fail;go_region_held3 (fun w'=>w'.cell? ⟨w4.heap.size,0,none⟩=some (.bool sb)/\w'.cell? ⟨w4.heap.size,1,none⟩=some (.slice bd nb cb)/\w'.cell? ⟨w4.heap.size+1,0,none⟩=some (.bool sa)/\w'.cell? ⟨w4.heap.size+1,1,none⟩=some (.slice ad na ca)) (first|exact ⟨c1,c2,c3,c4⟩|exact ⟨e5.keeps c1,e5.keeps c2,e5.keeps c3,e5.keeps c4⟩|exact ⟨e6.keeps (e5.keeps c1),e6.keeps (e5.keeps c2),e6.keeps (e5.keeps c3),e6.keeps (e5.keeps c4)⟩) (first
   | (go_at_call 252;refine (minus_c b.natAbs a.natAbs _ _ _ (HM1.out.ext (Ext.refl _).drew) (HM2.out.ext (Ext.refl _).drew) HB.out HLE.out).mono ?_;rintro e w5 ⟨v5,rfl,e5,m5⟩;obtain ⟨a5,n5,c5,rfl⟩:=m5.slice)
   | (go_at_call 171;refine (close_c _ (b.natAbs-a.natAbs) _ _ _ _ m5 (Fit.five (HB.out.mono (Nat.sub_le _ _))) (HG.out.ext ((HEW.out.drew).trans e5))).mono ?_;rintro e w6 ⟨rfl,e6⟩))
  go_wp2;go_ret;exact ⟨ret_str HS.out.2,((HEW.out.drew).trans e5).trans e6⟩
theorem add_c (a b:Int) {k m:Nat} (w:World) (g:Gd w) (ha:IB k a) (hb:IB m b) (hk:k<=9000) (hm:m<=9000):Calls Tryz.prog 189 #[.string (zs a),.string (zs b)] w (Ret w (.string (zs (a+b)))):=by
 by_cases h:(zl a).length<=18/\(zl b).length<=18
 ·exact add_small a b w g h.1 h.2
 ·by_cases hs:decide (a<0)=decide (b<0)
  ·exact add_same a b w g ha hb hk hm h (Hi18 ⟨by simpa using hs,sgn_same hs⟩)
  ·by_cases hl:b.natAbs<=a.natAbs
   ·exact add_stay a b w g ha hb hk hm h (Hi18 ⟨by simpa using hs,sgn_diff hs hl⟩) (Hi18 hl)
   ·exact add_swap a b w g ha hb hk hm h (Hi18 ⟨by simpa using hs,by rw [Int.add_comm];exact sgn_diff (fun e=>hs e.symm) (by omega)⟩) (Hi18 (by omega)) (Hi18 (by omega))
theorem Mag.len_iff {w:World} {ad:Option Addr} {n c N:Nat} (h:Mag w (.slice ad n c) N):n=0 ↔ N=0:=by
 obtain ⟨l,⟨ad',cap,b,off,hv,_⟩,hc,hm⟩:=h;simp only [Value.slice.injEq] at hv;rw [hv.2.1];constructor
 ·intro e;have:l=[]:=List.length_eq_zero_iff.1 e;subst this;exact hm.symm
 ·intro e;rw [hc.nil_of_zero (by decide) (by rw [hm,e])];rfl
theorem div_pos_q (a b:Int) (hb:b≠0) (h:0<=a∨a.natAbs % b.natAbs=0):sgn (!(decide (a<0) == decide (b<0))) (a.natAbs / b.natAbs)=a / b/\sgn false (a.natAbs % b.natAbs)=a % b:=by
 have hq:∀ (x y:Nat),sgn false (x % y)=(x:Int) % (y:Int):=fun x y=>by simp [sgn]
 rcases Int.lt_or_le a 0 with ha|ha
 ·have h0:a.natAbs % b.natAbs=0:=by
   rcases h with h|h
   ·omega
   ·exact h
  have hd:b∣a:=by rw [← Int.natAbs_dvd_natAbs];exact Nat.dvd_of_mod_eq_zero h0
  obtain ⟨c,rfl⟩:=hd;refine ⟨?_,by rw [h0,Int.mul_emod_right];rfl⟩;rw [Int.mul_ediv_cancel_left _ hb,Int.natAbs_mul,Nat.mul_div_cancel_left _ (by omega)];rcases Int.lt_or_le b 0 with hb'|hb'
  ·have hc:0<c:=by
    rcases Int.lt_or_le 0 c with h|h
    ·exact h
    ·have:=Int.mul_nonneg_of_nonpos_of_nonpos (Int.le_of_lt hb') h;omega
   simp [sgn,ha,hb'];omega
  ·have hc:c<0:=by
    rcases Int.lt_or_le c 0 with h|h
    ·exact h
    ·have:=Int.mul_nonneg hb' h;omega
   simp [sgn,ha,show ¬ b<0 by omega];omega
 ·obtain ⟨n,rfl⟩:=Int.eq_ofNat_of_zero_le ha;rcases Int.lt_or_le b 0 with hb'|hb'
  ·obtain ⟨m,rfl⟩:∃ m:Nat,b=-(m:Int):=⟨b.natAbs,by omega⟩
   simp [sgn,show ¬ ((n:Int)<0) by omega];intro e;exact absurd e (by omega)
  ·obtain ⟨m,rfl⟩:=Int.eq_ofNat_of_zero_le hb';simp [sgn,show ¬ ((n:Int)<0) by omega,show ¬ ((m:Int)<0) by omega]
theorem div_neg_q (a b:Int) (hb:b≠0) (ha:a<0) (h:a.natAbs % b.natAbs≠0):sgn (!(decide (a<0) == decide (b<0))) (a.natAbs / b.natAbs+1)=a / b/\sgn false (b.natAbs-a.natAbs % b.natAbs)=a % b:=by
 have hbn:0<b.natAbs:=by omega
 have hlt:=Nat.mod_lt a.natAbs hbn;have hdm:=Nat.div_add_mod a.natAbs b.natAbs;have key:∀ q r:Int,a=b*q+r->0<=r->r<b.natAbs->q=a / b/\r=a % b:=fun q r e h0 h1=>by
  rcases Int.lt_or_lt_of_ne hb with hb'|hb'
  ·have:=(Int.ediv_emod_unique' (a:=a) (b:=b) (r:=r) (q:=q) hb').2 ⟨by rw [e,Int.add_comm],h0,by omega⟩;exact ⟨this.1.symm,this.2.symm⟩
  ·have:=(Int.ediv_emod_unique (a:=a) (b:=b) (r:=r) (q:=q) hb').2 ⟨by rw [e,Int.add_comm],h0,by omega⟩;exact ⟨this.1.symm,this.2.symm⟩
 have e2:sgn false (b.natAbs-a.natAbs % b.natAbs)=((b.natAbs-a.natAbs % b.natAbs:Nat):Int):=rfl;rw [e2];generalize hQ:a.natAbs / b.natAbs=Q at *;generalize hR:a.natAbs % b.natAbs=R at *;refine key _ _ ?_ (by omega) (by omega);have e3:(a.natAbs:Int)=(b.natAbs:Int)*Q+R:=by rw [← Int.natCast_mul];omega
 rcases Int.lt_or_le b 0 with hb'|hb'
 ·have:(b.natAbs:Int)=-b:=by omega
  rw [this] at e3;simp [sgn,ha,hb'];rw [Int.neg_mul] at e3;rw [Int.mul_add,Int.mul_one];omega
 ·have:(b.natAbs:Int)=b:=by omega
  rw [this] at e3;simp [sgn,ha,show ¬ b<0 by omega];rw [Int.mul_neg,Int.mul_add,Int.mul_one];omega
theorem ret_qr {a b c d:Int} (h:a=b) (k:c=d):Ending.returned (.tuple #[.string (zs a),.string (zs c),.int .i64 0]) = .returned (.tuple #[.string (zs b),.string (zs d),.int .i64 0]):=by rw [h,k]
set_option maxHeartbeats 4000000 in
theorem divmod_pos (a b:Int) {k m:Nat} (w:World) (g:Gd w) (ha:IB k a) (hb:IB m b) (hk:k<=9000) (hm:m<=9000) (hb0:b≠0) (HSA:Hid (decide (a<0)=false)) (HS:Hid (sgn (!(decide (a<0) == decide (b<0))) (a.natAbs / b.natAbs)=a / b/\sgn false (a.natAbs % b.natAbs)=a % b)):Calls Tryz.prog 228 #[.string (zs a),.string (zs b)] w (Ret w (.tuple #[.string (zs (a / b)),.string (zs (a % b)),.int .i64 0])):=by
 have la:=ha.len hk;have lb:=hb.len hm;have fa:=ha.fit hk;have fb:=(hb.fit hm).fit;have hbn:0<b.natAbs:=by omega
 have HA:=Hi18 fa;have HB:=Hi18 fb;have HG:=Hi18 g;have HBN:=Hi18 hbn;have hz:=zs_not0 hb0;clear ha hb fa fb g hb0 hbn;go_enter Tryz.func228,Tryz.ntmps228;go_upto_region 4 with (first
     | (go_at_call 169;((with_reducible refine (open_c a w la).mono ?_);rintro e w3 ⟨va,rfl,e3,ad,na,ca,rfl,ma⟩))
     | (go_at_call 169;refine (open_c b w3 lb).mono ?_;rintro e w4 ⟨vb,rfl,e4,bd,nb,cb,rfl,mb⟩))
 generalize hsa:decide (a<0)=sa at HS HSA ⊢;generalize hsb:decide (b<0)=sb at HS ⊢;clear hsa hsb;obtain ⟨W,hW⟩:∃ W,(w4.alloc (.cells #[.bool sa,.slice ad na ca] 216)).alloc (.cells #[.bool sb,.slice bd nb cb] 216)=W:=⟨_,rfl⟩
 have ea:Ext w3 W:=by rw [← hW];exact (e4.alloc _).alloc _
 have eb:Ext w4 W:=by rw [← hW];exact ((Ext.refl _).alloc _).alloc _
 have b9:Blk W w4.heap.size #[.bool sa,.slice ad na ca] 216:=by rw [← hW];exact (Blk.new w4 _ _).alloc _
 have b10:Blk W (w4.heap.size+1) #[.bool sb,.slice bd nb cb] 216:=by rw [← hW];have:=Blk.new (w4.alloc (.cells #[.bool sa,.slice ad na ca] 216)) #[.bool sb,.slice bd nb cb] 216;simpa using this
 have ew:Ext w W:=e3.trans ea;rw [hW];have HMA:=Hi18 (ma.ext ea);have HMB:=Hi18 (mb.ext eb);have HEW:=Hi18 ew;have c1':=b9.cell 0 (v:=.bool sa) rfl;have c2':=b9.cell 1 (v:=.slice ad na ca) rfl;have c3':=b10.cell 0 (v:=.bool sb) rfl;have c4':=b10.cell 1 (v:=.slice bd nb cb) rfl;clear hW ea eb ma mb e3 e4 ew b9 b10;go_upto_region 5 with (go_at_call 246;refine (divide_c a.natAbs b.natAbs _ _ W HMA.out HMB.out HBN.out HA.out).mono ?_;rintro e w5 ⟨vq,vr,rfl,e5,mq,mr⟩;obtain ⟨qa,ql,qc,rfl⟩:=mq.slice;obtain ⟨ra,rl,rc,rfl⟩:=mr.slice;have c1:=e5.keeps c1';have c2:=e5.keeps c2';have c3:=e5.keeps c3';have c4:=e5.keeps c4')
 have HQ:=Hi18 mq;have HR:=Hi18 mr;have hrl:=mr.len_iff;have E5:=Hi18 (HEW.out.trans e5);clear c1' c2' c3' c4' mq mr;have hsa:=HSA.out;subst hsa;clear hrl;go_wp2_with (first
     | (go_at_call 171;((with_reducible refine (close_c _ (a.natAbs / b.natAbs) _ _ _ _ HQ.out (Fit.five (HA.out.fit.mono (Nat.div_le_self _ _))) (HG.out.ext E5.out)).mono ?_);rintro e w8 ⟨rfl,e8⟩;have c1:=e8.keeps c1;have c2:=e8.keeps c2;have c3:=e8.keeps c3;have c4:=e8.keeps c4))
     | (go_at_call 171;refine (close_c false (a.natAbs % b.natAbs) _ _ _ _ (HR.out.ext e8) (Fit.five (HA.out.fit.mono (Nat.mod_le _ _))) (HG.out.ext (E5.out.trans e8))).mono ?_;rintro e w9 ⟨rfl,e9⟩))
 go_ret3;exact ⟨ret_qr (by have:=HS.out.1;revert this;cases sb <;> exact id) HS.out.2,(E5.out.trans e8).trans e9⟩
set_option maxHeartbeats 4000000 in
theorem divmod_zero (a b:Int) {k m:Nat} (w:World) (g:Gd w) (ha:IB k a) (hb:IB m b) (hk:k<=9000) (hm:m<=9000) (hb0:b≠0) (HSA:Hid (decide (a<0)=true)) (HM0:Hid (a.natAbs % b.natAbs=0)) (HS:Hid (sgn (!(decide (a<0) == decide (b<0))) (a.natAbs / b.natAbs)=a / b/\sgn false (a.natAbs % b.natAbs)=a % b)):Calls Tryz.prog 228 #[.string (zs a),.string (zs b)] w (Ret w (.tuple #[.string (zs (a / b)),.string (zs (a % b)),.int .i64 0])):=by
 have la:=ha.len hk;have lb:=hb.len hm;have fa:=ha.fit hk;have fb:=(hb.fit hm).fit;have hbn:0<b.natAbs:=by omega
 have HA:=Hi18 fa;have HB:=Hi18 fb;have HG:=Hi18 g;have HBN:=Hi18 hbn;have hz:=zs_not0 hb0;clear ha hb fa fb g hb0 hbn;go_enter Tryz.func228,Tryz.ntmps228;go_upto_region 4 with (first
     | (go_at_call 169;((with_reducible refine (open_c a w la).mono ?_);rintro e w3 ⟨va,rfl,e3,ad,na,ca,rfl,ma⟩))
     | (go_at_call 169;refine (open_c b w3 lb).mono ?_;rintro e w4 ⟨vb,rfl,e4,bd,nb,cb,rfl,mb⟩))
 generalize hsa:decide (a<0)=sa at HS HSA ⊢;generalize hsb:decide (b<0)=sb at HS ⊢;clear hsa hsb;obtain ⟨W,hW⟩:∃ W,(w4.alloc (.cells #[.bool sa,.slice ad na ca] 216)).alloc (.cells #[.bool sb,.slice bd nb cb] 216)=W:=⟨_,rfl⟩
 have ea:Ext w3 W:=by rw [← hW];exact (e4.alloc _).alloc _
 have eb:Ext w4 W:=by rw [← hW];exact ((Ext.refl _).alloc _).alloc _
 have b9:Blk W w4.heap.size #[.bool sa,.slice ad na ca] 216:=by rw [← hW];exact (Blk.new w4 _ _).alloc _
 have b10:Blk W (w4.heap.size+1) #[.bool sb,.slice bd nb cb] 216:=by rw [← hW];have:=Blk.new (w4.alloc (.cells #[.bool sa,.slice ad na ca] 216)) #[.bool sb,.slice bd nb cb] 216;simpa using this
 have ew:Ext w W:=e3.trans ea;rw [hW];have HMA:=Hi18 (ma.ext ea);have HMB:=Hi18 (mb.ext eb);have HEW:=Hi18 ew;have c1':=b9.cell 0 (v:=.bool sa) rfl;have c2':=b9.cell 1 (v:=.slice ad na ca) rfl;have c3':=b10.cell 0 (v:=.bool sb) rfl;have c4':=b10.cell 1 (v:=.slice bd nb cb) rfl;clear hW ea eb ma mb e3 e4 ew b9 b10;go_upto_region 5 with (go_at_call 246;refine (divide_c a.natAbs b.natAbs _ _ W HMA.out HMB.out HBN.out HA.out).mono ?_;rintro e w5 ⟨vq,vr,rfl,e5,mq,mr⟩;obtain ⟨qa,ql,qc,rfl⟩:=mq.slice;obtain ⟨ra,rl,rc,rfl⟩:=mr.slice;have c1:=e5.keeps c1';have c2:=e5.keeps c2';have c3:=e5.keeps c3';have c4:=e5.keeps c4')
 have HQ:=Hi18 mq;have HR:=Hi18 mr;have hrl:=mr.len_iff;have E5:=Hi18 (HEW.out.trans e5);clear c1' c2' c3' c4' mq mr;have hsa:=HSA.out;subst hsa;have hrl0:=hrl.2 HM0.out;subst hrl0;clear hrl;go_wp2_with (first
     | (go_at_call 171;((with_reducible refine (close_c _ (a.natAbs / b.natAbs) _ _ _ _ HQ.out (Fit.five (HA.out.fit.mono (Nat.div_le_self _ _))) (HG.out.ext E5.out)).mono ?_);rintro e w8 ⟨rfl,e8⟩;have c1:=e8.keeps c1;have c2:=e8.keeps c2;have c3:=e8.keeps c3;have c4:=e8.keeps c4))
     | (go_at_call 171;refine (close_c false (a.natAbs % b.natAbs) _ _ _ _ (HR.out.ext e8) (Fit.five (HA.out.fit.mono (Nat.mod_le _ _))) (HG.out.ext (E5.out.trans e8))).mono ?_;rintro e w9 ⟨rfl,e9⟩))
 go_ret3;exact ⟨ret_qr (by have:=HS.out.1;revert this;cases sb <;> exact id) HS.out.2,(E5.out.trans e8).trans e9⟩
set_option maxHeartbeats 4000000 in
theorem divmod_neg (a b:Int) {k m:Nat} (w:World) (g:Gd w) (ha:IB k a) (hb:IB m b) (hk:k<=9000) (hm:m<=9000) (hb0:b≠0) (HSA:Hid (decide (a<0)=true)) (HM0:Hid (a.natAbs % b.natAbs≠0)) (HS:Hid (sgn (!(decide (a<0) == decide (b<0))) (a.natAbs / b.natAbs+1)=a / b/\sgn false (b.natAbs-a.natAbs % b.natAbs)=a % b)):Calls Tryz.prog 228 #[.string (zs a),.string (zs b)] w (Ret w (.tuple #[.string (zs (a / b)),.string (zs (a % b)),.int .i64 0])):=by
 have la:=ha.len hk;have lb:=hb.len hm;have fa:=ha.fit hk;have fb:=(hb.fit hm).fit;have hbn:0<b.natAbs:=by omega
 have HA:=Hi18 fa;have HB:=Hi18 fb;have HG:=Hi18 g;have HBN:=Hi18 hbn;have hz:=zs_not0 hb0;clear ha hb fa fb g hb0 hbn;go_enter Tryz.func228,Tryz.ntmps228;go_upto_region 4 with (first
     | (go_at_call 169;((with_reducible refine (open_c a w la).mono ?_);rintro e w3 ⟨va,rfl,e3,ad,na,ca,rfl,ma⟩))
     | (go_at_call 169;refine (open_c b w3 lb).mono ?_;rintro e w4 ⟨vb,rfl,e4,bd,nb,cb,rfl,mb⟩))
 generalize hsa:decide (a<0)=sa at HS HSA ⊢;generalize hsb:decide (b<0)=sb at HS ⊢;clear hsa hsb;obtain ⟨W,hW⟩:∃ W,(w4.alloc (.cells #[.bool sa,.slice ad na ca] 216)).alloc (.cells #[.bool sb,.slice bd nb cb] 216)=W:=⟨_,rfl⟩
 have ea:Ext w3 W:=by rw [← hW];exact (e4.alloc _).alloc _
 have eb:Ext w4 W:=by rw [← hW];exact ((Ext.refl _).alloc _).alloc _
 have b9:Blk W w4.heap.size #[.bool sa,.slice ad na ca] 216:=by rw [← hW];exact (Blk.new w4 _ _).alloc _
 have b10:Blk W (w4.heap.size+1) #[.bool sb,.slice bd nb cb] 216:=by rw [← hW];have:=Blk.new (w4.alloc (.cells #[.bool sa,.slice ad na ca] 216)) #[.bool sb,.slice bd nb cb] 216;simpa using this
 have ew:Ext w W:=e3.trans ea;rw [hW];have HMA:=Hi18 (ma.ext ea);have HMB:=Hi18 (mb.ext eb);have HEW:=Hi18 ew;have c1':=b9.cell 0 (v:=.bool sa) rfl;have c2':=b9.cell 1 (v:=.slice ad na ca) rfl;have c3':=b10.cell 0 (v:=.bool sb) rfl;have c4':=b10.cell 1 (v:=.slice bd nb cb) rfl;clear hW ea eb ma mb e3 e4 ew b9 b10;go_upto_region 5 with (go_at_call 246;refine (divide_c a.natAbs b.natAbs _ _ W HMA.out HMB.out HBN.out HA.out).mono ?_;rintro e w5 ⟨vq,vr,rfl,e5,mq,mr⟩;obtain ⟨qa,ql,qc,rfl⟩:=mq.slice;obtain ⟨ra,rl,rc,rfl⟩:=mr.slice;have c1:=e5.keeps c1';have c2:=e5.keeps c2';have c3:=e5.keeps c3';have c4:=e5.keeps c4')
 have HQ:=Hi18 mq;have HR:=Hi18 mr;have hrl:=mr.len_iff;have E5:=Hi18 (HEW.out.trans e5);clear c1' c2' c3' c4' mq mr;have hsa:=HSA.out;subst hsa
 have hrl0 : 0 < rl := by have := HM0.out; rcases Nat.eq_zero_or_pos rl with h | h
                          ·exact absurd (hrl.1 h) this
                          ·exact h
 clear hrl;have HLE:=Hi18 (Nat.le_of_lt (Nat.mod_lt a.natAbs HBN.out));go_upto_region 6 with fail
 have one:∀ (V:World),Mag (V.alloc (.cells #[.int .u64 1] 245)) (.slice (some ⟨V.heap.size,0,none⟩) 1 1) 1:=fun V=>⟨[1],Holds.one V .u64 1 _,⟨by intro x hx;simp at hx;omega,by simp⟩,mv_single _ _⟩
 have HO:=Hi18 one;clear one;go_region_held3 (fun w' => w'.cell? ⟨w4.heap.size, 0, none⟩ = some (.bool true) /\ w'.cell? ⟨w4.heap.size, 1, none⟩ = some (.slice ad na ca) /\ w'.cell? ⟨w4.heap.size + 1, 0, none⟩ = some (.bool sb) /\ w'.cell? ⟨w4.heap.size + 1, 1, none⟩ = some (.slice bd nb cb)) (first | exact ⟨Ext.keeps (by repeat (first | assumption | exact Ext.refl _ | exact ⟨rfl, rfl, rfl, Nat.le_refl _, fun _ _ => rfl⟩ | apply Ext.drew | apply Ext.alloc | refine Ext.trans ?_ (by assumption))) c1, Ext.keeps (by repeat (first | assumption | exact Ext.refl _ | exact ⟨rfl, rfl, rfl, Nat.le_refl _, fun _ _ => rfl⟩ | apply Ext.drew | apply Ext.alloc | refine Ext.trans ?_ (by assumption))) c2, Ext.keeps (by repeat (first | assumption | exact Ext.refl _ | exact ⟨rfl, rfl, rfl, Nat.le_refl _, fun _ _ => rfl⟩ | apply Ext.drew | apply Ext.alloc | refine Ext.trans ?_ (by assumption))) c3, Ext.keeps (by repeat (first | assumption | exact Ext.refl _ | exact ⟨rfl, rfl, rfl, Nat.le_refl _, fun _ _ => rfl⟩ | apply Ext.drew | apply Ext.alloc | refine Ext.trans ?_ (by assumption))) c4⟩) (first
     | (go_at_call 252;refine (minus_c b.natAbs (a.natAbs % b.natAbs) _ _ _ (HMB.out.ext (by repeat (first|assumption|exact Ext.refl _|exact ⟨rfl,rfl,rfl,Nat.le_refl _,fun _ _=>rfl⟩|apply Ext.drew|apply Ext.alloc|refine Ext.trans ?_ (by assumption)))) (HR.out.ext (by repeat (first|assumption|exact Ext.refl _|exact ⟨rfl,rfl,rfl,Nat.le_refl _,fun _ _=>rfl⟩|apply Ext.drew|apply Ext.alloc|refine Ext.trans ?_ (by assumption)))) HB.out HLE.out).mono ?_;rintro e w6 ⟨v6,rfl,e6,m6⟩;obtain ⟨xa,xl,xc,rfl⟩:=m6.slice)
     | (go_at_call 250;refine (plus_c (a.natAbs / b.natAbs) 1 _ _ _ (HQ.out.ext (by repeat (first|assumption|exact Ext.refl _|exact ⟨rfl,rfl,rfl,Nat.le_refl _,fun _ _=>rfl⟩|apply Ext.drew|apply Ext.alloc|refine Ext.trans ?_ (by assumption)))) ((HO.out _).ext (by repeat (first|assumption|exact Ext.refl _|exact ⟨rfl,rfl,rfl,Nat.le_refl _,fun _ _=>rfl⟩|apply Ext.drew|apply Ext.alloc|refine Ext.trans ?_ (by assumption)))) (HA.out.fit.mono (Nat.div_le_self _ _)) (Fit.small (by decide))).mono ?_;rintro e w7 ⟨v7,rfl,e7,m7⟩;obtain ⟨ya,yl,yc,rfl⟩:=m7.slice))
 all_goals
  obtain ⟨c1,c2,c3,c4⟩:_/\_/\_/\_:=by assumption
  go_wp2_with (first
      | (go_at_call 171;((with_reducible refine (close_c _ (a.natAbs / b.natAbs+1) _ _ _ _ (m7.ext (by repeat (first|assumption|exact Ext.refl _|exact ⟨rfl,rfl,rfl,Nat.le_refl _,fun _ _=>rfl⟩|apply Ext.drew|apply Ext.alloc|refine Ext.trans ?_ (by assumption)))) (Fit.add5 (HA.out.fit.mono (Nat.div_le_self _ _)) (Fit.small (by decide))) (HG.out.ext (E5.out.trans (by repeat (first|assumption|exact Ext.refl _|exact ⟨rfl,rfl,rfl,Nat.le_refl _,fun _ _=>rfl⟩|apply Ext.drew|apply Ext.alloc|refine Ext.trans ?_ (by assumption)))))).mono ?_);rintro e w8 ⟨rfl,e8⟩;have c1:=e8.keeps c1;have c2:=e8.keeps c2;have c3:=e8.keeps c3;have c4:=e8.keeps c4))
      | (go_at_call 171;refine (close_c false (b.natAbs-a.natAbs % b.natAbs) _ _ _ _ (m6.ext (by repeat (first|assumption|exact Ext.refl _|exact ⟨rfl,rfl,rfl,Nat.le_refl _,fun _ _=>rfl⟩|apply Ext.drew|apply Ext.alloc|refine Ext.trans ?_ (by assumption)))) (Fit.five (HB.out.mono (Nat.sub_le _ _))) (HG.out.ext (E5.out.trans (by repeat (first|assumption|exact Ext.refl _|exact ⟨rfl,rfl,rfl,Nat.le_refl _,fun _ _=>rfl⟩|apply Ext.drew|apply Ext.alloc|refine Ext.trans ?_ (by assumption)))))).mono ?_;rintro e w9 ⟨rfl,e9⟩))
  go_ret3;exact ⟨ret_qr (by have:=HS.out.1;revert this;cases sb <;> exact id) HS.out.2,E5.out.trans (by repeat (first|assumption|exact Ext.refl _|exact ⟨rfl,rfl,rfl,Nat.le_refl _,fun _ _=>rfl⟩|apply Ext.drew|apply Ext.alloc|refine Ext.trans ?_ (by assumption)))⟩
theorem divmod_c (a b:Int) {k m:Nat} (w:World) (g:Gd w) (ha:IB k a) (hb:IB m b) (hk:k<=9000) (hm:m<=9000) (hb0:b≠0):Calls Tryz.prog 228 #[.string (zs a),.string (zs b)] w (Ret w (.tuple #[.string (zs (a / b)),.string (zs (a % b)),.int .i64 0])):=by
 by_cases h:a<0
 ·by_cases h0:a.natAbs % b.natAbs=0
  ·exact divmod_zero a b w g ha hb hk hm hb0 (Hi18 (by simpa using h)) (Hi18 h0) (Hi18 (div_pos_q a b hb0 (Or.inr h0)))
  ·exact divmod_neg a b w g ha hb hk hm hb0 (Hi18 (by simpa using h)) (Hi18 h0) (Hi18 (div_neg_q a b hb0 h h0))
 ·exact divmod_pos a b w g ha hb hk hm hb0 (Hi18 (by simpa using h)) (Hi18 (div_pos_q a b hb0 (Or.inl (by omega))))
end Go.Proofs.YtmahadmefplbnaaGreatDoor
