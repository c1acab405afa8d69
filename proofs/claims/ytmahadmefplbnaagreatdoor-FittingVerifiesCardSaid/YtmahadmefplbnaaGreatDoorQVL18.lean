/- Part 18. -/
import Derived.Test.YtmahadmefplbnaaGreatDoorQVLB
import Derived.Test.YtmahadmefplbnaaGreatDoorQVL10
import Derived.Test.YtmahadmefplbnaaGreatDoorQVL15
import Derived.Test.YtmahadmefplbnaaGreatDoorQVL17
set_option maxRecDepth 100000
set_option maxHeartbeats 2000000
open Go.Proofs.Tryz
namespace Go.Proofs.YtmahadmefplbnaaGreatDoor
open Go Go.RowKit
def qcc:Nat:=10000
structure QH(n:Nat):Prop where
 out:n<1000000000 ^ qcc
theorem eV.sZ{w:World}{ad:Option Addr}{n c N:Nat}(h:eV w (.slice ad n c) N)(f:QH N):n<=10000:=by
 obtain⟨l,⟨uM,cap,b,off,hv,_⟩,hc,hm⟩:=h;simp only[Value.slice.injEq] at hv;rw[hv.2.1];exact mP (k:=qcc) af hc (by rw[hm];exact f.out)
theorem eV.L9{w:World}{ad:Option Addr}{c N:Nat}(h:eV w (.slice ad 0 c) N):N=0:=by
 obtain⟨l,⟨uM,cap,b,off,hv,_⟩,hc,hm⟩:=h;simp only[Value.slice.injEq] at hv;have:l=[]:=List.length_eq_zero_iff.1 hv.2.1.symm;subst this;exact hm.symm
theorem eH (s:Bool) (N:Nat) (ad:Option Addr) (n c:Nat) (w:World) (hm:eV w (.slice ad n c) N) (f:QH N) (g:Gd w) :
    Calls prog 171 #[.agg #[.bool s,.slice ad n c]] w (aZ w (.string (zs (jg s N)))):=by
 have hn:=hm.sZ f;by_cases h0:n=0
 ·subst h0;rw[hm.L9,CA];exact Hf s ad c w
 ·cases s
  ·exact En N ad n c w hm ae hn g
  ·exact Hg N ad n c w hm ae hn g
theorem IB.fit{k:Nat}{a:Int}(h:IB k a)(hk:k<=9000):Fd a.natAbs :=
 ⟨Nat.lt_of_lt_of_le h.out (by rw[show(1000000000:Nat)=10 ^ 9 by decide,← Nat.pow_mul];exact Nat.pow_le_pow_right af (Nat.le_trans hk af))⟩
theorem Fd.fit{a:Nat}(h:Fd a):Fit a:=⟨Nat.lt_of_lt_of_le h.out (Nat.pow_le_pow_right af af)⟩
theorem Fit.tZ{a:Nat}(h:Fit a):QH a:=⟨Nat.lt_of_lt_of_le h.out (Nat.pow_le_pow_right af af)⟩
theorem Fit.qa8{a b:Nat}(h:Fit a)(k:Fit b):QH (a*b):=⟨by
 have h1:=Nat.mul_lt_mul'' h.out k.out;rw[← Nat.pow_add] at h1;exact Nat.lt_of_lt_of_le h1 (Nat.pow_le_pow_right af af)⟩
theorem Fit.YR{a b:Nat}(h:Fit a)(k:Fit b):QH (a+b):=⟨by
 have h1:a+b<1000000000 ^ D6+1000000000 ^ D6:=by have:=h.out;have:=k.out;omega
 have h2:(1000000000:Nat) ^ D6+1000000000 ^ D6<=1000000000 ^ (D6+1):=by rw[Nat.pow_succ];omega
 exact Nat.lt_of_lt_of_le (Nat.lt_of_lt_of_le h1 h2) (Nat.pow_le_pow_right af af)⟩
theorem IB.len{k:Nat}{a:Int}(h:IB k a)(hk:k<=9000):(zl a).length<=100000:=by
 have:=jr (n:=a) (k:=k+1) ae (Nat.lt_of_lt_of_le h.out (Nat.pow_le_pow_right af ae));omega
theorem My(a b:Int):jg (decide (a<0) != decide (b<0)) (a.natAbs*b.natAbs)=a*b:=by
 rw[← Int.natAbs_mul];rcases Int.lt_or_le a 0 with ha|ha <;> rcases Int.lt_or_le b 0 with hb|hb
 ·have:=Int.mul_pos_of_neg_of_neg ha hb;simp[jg,ha,hb];omega
 ·have:=Int.mul_nonpos_of_nonpos_of_nonneg (Int.le_of_lt ha) hb;simp[jg,ha,show ¬ b<0 by omega];omega
 ·have:=Int.mul_nonpos_of_nonneg_of_nonpos ha (Int.le_of_lt hb);simp[jg,hb,show ¬ a<0 by omega];omega
 ·have:=Int.mul_nonneg ha hb;simp[jg,show ¬ a<0 by omega,show ¬ b<0 by omega];omega
theorem Num.ext{w w':World}{v:Value}{n:Int}(h:Num w v n)(e:Ext w w'):Num w' v n :=
 let ⟨ad,k,c,h1,h2⟩:=h;⟨ad,k,c,h1,h2.ext e⟩
theorem cF{a b:Int}(h:a=b):Ending.returned (.string (zs a)) = .returned (.string (zs b)):=by rw[h]
theorem KI(a b:Int)(w:World)(g:Gd w)(ha:(zl a).length<=9)(hb:(zl b).length<=9):Calls prog 88 #[.string (zs a),.string (zs b)] w (aZ w (.string (zs (a*b)))):=by
 have h1:=dU ha;have h2:=dU hb;have h3:(a*b).natAbs<1000000000*1000000000:=by rw[Int.natAbs_mul];exact Nat.mul_lt_mul'' h1 h2
 have b1:-9223372036854775808<=a*b:=ae;have b2:a*b<=9223372036854775807:=ae;have HA:=ai ha;have HB:=ai hb;clear h1 h2 h3 ha hb;go_enter func88,ntmps88;go_wp2_with (first
  | (go_at_call 167;((with_reducible refine(fu a 9 w (by have:=HA.o;omega) af).mono ?_);rintro e w1 ⟨rfl,e1⟩))
  | (go_at_call 167;refine cto (fu b 9 _ (by have:=HB.o;omega) af) fun w2 e2=>?_)
  | (go_at_call 168;refine cto (F8 (a*b) b1 b2 _ (g.ext (e1.trans e2))) fun w3 e3=>?_))
 go_ret;exact⟨rfl,(e1.trans e2).trans e3⟩
theorem Sl(a b:Int){k m:Nat}(w:World)(g:Gd w)(ha:IB k a)(hb:IB m b)(hk:k<=9000)(hm:m<=9000)(h:¬ ((zl a).length<=9/\(zl b).length<=9)):Calls prog 88 #[.string (zs a),.string (zs b)] w (aZ w (.string (zs (a*b)))):=by
 have la:=ha.len hk;have lb:=hb.len hm;have fa:=(ha.fit hk).fit;have fb:=(hb.fit hm).fit;have JC:=ai (My a b);have HA:=ai fa;have HB:=ai fb;have HG:=ai g;clear ha hb fa fb g;by_cases h9:(zl a).length<=9
 ·have B4:¬ (zl b).length<=9:=fun e=>h ⟨h9,e⟩
  have H9:=ai h9;have tq:=ai B4;clear h h9 B4;go_enter func88,ntmps88;go_wp2_with (first
   | (go_at_call 167;((with_reducible refine(fu a 9 w (by have:=H9.o;omega) af).mono ?_);rintro e w1 ⟨rfl,e1⟩))
   | (go_at_call 167;refine cto (hU b 9 _ (by have:=tq.o;omega)) fun w2 e2=>?_)
   | (go_at_call 169;((with_reducible refine(dI a w2 la).mono ?_);rintro e w3 ⟨va,rfl,e3,ad,na,ca,rfl,ma⟩))
   | (go_at_call 169;refine(dI b w3 lb).mono ?_;rintro e w4 ⟨vb,rfl,e4,bd,nb,cb,rfl,mb⟩))
  have gv:Ext w w2:=e1.trans e2;clear e1 e2;generalize decide (a<0)=sa at JC ⊢;generalize decide (b<0)=sb at JC ⊢;obtain⟨W,hW⟩:∃ W,(w4.alloc (.cells #[.bool sa,.slice ad na ca] 216)).alloc (.cells #[.bool sb,.slice bd nb cb] 216)=W:=⟨_,rfl⟩
  have ea:Ext w3 W:=by rw[← hW];exact(e4.alloc _).alloc _
  have eb:Ext w4 W:=by rw[← hW];exact((Ext.refl _).alloc _).alloc _
  have b9:ay W w4.heap.size #[.bool sa,.slice ad na ca] 216:=by rw[← hW];exact(ay.new w4 _ _).alloc _
  have ix:ay W (w4.heap.size+1) #[.bool sb,.slice bd nb cb] 216:=by rw[← hW];have:=ay.new (w4.alloc (.cells #[.bool sa,.slice ad na ca] 216)) #[.bool sb,.slice bd nb cb] 216;simpa using this
  have ew:Ext w W:=(gv.trans e3).trans ea;rw[hW];have LJ:=ai (ma.ext ea);have BK:=ai (mb.ext eb);have pV:=ai ew;have c1:=b9.cell 0 (v:=.bool sa) rfl;have c2:=b9.cell 1 (v:=.slice ad na ca) rfl;have c3:=ix.cell 0 (v:=.bool sb) rfl;have c4:=ix.cell 1 (v:=.slice bd nb cb) rfl;clear hW ea eb ma mb gv e3 e4 ew b9 ix;go_region_held3 (fun w'=>w'.cell? ⟨w4.heap.size,0,none⟩=some (.bool sa)/\w'.cell? ⟨w4.heap.size,1,none⟩=some (.slice ad na ca)/\w'.cell? ⟨w4.heap.size+1,0,none⟩=some (.bool sb)/\w'.cell? ⟨w4.heap.size+1,1,none⟩=some (.slice bd nb cb)) (first|exact⟨c1,c2,c3,c4⟩|exact⟨e5.keeps c1,e5.keeps c2,e5.keeps c3,e5.keeps c4⟩|exact⟨e6.keeps (e5.keeps c1),e6.keeps (e5.keeps c2),e6.keeps (e5.keeps c3),e6.keeps (e5.keeps c4)⟩) (first
   | (go_at_call 170;refine(z8 a.natAbs b.natAbs _ _ _ (LJ.o.ext (Ext.refl _).drew) (BK.o.ext (Ext.refl _).drew) HA.o HB.o).mono ?_;rintro e w5 ⟨v5,rfl,e5,m5⟩;obtain⟨a5,n5,c5,rfl⟩:=m5.slice)
   | (go_at_call 171;refine cto (eH _ (a.natAbs*b.natAbs) _ _ _ _ m5 (HA.o.qa8 HB.o) (HG.o.ext ((pV.o.drew).trans e5))) fun w6 e6=>?_))
  go_wp2;go_ret;exact⟨cF JC.o,((pV.o.drew).trans e5).trans e6⟩
 ·have H9:=ai h9;clear h h9;go_enter func88,ntmps88;go_wp2_with (first
   | (go_at_call 167;((with_reducible refine(hU a 9 w (by have:=H9.o;omega)).mono ?_);rintro e w2 ⟨rfl,gv⟩))
   | (go_at_call 169;((with_reducible refine(dI a w2 la).mono ?_);rintro e w3 ⟨va,rfl,e3,ad,na,ca,rfl,ma⟩))
   | (go_at_call 169;refine(dI b w3 lb).mono ?_;rintro e w4 ⟨vb,rfl,e4,bd,nb,cb,rfl,mb⟩))
  generalize decide (a<0)=sa at JC ⊢;generalize decide (b<0)=sb at JC ⊢;obtain⟨W,hW⟩:∃ W,(w4.alloc (.cells #[.bool sa,.slice ad na ca] 216)).alloc (.cells #[.bool sb,.slice bd nb cb] 216)=W:=⟨_,rfl⟩
  have ea:Ext w3 W:=by rw[← hW];exact(e4.alloc _).alloc _
  have eb:Ext w4 W:=by rw[← hW];exact((Ext.refl _).alloc _).alloc _
  have b9:ay W w4.heap.size #[.bool sa,.slice ad na ca] 216:=by rw[← hW];exact(ay.new w4 _ _).alloc _
  have ix:ay W (w4.heap.size+1) #[.bool sb,.slice bd nb cb] 216:=by rw[← hW];have:=ay.new (w4.alloc (.cells #[.bool sa,.slice ad na ca] 216)) #[.bool sb,.slice bd nb cb] 216;simpa using this
  have ew:Ext w W:=(gv.trans e3).trans ea;rw[hW];have LJ:=ai (ma.ext ea);have BK:=ai (mb.ext eb);have pV:=ai ew;have c1:=b9.cell 0 (v:=.bool sa) rfl;have c2:=b9.cell 1 (v:=.slice ad na ca) rfl;have c3:=ix.cell 0 (v:=.bool sb) rfl;have c4:=ix.cell 1 (v:=.slice bd nb cb) rfl;clear hW ea eb ma mb gv e3 e4 ew b9 ix;go_region_held3 (fun w'=>w'.cell? ⟨w4.heap.size,0,none⟩=some (.bool sa)/\w'.cell? ⟨w4.heap.size,1,none⟩=some (.slice ad na ca)/\w'.cell? ⟨w4.heap.size+1,0,none⟩=some (.bool sb)/\w'.cell? ⟨w4.heap.size+1,1,none⟩=some (.slice bd nb cb)) (first|exact⟨c1,c2,c3,c4⟩|exact⟨e5.keeps c1,e5.keeps c2,e5.keeps c3,e5.keeps c4⟩|exact⟨e6.keeps (e5.keeps c1),e6.keeps (e5.keeps c2),e6.keeps (e5.keeps c3),e6.keeps (e5.keeps c4)⟩) (first
   | (go_at_call 170;refine(z8 a.natAbs b.natAbs _ _ _ (LJ.o.ext (Ext.refl _).drew) (BK.o.ext (Ext.refl _).drew) HA.o HB.o).mono ?_;rintro e w5 ⟨v5,rfl,e5,m5⟩;obtain⟨a5,n5,c5,rfl⟩:=m5.slice)
   | (go_at_call 171;refine cto (eH _ (a.natAbs*b.natAbs) _ _ _ _ m5 (HA.o.qa8 HB.o) (HG.o.ext ((pV.o.drew).trans e5))) fun w6 e6=>?_))
  go_wp2;go_ret;exact⟨cF JC.o,((pV.o.drew).trans e5).trans e6⟩
theorem jm(a b:Int){k m:Nat}(w:World)(g:Gd w)(ha:IB k a)(hb:IB m b)(hk:k<=9000)(hm:m<=9000):Calls prog 88 #[.string (zs a),.string (zs b)] w (aZ w (.string (zs (a*b)))):=by
 by_cases h:(zl a).length<=9/\(zl b).length<=9
 ·exact KI a b w g h.1 h.2
 ·exact Sl a b w g ha hb hk hm h
theorem Lw(a b:Int)(w:World)(g:Gd w)(ha:(zl a).length<=18)(hb:(zl b).length<=18):Calls prog 189 #[.string (zs a),.string (zs b)] w (aZ w (.string (zs (a+b)))):=by
 have h1:=dU ha;have h2:=dU hb;have b1:-9223372036854775808<=a+b:=ae;have b2:a+b<=9223372036854775807:=ae;have HA:=ai ha;have HB:=ai hb;clear h1 h2 ha hb;go_enter func189,ntmps189;go_wp2_with (first
  | (go_at_call 167;((with_reducible refine(fu a 18 w (by have:=HA.o;omega) af).mono ?_);rintro e w1 ⟨rfl,e1⟩))
  | (go_at_call 167;refine cto (fu b 18 _ (by have:=HB.o;omega) af) fun w2 e2=>?_)
  | (go_at_call 168;refine cto (F8 (a+b) b1 b2 _ (g.ext (e1.trans e2))) fun w3 e3=>?_))
 go_ret;exact⟨rfl,(e1.trans e2).trans e3⟩
theorem CE{a b:Int}(h:decide (a<0)=decide (b<0)):jg (decide (a<0)) (a.natAbs+b.natAbs)=a+b:=by
 have h':a<0 ↔ b<0:=by simpa using h
 by_cases ha:a<0
 ·have:=h'.1 ha;simp[jg,ha];omega
 ·have:¬ b<0:=fun e=>ha (h'.2 e)
  simp[jg,ha];omega
theorem ri{a b:Int}(h:decide (a<0)≠decide (b<0))(hl:b.natAbs<=a.natAbs):jg (decide (a<0)) (a.natAbs-b.natAbs)=a+b:=by
 by_cases ha:a<0
 ·have:¬ b<0:=by intro e;exact h (by simp[ha,e])
  simp[jg,ha];omega
 ·have:b<0:=by
   by_cases hb:b<0
   ·exact hb
   ·exact absurd (by simp[ha,hb]) h
  simp[jg,ha];omega
set_option maxHeartbeats 4000000 in
theorem add_same(a b:Int){k m:Nat}(w:World)(g:Gd w)(ha:IB k a)(hb:IB m b)(hk:k<=9000)(hm:m<=9000)(h:¬ ((zl a).length<=18/\(zl b).length<=18))(HS:Hid ((decide (a<0) == decide (b<0))=true/\jg (decide (a<0)) (a.natAbs+b.natAbs)=a+b)):Calls prog 189 #[.string (zs a),.string (zs b)] w (aZ w (.string (zs (a+b)))):=by
 have la:=ha.len hk;have lb:=hb.len hm;have fa:=(ha.fit hk).fit;have fb:=(hb.fit hm).fit;have HA:=ai fa;have HB:=ai fb;have HG:=ai g;clear ha hb fa fb g;by_cases h9:(zl a).length<=18
 ·have B4:¬ (zl b).length<=18:=fun e=>h ⟨h9,e⟩
  have H9:=ai h9;have tq:=ai B4;clear h h9 B4;go_enter func189,ntmps189;go_upto_region 7 with(first
   | (go_at_call 167;((with_reducible refine(fu a 18 w (by have:=H9.o;omega) af).mono ?_);rintro e w1 ⟨rfl,e1⟩))
   | (go_at_call 167;refine cto (hU b 18 _ (by have:=tq.o;omega)) fun w2 e2=>?_)
   | (go_at_call 169;((with_reducible refine(dI a w2 la).mono ?_);rintro e w3 ⟨va,rfl,e3,ad,na,ca,rfl,ma⟩))
   | (go_at_call 169;refine(dI b w3 lb).mono ?_;rintro e w4 ⟨vb,rfl,e4,bd,nb,cb,rfl,mb⟩))
  have gv:Ext w w2:=e1.trans e2;clear e1 e2;generalize iM:decide (a<0)=sa at HS ⊢;generalize k8:decide (b<0)=sb at HS ⊢;clear iM k8;obtain⟨W,hW⟩:∃ W,(w4.alloc (.cells #[.bool sa,.slice ad na ca] 216)).alloc (.cells #[.bool sb,.slice bd nb cb] 216)=W:=⟨_,rfl⟩
  have ea:Ext w3 W:=by rw[← hW];exact(e4.alloc _).alloc _
  have eb:Ext w4 W:=by rw[← hW];exact((Ext.refl _).alloc _).alloc _
  have b9:ay W w4.heap.size #[.bool sa,.slice ad na ca] 216:=by rw[← hW];exact(ay.new w4 _ _).alloc _
  have ix:ay W (w4.heap.size+1) #[.bool sb,.slice bd nb cb] 216:=by rw[← hW];have:=ay.new (w4.alloc (.cells #[.bool sa,.slice ad na ca] 216)) #[.bool sb,.slice bd nb cb] 216;simpa using this
  have ew:Ext w W:=(gv.trans e3).trans ea;have gh:w.heap.size<=w4.heap.size:=((gv.trans e3).trans e4).size;rw[hW];have LJ:=ai (ma.ext ea);have BK:=ai (mb.ext eb);have pV:=ai ew;have c1:=b9.cell 0 (v:=.bool sa) rfl;have c2:=b9.cell 1 (v:=.slice ad na ca) rfl;have c3:=ix.cell 0 (v:=.bool sb) rfl;have c4:=ix.cell 1 (v:=.slice bd nb cb) rfl;have hs:=HS.o.1;clear hW ea eb ma mb gv e3 e4 ew b9 ix gh;go_wp2_with fail;go_region_held3 (fun w'=>w'.cell? ⟨w4.heap.size,0,none⟩=some (.bool sa)/\w'.cell? ⟨w4.heap.size,1,none⟩=some (.slice ad na ca)/\w'.cell? ⟨w4.heap.size+1,0,none⟩=some (.bool sb)/\w'.cell? ⟨w4.heap.size+1,1,none⟩=some (.slice bd nb cb)) (first|exact⟨c1,c2,c3,c4⟩|exact⟨e5.keeps c1,e5.keeps c2,e5.keeps c3,e5.keeps c4⟩|exact⟨e6.keeps (e5.keeps c1),e6.keeps (e5.keeps c2),e6.keeps (e5.keeps c3),e6.keeps (e5.keeps c4)⟩) (first
   | (go_at_call 250;refine(Av a.natAbs b.natAbs _ _ _ (LJ.o.ext (Ext.refl _).drew) (BK.o.ext (Ext.refl _).drew) HA.o HB.o).mono ?_;rintro e w5 ⟨v5,rfl,e5,m5⟩;obtain⟨a5,n5,c5,rfl⟩:=m5.slice)
   | (go_at_call 171;refine cto (eH _ (a.natAbs+b.natAbs) _ _ _ _ m5 (HA.o.YR HB.o) (HG.o.ext ((pV.o.drew).trans e5))) fun w6 e6=>?_))
  go_wp2;go_ret;exact⟨cF HS.o.2,((pV.o.drew).trans e5).trans e6⟩
 ·have H9:=ai h9;clear h h9;go_enter func189,ntmps189;go_upto_region 7 with(first
   | (go_at_call 167;((with_reducible refine(hU a 18 w (by have:=H9.o;omega)).mono ?_);rintro e w2 ⟨rfl,gv⟩))
   | (go_at_call 169;((with_reducible refine(dI a w2 la).mono ?_);rintro e w3 ⟨va,rfl,e3,ad,na,ca,rfl,ma⟩))
   | (go_at_call 169;refine(dI b w3 lb).mono ?_;rintro e w4 ⟨vb,rfl,e4,bd,nb,cb,rfl,mb⟩))
  generalize iM:decide (a<0)=sa at HS ⊢;generalize k8:decide (b<0)=sb at HS ⊢;clear iM k8;obtain⟨W,hW⟩:∃ W,(w4.alloc (.cells #[.bool sa,.slice ad na ca] 216)).alloc (.cells #[.bool sb,.slice bd nb cb] 216)=W:=⟨_,rfl⟩
  have ea:Ext w3 W:=by rw[← hW];exact(e4.alloc _).alloc _
  have eb:Ext w4 W:=by rw[← hW];exact((Ext.refl _).alloc _).alloc _
  have b9:ay W w4.heap.size #[.bool sa,.slice ad na ca] 216:=by rw[← hW];exact(ay.new w4 _ _).alloc _
  have ix:ay W (w4.heap.size+1) #[.bool sb,.slice bd nb cb] 216:=by rw[← hW];have:=ay.new (w4.alloc (.cells #[.bool sa,.slice ad na ca] 216)) #[.bool sb,.slice bd nb cb] 216;simpa using this
  have ew:Ext w W:=(gv.trans e3).trans ea;have gh:w.heap.size<=w4.heap.size:=((gv.trans e3).trans e4).size;rw[hW];have LJ:=ai (ma.ext ea);have BK:=ai (mb.ext eb);have pV:=ai ew;have c1:=b9.cell 0 (v:=.bool sa) rfl;have c2:=b9.cell 1 (v:=.slice ad na ca) rfl;have c3:=ix.cell 0 (v:=.bool sb) rfl;have c4:=ix.cell 1 (v:=.slice bd nb cb) rfl;have hs:=HS.o.1;clear hW ea eb ma mb gv e3 e4 ew b9 ix gh;go_wp2_with fail;go_region_held3 (fun w'=>w'.cell? ⟨w4.heap.size,0,none⟩=some (.bool sa)/\w'.cell? ⟨w4.heap.size,1,none⟩=some (.slice ad na ca)/\w'.cell? ⟨w4.heap.size+1,0,none⟩=some (.bool sb)/\w'.cell? ⟨w4.heap.size+1,1,none⟩=some (.slice bd nb cb)) (first|exact⟨c1,c2,c3,c4⟩|exact⟨e5.keeps c1,e5.keeps c2,e5.keeps c3,e5.keeps c4⟩|exact⟨e6.keeps (e5.keeps c1),e6.keeps (e5.keeps c2),e6.keeps (e5.keeps c3),e6.keeps (e5.keeps c4)⟩) (first
   | (go_at_call 250;refine(Av a.natAbs b.natAbs _ _ _ (LJ.o.ext (Ext.refl _).drew) (BK.o.ext (Ext.refl _).drew) HA.o HB.o).mono ?_;rintro e w5 ⟨v5,rfl,e5,m5⟩;obtain⟨a5,n5,c5,rfl⟩:=m5.slice)
   | (go_at_call 171;refine cto (eH _ (a.natAbs+b.natAbs) _ _ _ _ m5 (HA.o.YR HB.o) (HG.o.ext ((pV.o.drew).trans e5))) fun w6 e6=>?_))
  go_wp2;go_ret;exact⟨cF HS.o.2,((pV.o.drew).trans e5).trans e6⟩
set_option maxHeartbeats 4000000 in
theorem Pz(a b:Int){k m:Nat}(w:World)(g:Gd w)(ha:IB k a)(hb:IB m b)(hk:k<=9000)(hm:m<=9000)(h:¬ ((zl a).length<=18/\(zl b).length<=18))(HS:Hid ((decide (a<0) == decide (b<0))=false/\jg (decide (a<0)) (a.natAbs-b.natAbs)=a+b))(qO:Hid (b.natAbs<=a.natAbs)):Calls prog 189 #[.string (zs a),.string (zs b)] w (aZ w (.string (zs (a+b)))):=by
 have la:=ha.len hk;have lb:=hb.len hm;have fa:=(ha.fit hk).fit;have fb:=(hb.fit hm).fit;have HA:=ai fa;have HB:=ai fb;have HG:=ai g;clear ha hb fa fb g;by_cases h9:(zl a).length<=18
 ·have B4:¬ (zl b).length<=18:=fun e=>h ⟨h9,e⟩
  have H9:=ai h9;have tq:=ai B4;clear h h9 B4;go_enter func189,ntmps189;go_upto_region 7 with(first
   | (go_at_call 167;((with_reducible refine(fu a 18 w (by have:=H9.o;omega) af).mono ?_);rintro e w1 ⟨rfl,e1⟩))
   | (go_at_call 167;refine cto (hU b 18 _ (by have:=tq.o;omega)) fun w2 e2=>?_)
   | (go_at_call 169;((with_reducible refine(dI a w2 la).mono ?_);rintro e w3 ⟨va,rfl,e3,ad,na,ca,rfl,ma⟩))
   | (go_at_call 169;refine(dI b w3 lb).mono ?_;rintro e w4 ⟨vb,rfl,e4,bd,nb,cb,rfl,mb⟩))
  have gv:Ext w w2:=e1.trans e2;clear e1 e2;generalize iM:decide (a<0)=sa at HS ⊢;generalize k8:decide (b<0)=sb at HS ⊢;clear iM k8;obtain⟨W,hW⟩:∃ W,(w4.alloc (.cells #[.bool sa,.slice ad na ca] 216)).alloc (.cells #[.bool sb,.slice bd nb cb] 216)=W:=⟨_,rfl⟩
  have ea:Ext w3 W:=by rw[← hW];exact(e4.alloc _).alloc _
  have eb:Ext w4 W:=by rw[← hW];exact((Ext.refl _).alloc _).alloc _
  have b9:ay W w4.heap.size #[.bool sa,.slice ad na ca] 216:=by rw[← hW];exact(ay.new w4 _ _).alloc _
  have ix:ay W (w4.heap.size+1) #[.bool sb,.slice bd nb cb] 216:=by rw[← hW];have:=ay.new (w4.alloc (.cells #[.bool sa,.slice ad na ca] 216)) #[.bool sb,.slice bd nb cb] 216;simpa using this
  have ew:Ext w W:=(gv.trans e3).trans ea;have gh:w.heap.size<=w4.heap.size:=((gv.trans e3).trans e4).size;rw[hW];have hs:=HS.o.1;have xq:=b9.cell 0 (v:=.bool sa) rfl;have xp:=b9.cell 1 (v:=.slice ad na ca) rfl;have pD:=ix.cell 0 (v:=.bool sb) rfl;have uc:=ix.cell 1 (v:=.slice bd nb cb) rfl;have qD:=fW a.natAbs b.natAbs (.slice ad na ca) (.slice bd nb cb) W (ma.ext ea) (mb.ext eb);obtain⟨o,ho⟩:∃ o,o=jy a.natAbs b.natAbs:=⟨_,rfl⟩
  rw[← ho] at qD;have KU:0<=o:=by rw[ho];exact rE qO.o
  have ho2:¬ o<0:=ae;have HMa:=ai (ma.ext ea);have HMb:=ai (mb.ext eb);have Qe:=ai ew;have Qz:=ai b9;have xW:=ai ix;clear hW ea eb ma mb gv e3 e4 ew b9 ix ho;go_upto_region 11 with(go_at_call 251;refine qD.mono ?_;rintro e w7 ⟨rfl,e7⟩;have c1:=e7.keeps xq;have c2:=e7.keeps xp;have c3:=e7.keeps pD;have c4:=e7.keeps uc)
  have Zn:=ai (HMa.o.ext e7);have Zm:=ai (HMb.o.ext e7);have pV:=ai (Qe.o.trans e7);have b9:=Qz.o.ext e7;have ix:=xW.o.ext e7;clear c1 c2 c3 c4 xq xp pD uc qD e7;have c1:=b9.cell 0 (v:=.bool sa) rfl;have c2:=b9.cell 1 (v:=.slice ad na ca) rfl;have c3:=ix.cell 0 (v:=.bool sb) rfl;have c4:=ix.cell 1 (v:=.slice bd nb cb) rfl;clear b9 ix;go_wp2_with fail;go_region_held3 (fun w'=>w'.cell? ⟨w4.heap.size,0,none⟩=some (.bool sa)/\w'.cell? ⟨w4.heap.size,1,none⟩=some (.slice ad na ca)/\w'.cell? ⟨w4.heap.size+1,0,none⟩=some (.bool sb)/\w'.cell? ⟨w4.heap.size+1,1,none⟩=some (.slice bd nb cb)) (first|exact⟨c1,c2,c3,c4⟩|exact⟨e5.keeps c1,e5.keeps c2,e5.keeps c3,e5.keeps c4⟩|exact⟨e6.keeps (e5.keeps c1),e6.keeps (e5.keeps c2),e6.keeps (e5.keeps c3),e6.keeps (e5.keeps c4)⟩) (first
   | (go_at_call 252;refine(mW a.natAbs b.natAbs _ _ _ (Zn.o.ext (Ext.refl _).drew) (Zm.o.ext (Ext.refl _).drew) HA.o qO.o).mono ?_;rintro e w5 ⟨v5,rfl,e5,m5⟩;obtain⟨a5,n5,c5,rfl⟩:=m5.slice)
   | (go_at_call 171;refine cto (eH _ (a.natAbs-b.natAbs) _ _ _ _ m5 (Fit.tZ (HA.o.mono (Nat.sub_le _ _))) (HG.o.ext ((pV.o.drew).trans e5))) fun w6 e6=>?_))
  go_wp2;go_ret;exact⟨cF HS.o.2,((pV.o.drew).trans e5).trans e6⟩
 ·have H9:=ai h9;clear h h9;go_enter func189,ntmps189;go_upto_region 7 with(first
   | (go_at_call 167;((with_reducible refine(hU a 18 w (by have:=H9.o;omega)).mono ?_);rintro e w2 ⟨rfl,gv⟩))
   | (go_at_call 169;((with_reducible refine(dI a w2 la).mono ?_);rintro e w3 ⟨va,rfl,e3,ad,na,ca,rfl,ma⟩))
   | (go_at_call 169;refine(dI b w3 lb).mono ?_;rintro e w4 ⟨vb,rfl,e4,bd,nb,cb,rfl,mb⟩))
  generalize iM:decide (a<0)=sa at HS ⊢;generalize k8:decide (b<0)=sb at HS ⊢;clear iM k8;obtain⟨W,hW⟩:∃ W,(w4.alloc (.cells #[.bool sa,.slice ad na ca] 216)).alloc (.cells #[.bool sb,.slice bd nb cb] 216)=W:=⟨_,rfl⟩
  have ea:Ext w3 W:=by rw[← hW];exact(e4.alloc _).alloc _
  have eb:Ext w4 W:=by rw[← hW];exact((Ext.refl _).alloc _).alloc _
  have b9:ay W w4.heap.size #[.bool sa,.slice ad na ca] 216:=by rw[← hW];exact(ay.new w4 _ _).alloc _
  have ix:ay W (w4.heap.size+1) #[.bool sb,.slice bd nb cb] 216:=by rw[← hW];have:=ay.new (w4.alloc (.cells #[.bool sa,.slice ad na ca] 216)) #[.bool sb,.slice bd nb cb] 216;simpa using this
  have ew:Ext w W:=(gv.trans e3).trans ea;have gh:w.heap.size<=w4.heap.size:=((gv.trans e3).trans e4).size;rw[hW];have hs:=HS.o.1;have xq:=b9.cell 0 (v:=.bool sa) rfl;have xp:=b9.cell 1 (v:=.slice ad na ca) rfl;have pD:=ix.cell 0 (v:=.bool sb) rfl;have uc:=ix.cell 1 (v:=.slice bd nb cb) rfl;have qD:=fW a.natAbs b.natAbs (.slice ad na ca) (.slice bd nb cb) W (ma.ext ea) (mb.ext eb);obtain⟨o,ho⟩:∃ o,o=jy a.natAbs b.natAbs:=⟨_,rfl⟩
  rw[← ho] at qD;have KU:0<=o:=by rw[ho];exact rE qO.o
  have ho2:¬ o<0:=ae;have HMa:=ai (ma.ext ea);have HMb:=ai (mb.ext eb);have Qe:=ai ew;have Qz:=ai b9;have xW:=ai ix;clear hW ea eb ma mb gv e3 e4 ew b9 ix ho;go_upto_region 11 with(go_at_call 251;refine qD.mono ?_;rintro e w7 ⟨rfl,e7⟩;have c1:=e7.keeps xq;have c2:=e7.keeps xp;have c3:=e7.keeps pD;have c4:=e7.keeps uc)
  have Zn:=ai (HMa.o.ext e7);have Zm:=ai (HMb.o.ext e7);have pV:=ai (Qe.o.trans e7);have b9:=Qz.o.ext e7;have ix:=xW.o.ext e7;clear c1 c2 c3 c4 xq xp pD uc qD e7;have c1:=b9.cell 0 (v:=.bool sa) rfl;have c2:=b9.cell 1 (v:=.slice ad na ca) rfl;have c3:=ix.cell 0 (v:=.bool sb) rfl;have c4:=ix.cell 1 (v:=.slice bd nb cb) rfl;clear b9 ix;go_wp2_with fail;go_region_held3 (fun w'=>w'.cell? ⟨w4.heap.size,0,none⟩=some (.bool sa)/\w'.cell? ⟨w4.heap.size,1,none⟩=some (.slice ad na ca)/\w'.cell? ⟨w4.heap.size+1,0,none⟩=some (.bool sb)/\w'.cell? ⟨w4.heap.size+1,1,none⟩=some (.slice bd nb cb)) (first|exact⟨c1,c2,c3,c4⟩|exact⟨e5.keeps c1,e5.keeps c2,e5.keeps c3,e5.keeps c4⟩|exact⟨e6.keeps (e5.keeps c1),e6.keeps (e5.keeps c2),e6.keeps (e5.keeps c3),e6.keeps (e5.keeps c4)⟩) (first
   | (go_at_call 252;refine(mW a.natAbs b.natAbs _ _ _ (Zn.o.ext (Ext.refl _).drew) (Zm.o.ext (Ext.refl _).drew) HA.o qO.o).mono ?_;rintro e w5 ⟨v5,rfl,e5,m5⟩;obtain⟨a5,n5,c5,rfl⟩:=m5.slice)
   | (go_at_call 171;refine cto (eH _ (a.natAbs-b.natAbs) _ _ _ _ m5 (Fit.tZ (HA.o.mono (Nat.sub_le _ _))) (HG.o.ext ((pV.o.drew).trans e5))) fun w6 e6=>?_))
  go_wp2;go_ret;exact⟨cF HS.o.2,((pV.o.drew).trans e5).trans e6⟩
set_option maxHeartbeats 4000000 in
theorem Py(a b:Int){k m:Nat}(w:World)(g:Gd w)(ha:IB k a)(hb:IB m b)(hk:k<=9000)(hm:m<=9000)(h:¬ ((zl a).length<=18/\(zl b).length<=18))(HS:Hid ((decide (a<0) == decide (b<0))=false/\jg (decide (b<0)) (b.natAbs-a.natAbs)=a+b))(LK:Hid (a.natAbs<b.natAbs))(qO:Hid (a.natAbs<=b.natAbs)):Calls prog 189 #[.string (zs a),.string (zs b)] w (aZ w (.string (zs (a+b)))):=by
 have la:=ha.len hk;have lb:=hb.len hm;have fa:=(ha.fit hk).fit;have fb:=(hb.fit hm).fit;have HA:=ai fa;have HB:=ai fb;have HG:=ai g;clear ha hb fa fb g;by_cases h9:(zl a).length<=18
 ·have B4:¬ (zl b).length<=18:=fun e=>h ⟨h9,e⟩
  have H9:=ai h9;have tq:=ai B4;clear h h9 B4;go_enter func189,ntmps189;go_upto_region 7 with(first
   | (go_at_call 167;((with_reducible refine(fu a 18 w (by have:=H9.o;omega) af).mono ?_);rintro e w1 ⟨rfl,e1⟩))
   | (go_at_call 167;refine cto (hU b 18 _ (by have:=tq.o;omega)) fun w2 e2=>?_)
   | (go_at_call 169;((with_reducible refine(dI a w2 la).mono ?_);rintro e w3 ⟨va,rfl,e3,ad,na,ca,rfl,ma⟩))
   | (go_at_call 169;refine(dI b w3 lb).mono ?_;rintro e w4 ⟨vb,rfl,e4,bd,nb,cb,rfl,mb⟩))
  have gv:Ext w w2:=e1.trans e2;clear e1 e2;generalize iM:decide (a<0)=sa at HS ⊢;generalize k8:decide (b<0)=sb at HS ⊢;clear iM k8;obtain⟨W,hW⟩:∃ W,(w4.alloc (.cells #[.bool sa,.slice ad na ca] 216)).alloc (.cells #[.bool sb,.slice bd nb cb] 216)=W:=⟨_,rfl⟩
  have ea:Ext w3 W:=by rw[← hW];exact(e4.alloc _).alloc _
  have eb:Ext w4 W:=by rw[← hW];exact((Ext.refl _).alloc _).alloc _
  have b9:ay W w4.heap.size #[.bool sa,.slice ad na ca] 216:=by rw[← hW];exact(ay.new w4 _ _).alloc _
  have ix:ay W (w4.heap.size+1) #[.bool sb,.slice bd nb cb] 216:=by rw[← hW];have:=ay.new (w4.alloc (.cells #[.bool sa,.slice ad na ca] 216)) #[.bool sb,.slice bd nb cb] 216;simpa using this
  have ew:Ext w W:=(gv.trans e3).trans ea;have gh:w.heap.size<=w4.heap.size:=((gv.trans e3).trans e4).size;rw[hW];have hs:=HS.o.1;have xq:=b9.cell 0 (v:=.bool sa) rfl;have xp:=b9.cell 1 (v:=.slice ad na ca) rfl;have pD:=ix.cell 0 (v:=.bool sb) rfl;have uc:=ix.cell 1 (v:=.slice bd nb cb) rfl;have qD:=fW a.natAbs b.natAbs (.slice ad na ca) (.slice bd nb cb) W (ma.ext ea) (mb.ext eb);rw[pn LK.o] at qD;have HMa:=ai (ma.ext ea);have HMb:=ai (mb.ext eb);have Qe:=ai ew;have Qz:=ai b9;have xW:=ai ix;have Zj:=ai (ma.ext e4);have Zi:=ai mb;have HE4:=ai eb;have Zt:=ai ((gv.trans e3).trans e4);clear hW ea eb ma mb gv e3 e4 ew b9 ix;go_upto_region 11 with(go_at_call 251;refine qD.mono ?_;rintro e w7 ⟨rfl,e7⟩;have c1:=e7.keeps xq;have c2:=e7.keeps xp;have c3:=e7.keeps pD;have c4:=e7.keeps uc;have f9:=(Qz.o.ext e7).free 0;have f9':=(Qz.o.ext e7).free 1;have f10:=(xW.o.ext e7).free 0;have Yi:=(xW.o.ext e7).free 1)
  obtain⟨W8,OB⟩:∃ W8,((((w7.setCell ⟨w4.heap.size,0,none⟩ (.bool sb)).setCell ⟨w4.heap.size,1,none⟩ (.slice bd nb cb)).setCell ⟨w4.heap.size+1,0,none⟩ (.bool sa)).setCell ⟨w4.heap.size+1,1,none⟩ (.slice ad na ca))=W8:=⟨_,rfl⟩
  have e8:Ext w4 W8:=by rw[← OB];exact((((HE4.o.trans e7).setCell (Nat.le_refl _) _).setCell (Nat.le_refl _) _).setCell (Nat.le_succ _) _).setCell (Nat.le_succ _) _
  have b9:ay W8 w4.heap.size #[.bool sb,.slice bd nb cb] 216:=by
   rw[← OB];exact((((Qz.o.ext e7).set 0 (.bool sb)).set 1 (.slice bd nb cb)).other _ (by simp)).other _ (by simp)
  have ix:ay W8 (w4.heap.size+1) #[.bool sa,.slice ad na ca] 216:=by
   rw[← OB];exact((((xW.o.ext e7).other _ (by simp)).other _ (by simp)).set 0 (.bool sa)).set 1 (.slice ad na ca)
  rw[OB];have Zn:=ai (Zi.o.ext e8);have Zm:=ai (Zj.o.ext e8);have pV:=ai (Zt.o.trans e8);clear c1 c2 c3 c4 xq xp pD uc f9 f9' f10 Yi qD e7 e8 OB;have c1:=b9.cell 0 (v:=.bool sb) rfl;have c2:=b9.cell 1 (v:=.slice bd nb cb) rfl;have c3:=ix.cell 0 (v:=.bool sa) rfl;have c4:=ix.cell 1 (v:=.slice ad na ca) rfl;clear b9 ix;go_wp2_with fail;go_region_held3 (fun w'=>w'.cell? ⟨w4.heap.size,0,none⟩=some (.bool sb)/\w'.cell? ⟨w4.heap.size,1,none⟩=some (.slice bd nb cb)/\w'.cell? ⟨w4.heap.size+1,0,none⟩=some (.bool sa)/\w'.cell? ⟨w4.heap.size+1,1,none⟩=some (.slice ad na ca)) (first|exact⟨c1,c2,c3,c4⟩|exact⟨e5.keeps c1,e5.keeps c2,e5.keeps c3,e5.keeps c4⟩|exact⟨e6.keeps (e5.keeps c1),e6.keeps (e5.keeps c2),e6.keeps (e5.keeps c3),e6.keeps (e5.keeps c4)⟩) (first
   | (go_at_call 252;refine(mW b.natAbs a.natAbs _ _ _ (Zn.o.ext (Ext.refl _).drew) (Zm.o.ext (Ext.refl _).drew) HB.o qO.o).mono ?_;rintro e w5 ⟨v5,rfl,e5,m5⟩;obtain⟨a5,n5,c5,rfl⟩:=m5.slice)
   | (go_at_call 171;refine cto (eH _ (b.natAbs-a.natAbs) _ _ _ _ m5 (Fit.tZ (HB.o.mono (Nat.sub_le _ _))) (HG.o.ext ((pV.o.drew).trans e5))) fun w6 e6=>?_))
  go_wp2;go_ret;exact⟨cF HS.o.2,((pV.o.drew).trans e5).trans e6⟩
 ·have H9:=ai h9;clear h h9;go_enter func189,ntmps189;go_upto_region 7 with(first
   | (go_at_call 167;((with_reducible refine(hU a 18 w (by have:=H9.o;omega)).mono ?_);rintro e w2 ⟨rfl,gv⟩))
   | (go_at_call 169;((with_reducible refine(dI a w2 la).mono ?_);rintro e w3 ⟨va,rfl,e3,ad,na,ca,rfl,ma⟩))
   | (go_at_call 169;refine(dI b w3 lb).mono ?_;rintro e w4 ⟨vb,rfl,e4,bd,nb,cb,rfl,mb⟩))
  generalize iM:decide (a<0)=sa at HS ⊢;generalize k8:decide (b<0)=sb at HS ⊢;clear iM k8;obtain⟨W,hW⟩:∃ W,(w4.alloc (.cells #[.bool sa,.slice ad na ca] 216)).alloc (.cells #[.bool sb,.slice bd nb cb] 216)=W:=⟨_,rfl⟩
  have ea:Ext w3 W:=by rw[← hW];exact(e4.alloc _).alloc _
  have eb:Ext w4 W:=by rw[← hW];exact((Ext.refl _).alloc _).alloc _
  have b9:ay W w4.heap.size #[.bool sa,.slice ad na ca] 216:=by rw[← hW];exact(ay.new w4 _ _).alloc _
  have ix:ay W (w4.heap.size+1) #[.bool sb,.slice bd nb cb] 216:=by rw[← hW];have:=ay.new (w4.alloc (.cells #[.bool sa,.slice ad na ca] 216)) #[.bool sb,.slice bd nb cb] 216;simpa using this
  have ew:Ext w W:=(gv.trans e3).trans ea;have gh:w.heap.size<=w4.heap.size:=((gv.trans e3).trans e4).size;rw[hW];have hs:=HS.o.1;have xq:=b9.cell 0 (v:=.bool sa) rfl;have xp:=b9.cell 1 (v:=.slice ad na ca) rfl;have pD:=ix.cell 0 (v:=.bool sb) rfl;have uc:=ix.cell 1 (v:=.slice bd nb cb) rfl;have qD:=fW a.natAbs b.natAbs (.slice ad na ca) (.slice bd nb cb) W (ma.ext ea) (mb.ext eb);rw[pn LK.o] at qD;have HMa:=ai (ma.ext ea);have HMb:=ai (mb.ext eb);have Qe:=ai ew;have Qz:=ai b9;have xW:=ai ix;have Zj:=ai (ma.ext e4);have Zi:=ai mb;have HE4:=ai eb;have Zt:=ai ((gv.trans e3).trans e4);clear hW ea eb ma mb gv e3 e4 ew b9 ix;go_upto_region 11 with(go_at_call 251;refine qD.mono ?_;rintro e w7 ⟨rfl,e7⟩;have c1:=e7.keeps xq;have c2:=e7.keeps xp;have c3:=e7.keeps pD;have c4:=e7.keeps uc;have f9:=(Qz.o.ext e7).free 0;have f9':=(Qz.o.ext e7).free 1;have f10:=(xW.o.ext e7).free 0;have Yi:=(xW.o.ext e7).free 1)
  obtain⟨W8,OB⟩:∃ W8,((((w7.setCell ⟨w4.heap.size,0,none⟩ (.bool sb)).setCell ⟨w4.heap.size,1,none⟩ (.slice bd nb cb)).setCell ⟨w4.heap.size+1,0,none⟩ (.bool sa)).setCell ⟨w4.heap.size+1,1,none⟩ (.slice ad na ca))=W8:=⟨_,rfl⟩
  have e8:Ext w4 W8:=by rw[← OB];exact((((HE4.o.trans e7).setCell (Nat.le_refl _) _).setCell (Nat.le_refl _) _).setCell (Nat.le_succ _) _).setCell (Nat.le_succ _) _
  have b9:ay W8 w4.heap.size #[.bool sb,.slice bd nb cb] 216:=by
   rw[← OB];exact((((Qz.o.ext e7).set 0 (.bool sb)).set 1 (.slice bd nb cb)).other _ (by simp)).other _ (by simp)
  have ix:ay W8 (w4.heap.size+1) #[.bool sa,.slice ad na ca] 216:=by
   rw[← OB];exact((((xW.o.ext e7).other _ (by simp)).other _ (by simp)).set 0 (.bool sa)).set 1 (.slice ad na ca)
  rw[OB];have Zn:=ai (Zi.o.ext e8);have Zm:=ai (Zj.o.ext e8);have pV:=ai (Zt.o.trans e8);clear c1 c2 c3 c4 xq xp pD uc f9 f9' f10 Yi qD e7 e8 OB;have c1:=b9.cell 0 (v:=.bool sb) rfl;have c2:=b9.cell 1 (v:=.slice bd nb cb) rfl;have c3:=ix.cell 0 (v:=.bool sa) rfl;have c4:=ix.cell 1 (v:=.slice ad na ca) rfl;clear b9 ix;go_wp2_with fail;go_region_held3 (fun w'=>w'.cell? ⟨w4.heap.size,0,none⟩=some (.bool sb)/\w'.cell? ⟨w4.heap.size,1,none⟩=some (.slice bd nb cb)/\w'.cell? ⟨w4.heap.size+1,0,none⟩=some (.bool sa)/\w'.cell? ⟨w4.heap.size+1,1,none⟩=some (.slice ad na ca)) (first|exact⟨c1,c2,c3,c4⟩|exact⟨e5.keeps c1,e5.keeps c2,e5.keeps c3,e5.keeps c4⟩|exact⟨e6.keeps (e5.keeps c1),e6.keeps (e5.keeps c2),e6.keeps (e5.keeps c3),e6.keeps (e5.keeps c4)⟩) (first
   | (go_at_call 252;refine(mW b.natAbs a.natAbs _ _ _ (Zn.o.ext (Ext.refl _).drew) (Zm.o.ext (Ext.refl _).drew) HB.o qO.o).mono ?_;rintro e w5 ⟨v5,rfl,e5,m5⟩;obtain⟨a5,n5,c5,rfl⟩:=m5.slice)
   | (go_at_call 171;refine cto (eH _ (b.natAbs-a.natAbs) _ _ _ _ m5 (Fit.tZ (HB.o.mono (Nat.sub_le _ _))) (HG.o.ext ((pV.o.drew).trans e5))) fun w6 e6=>?_))
  go_wp2;go_ret;exact⟨cF HS.o.2,((pV.o.drew).trans e5).trans e6⟩
theorem Vj(a b:Int){k m:Nat}(w:World)(g:Gd w)(ha:IB k a)(hb:IB m b)(hk:k<=9000)(hm:m<=9000):Calls prog 189 #[.string (zs a),.string (zs b)] w (aZ w (.string (zs (a+b)))):=by
 by_cases h:(zl a).length<=18/\(zl b).length<=18
 ·exact Lw a b w g h.1 h.2
 ·by_cases hs:decide (a<0)=decide (b<0)
  ·exact add_same a b w g ha hb hk hm h (ai ⟨by simpa using hs,CE hs⟩)
  ·by_cases hl:b.natAbs<=a.natAbs
   ·exact Pz a b w g ha hb hk hm h (ai ⟨by simpa using hs,ri hs hl⟩) (ai hl)
   ·exact Py a b w g ha hb hk hm h (ai ⟨by simpa using hs,by rw[Int.add_comm];exact ri (fun e=>hs e.symm) ae⟩) (ai ae) (ai ae)
theorem eV.fY{w:World}{ad:Option Addr}{n c N:Nat}(h:eV w (.slice ad n c) N):n=0 ↔ N=0:=by
 obtain⟨l,⟨uM,cap,b,off,hv,_⟩,hc,hm⟩:=h;simp only[Value.slice.injEq] at hv;rw[hv.2.1];constructor
 ·intro e;have:l=[]:=List.length_eq_zero_iff.1 e;subst this;exact hm.symm
 ·intro e;rw[hc.lu af (by rw[hm,e])];rfl
theorem pC(a b:Int)(hb:b≠0)(h:0<=a∨a.natAbs % b.natAbs=0):jg (!(decide (a<0) == decide (b<0))) (a.natAbs / b.natAbs)=a / b/\jg false (a.natAbs % b.natAbs)=a % b:=by
 have hq:∀ (x y:Nat),jg false (x % y)=(x:Int) % (y:Int):=fun x y=>by simp[jg]
 rcases Int.lt_or_le a 0 with ha|ha
 ·have h0:a.natAbs % b.natAbs=0:=by
   rcases h with h|h
   ·omega
   ·exact h
  have hd:b∣a:=by rw[← Int.natAbs_dvd_natAbs];exact Nat.dvd_of_mod_eq_zero h0
  obtain⟨c,rfl⟩:=hd;refine⟨?_,by rw[h0,Int.mul_emod_right];rfl⟩;rw[Int.mul_ediv_cancel_left _ hb,Int.natAbs_mul,Nat.mul_div_cancel_left _ ae];rcases Int.lt_or_le b 0 with nN|nN
  ·have hc:0<c:=by
    rcases Int.lt_or_le 0 c with h|h
    ·exact h
    ·have:=Int.mul_nonneg_of_nonpos_of_nonpos (Int.le_of_lt nN) h;omega
   simp[jg,ha,nN];omega
  ·have hc:c<0:=by
    rcases Int.lt_or_le c 0 with h|h
    ·exact h
    ·have:=Int.mul_nonneg nN h;omega
   simp[jg,ha,show ¬ b<0 by omega];omega
 ·obtain⟨n,rfl⟩:=Int.eq_ofNat_of_zero_le ha;rcases Int.lt_or_le b 0 with nN|nN
  ·obtain⟨m,rfl⟩:∃ m:Nat,b=-(m:Int):=⟨b.natAbs,ae⟩
   simp[jg,show ¬ ((n:Int)<0) by omega];intro e;exact absurd e ae
  ·obtain⟨m,rfl⟩:=Int.eq_ofNat_of_zero_le nN;simp[jg,show ¬ ((n:Int)<0) by omega,show ¬ ((m:Int)<0) by omega]
theorem zr(a b:Int)(hb:b≠0)(ha:a<0)(h:a.natAbs % b.natAbs≠0):jg (!(decide (a<0) == decide (b<0))) (a.natAbs / b.natAbs+1)=a / b/\jg false (b.natAbs-a.natAbs % b.natAbs)=a % b:=by
 have QS:0<b.natAbs:=ae;have aP:=Nat.mod_lt a.natAbs QS;have hdm:=Nat.div_add_mod a.natAbs b.natAbs;have key:∀ q r:Int,a=b*q+r->0<=r->r<b.natAbs->q=a / b/\r=a % b:=fun q r e h0 h1=>by
  rcases Int.lt_or_lt_of_ne hb with nN|nN
  ·have:=(Int.ediv_emod_unique' (a:=a) (b:=b) (r:=r) (q:=q) nN).2 ⟨by rw[e,Int.add_comm],h0,ae⟩;exact⟨this.1.symm,this.2.symm⟩
  ·have:=(Int.ediv_emod_unique (a:=a) (b:=b) (r:=r) (q:=q) nN).2 ⟨by rw[e,Int.add_comm],h0,ae⟩;exact⟨this.1.symm,this.2.symm⟩
 have e2:jg false (b.natAbs-a.natAbs % b.natAbs)=((b.natAbs-a.natAbs % b.natAbs:Nat):Int):=rfl;rw[e2];generalize hQ:a.natAbs / b.natAbs=Q at *;generalize hR:a.natAbs % b.natAbs=R at *;refine key _ _ ?_ ae ae;have e3:(a.natAbs:Int)=(b.natAbs:Int)*Q+R:=by rw[← Int.natCast_mul];omega
 rcases Int.lt_or_le b 0 with nN|nN
 ·have:(b.natAbs:Int)=-b:=ae;rw[this] at e3;simp[jg,ha,nN];rw[Int.neg_mul] at e3;rw[Int.mul_add,Int.mul_one];omega
 ·have:(b.natAbs:Int)=b:=ae;rw[this] at e3;simp[jg,ha,show ¬ b<0 by omega];rw[Int.mul_neg,Int.mul_add,Int.mul_one];omega
theorem FU{a b c d:Int}(h:a=b)(k:c=d):Ending.returned (.tuple #[.string (zs a),.string (zs c),.int .i64 0]) = .returned (.tuple #[.string (zs b),.string (zs d),.int .i64 0]):=by rw[h,k]
set_option maxHeartbeats 4000000 in
theorem G5(a b:Int){k m:Nat}(w:World)(g:Gd w)(ha:IB k a)(hb:IB m b)(hk:k<=9000)(hm:m<=9000)(fp:b≠0)(pJ:Hid (decide (a<0)=false))(HS:Hid (jg (!(decide (a<0) == decide (b<0))) (a.natAbs / b.natAbs)=a / b/\jg false (a.natAbs % b.natAbs)=a % b)):Calls prog 228 #[.string (zs a),.string (zs b)] w (aZ w (.tuple #[.string (zs (a / b)),.string (zs (a % b)),.int .i64 0])):=by
 have la:=ha.len hk;have lb:=hb.len hm;have fa:=ha.fit hk;have fb:=(hb.fit hm).fit;have QS:0<b.natAbs:=ae;have HA:=ai fa;have HB:=ai fb;have HG:=ai g;have mC:=ai QS;have hz:=ki fp;clear ha hb fa fb g fp QS;go_enter func228,ntmps228;go_upto_region 4 with(first
     | (go_at_call 169;((with_reducible refine(dI a w la).mono ?_);rintro e w3 ⟨va,rfl,e3,ad,na,ca,rfl,ma⟩))
     | (go_at_call 169;refine(dI b w3 lb).mono ?_;rintro e w4 ⟨vb,rfl,e4,bd,nb,cb,rfl,mb⟩))
 generalize iM:decide (a<0)=sa at HS pJ ⊢;generalize k8:decide (b<0)=sb at HS ⊢;clear iM k8;obtain⟨W,hW⟩:∃ W,(w4.alloc (.cells #[.bool sa,.slice ad na ca] 216)).alloc (.cells #[.bool sb,.slice bd nb cb] 216)=W:=⟨_,rfl⟩
 have ea:Ext w3 W:=by rw[← hW];exact(e4.alloc _).alloc _
 have eb:Ext w4 W:=by rw[← hW];exact((Ext.refl _).alloc _).alloc _
 have b9:ay W w4.heap.size #[.bool sa,.slice ad na ca] 216:=by rw[← hW];exact(ay.new w4 _ _).alloc _
 have ix:ay W (w4.heap.size+1) #[.bool sb,.slice bd nb cb] 216:=by rw[← hW];have:=ay.new (w4.alloc (.cells #[.bool sa,.slice ad na ca] 216)) #[.bool sb,.slice bd nb cb] 216;simpa using this
 have ew:Ext w W:=e3.trans ea;rw[hW];have LJ:=ai (ma.ext ea);have BK:=ai (mb.ext eb);have pV:=ai ew;have xq:=b9.cell 0 (v:=.bool sa) rfl;have xp:=b9.cell 1 (v:=.slice ad na ca) rfl;have pD:=ix.cell 0 (v:=.bool sb) rfl;have uc:=ix.cell 1 (v:=.slice bd nb cb) rfl;clear hW ea eb ma mb e3 e4 ew b9 ix;go_upto_region 5 with(go_at_call 246;refine(kJ a.natAbs b.natAbs _ _ W LJ.o BK.o mC.o HA.o).mono ?_;rintro e w5 ⟨vq,vr,rfl,e5,mq,mr⟩;obtain⟨qa,ql,qc,rfl⟩:=mq.slice;obtain⟨ra,rl,rc,rfl⟩:=mr.slice;have c1:=e5.keeps xq;have c2:=e5.keeps xp;have c3:=e5.keeps pD;have c4:=e5.keeps uc)
 have HQ:=ai mq;have HR:=ai mr;have Xu:=mr.fY;have E5:=ai (pV.o.trans e5);clear xq xp pD uc mq mr;have iM:=pJ.o;subst iM;clear Xu;go_wp2_with (first
     | (go_at_call 171;((with_reducible refine(eH _ (a.natAbs / b.natAbs) _ _ _ _ HQ.o (Fit.tZ (HA.o.fit.mono (Nat.div_le_self _ _))) (HG.o.ext E5.out)).mono ?_);rintro e w8 ⟨rfl,e8⟩;have c1:=e8.keeps c1;have c2:=e8.keeps c2;have c3:=e8.keeps c3;have c4:=e8.keeps c4))
     | (go_at_call 171;refine cto (eH false (a.natAbs % b.natAbs) _ _ _ _ (HR.o.ext e8) (Fit.tZ (HA.o.fit.mono (Nat.mod_le _ _))) (HG.o.ext (E5.out.trans e8))) fun w9 e9=>?_))
 go_ret3;exact⟨FU (by have:=HS.o.1;revert this;cases sb <;> exact id) HS.o.2,(E5.out.trans e8).trans e9⟩
set_option maxHeartbeats 4000000 in
theorem Eg(a b:Int){k m:Nat}(w:World)(g:Gd w)(ha:IB k a)(hb:IB m b)(hk:k<=9000)(hm:m<=9000)(fp:b≠0)(pJ:Hid (decide (a<0)=true))(yz:Hid (a.natAbs % b.natAbs=0))(HS:Hid (jg (!(decide (a<0) == decide (b<0))) (a.natAbs / b.natAbs)=a / b/\jg false (a.natAbs % b.natAbs)=a % b)):Calls prog 228 #[.string (zs a),.string (zs b)] w (aZ w (.tuple #[.string (zs (a / b)),.string (zs (a % b)),.int .i64 0])):=by
 have la:=ha.len hk;have lb:=hb.len hm;have fa:=ha.fit hk;have fb:=(hb.fit hm).fit;have QS:0<b.natAbs:=ae;have HA:=ai fa;have HB:=ai fb;have HG:=ai g;have mC:=ai QS;have hz:=ki fp;clear ha hb fa fb g fp QS;go_enter func228,ntmps228;go_upto_region 4 with(first
     | (go_at_call 169;((with_reducible refine(dI a w la).mono ?_);rintro e w3 ⟨va,rfl,e3,ad,na,ca,rfl,ma⟩))
     | (go_at_call 169;refine(dI b w3 lb).mono ?_;rintro e w4 ⟨vb,rfl,e4,bd,nb,cb,rfl,mb⟩))
 generalize iM:decide (a<0)=sa at HS pJ ⊢;generalize k8:decide (b<0)=sb at HS ⊢;clear iM k8;obtain⟨W,hW⟩:∃ W,(w4.alloc (.cells #[.bool sa,.slice ad na ca] 216)).alloc (.cells #[.bool sb,.slice bd nb cb] 216)=W:=⟨_,rfl⟩
 have ea:Ext w3 W:=by rw[← hW];exact(e4.alloc _).alloc _
 have eb:Ext w4 W:=by rw[← hW];exact((Ext.refl _).alloc _).alloc _
 have b9:ay W w4.heap.size #[.bool sa,.slice ad na ca] 216:=by rw[← hW];exact(ay.new w4 _ _).alloc _
 have ix:ay W (w4.heap.size+1) #[.bool sb,.slice bd nb cb] 216:=by rw[← hW];have:=ay.new (w4.alloc (.cells #[.bool sa,.slice ad na ca] 216)) #[.bool sb,.slice bd nb cb] 216;simpa using this
 have ew:Ext w W:=e3.trans ea;rw[hW];have LJ:=ai (ma.ext ea);have BK:=ai (mb.ext eb);have pV:=ai ew;have xq:=b9.cell 0 (v:=.bool sa) rfl;have xp:=b9.cell 1 (v:=.slice ad na ca) rfl;have pD:=ix.cell 0 (v:=.bool sb) rfl;have uc:=ix.cell 1 (v:=.slice bd nb cb) rfl;clear hW ea eb ma mb e3 e4 ew b9 ix;go_upto_region 5 with(go_at_call 246;refine(kJ a.natAbs b.natAbs _ _ W LJ.o BK.o mC.o HA.o).mono ?_;rintro e w5 ⟨vq,vr,rfl,e5,mq,mr⟩;obtain⟨qa,ql,qc,rfl⟩:=mq.slice;obtain⟨ra,rl,rc,rfl⟩:=mr.slice;have c1:=e5.keeps xq;have c2:=e5.keeps xp;have c3:=e5.keeps pD;have c4:=e5.keeps uc)
 have HQ:=ai mq;have HR:=ai mr;have Xu:=mr.fY;have E5:=ai (pV.o.trans e5);clear xq xp pD uc mq mr;have iM:=pJ.o;subst iM;have SI:=Xu.2 yz.o;subst SI;clear Xu;go_wp2_with (first
     | (go_at_call 171;((with_reducible refine(eH _ (a.natAbs / b.natAbs) _ _ _ _ HQ.o (Fit.tZ (HA.o.fit.mono (Nat.div_le_self _ _))) (HG.o.ext E5.out)).mono ?_);rintro e w8 ⟨rfl,e8⟩;have c1:=e8.keeps c1;have c2:=e8.keeps c2;have c3:=e8.keeps c3;have c4:=e8.keeps c4))
     | (go_at_call 171;refine cto (eH false (a.natAbs % b.natAbs) _ _ _ _ (HR.o.ext e8) (Fit.tZ (HA.o.fit.mono (Nat.mod_le _ _))) (HG.o.ext (E5.out.trans e8))) fun w9 e9=>?_))
 go_ret3;exact⟨FU (by have:=HS.o.1;revert this;cases sb <;> exact id) HS.o.2,(E5.out.trans e8).trans e9⟩
set_option maxHeartbeats 4000000 in
theorem G6(a b:Int){k m:Nat}(w:World)(g:Gd w)(ha:IB k a)(hb:IB m b)(hk:k<=9000)(hm:m<=9000)(fp:b≠0)(pJ:Hid (decide (a<0)=true))(yz:Hid (a.natAbs % b.natAbs≠0))(HS:Hid (jg (!(decide (a<0) == decide (b<0))) (a.natAbs / b.natAbs+1)=a / b/\jg false (b.natAbs-a.natAbs % b.natAbs)=a % b)):Calls prog 228 #[.string (zs a),.string (zs b)] w (aZ w (.tuple #[.string (zs (a / b)),.string (zs (a % b)),.int .i64 0])):=by
 have la:=ha.len hk;have lb:=hb.len hm;have fa:=ha.fit hk;have fb:=(hb.fit hm).fit;have QS:0<b.natAbs:=ae;have HA:=ai fa;have HB:=ai fb;have HG:=ai g;have mC:=ai QS;have hz:=ki fp;clear ha hb fa fb g fp QS;go_enter func228,ntmps228;go_upto_region 4 with(first
     | (go_at_call 169;((with_reducible refine(dI a w la).mono ?_);rintro e w3 ⟨va,rfl,e3,ad,na,ca,rfl,ma⟩))
     | (go_at_call 169;refine(dI b w3 lb).mono ?_;rintro e w4 ⟨vb,rfl,e4,bd,nb,cb,rfl,mb⟩))
 generalize iM:decide (a<0)=sa at HS pJ ⊢;generalize k8:decide (b<0)=sb at HS ⊢;clear iM k8;obtain⟨W,hW⟩:∃ W,(w4.alloc (.cells #[.bool sa,.slice ad na ca] 216)).alloc (.cells #[.bool sb,.slice bd nb cb] 216)=W:=⟨_,rfl⟩
 have ea:Ext w3 W:=by rw[← hW];exact(e4.alloc _).alloc _
 have eb:Ext w4 W:=by rw[← hW];exact((Ext.refl _).alloc _).alloc _
 have b9:ay W w4.heap.size #[.bool sa,.slice ad na ca] 216:=by rw[← hW];exact(ay.new w4 _ _).alloc _
 have ix:ay W (w4.heap.size+1) #[.bool sb,.slice bd nb cb] 216:=by rw[← hW];have:=ay.new (w4.alloc (.cells #[.bool sa,.slice ad na ca] 216)) #[.bool sb,.slice bd nb cb] 216;simpa using this
 have ew:Ext w W:=e3.trans ea;rw[hW];have LJ:=ai (ma.ext ea);have BK:=ai (mb.ext eb);have pV:=ai ew;have xq:=b9.cell 0 (v:=.bool sa) rfl;have xp:=b9.cell 1 (v:=.slice ad na ca) rfl;have pD:=ix.cell 0 (v:=.bool sb) rfl;have uc:=ix.cell 1 (v:=.slice bd nb cb) rfl;clear hW ea eb ma mb e3 e4 ew b9 ix;go_upto_region 5 with(go_at_call 246;refine(kJ a.natAbs b.natAbs _ _ W LJ.o BK.o mC.o HA.o).mono ?_;rintro e w5 ⟨vq,vr,rfl,e5,mq,mr⟩;obtain⟨qa,ql,qc,rfl⟩:=mq.slice;obtain⟨ra,rl,rc,rfl⟩:=mr.slice;have c1:=e5.keeps xq;have c2:=e5.keeps xp;have c3:=e5.keeps pD;have c4:=e5.keeps uc)
 have HQ:=ai mq;have HR:=ai mr;have Xu:=mr.fY;have E5:=ai (pV.o.trans e5);clear xq xp pD uc mq mr;have iM:=pJ.o;subst iM
 have SI : 0 < rl := by have := yz.o; rcases Nat.eq_zero_or_pos rl with h | h
                        ·exact absurd (Xu.1 h) this
                        ·exact h
 clear Xu;have qO:=ai (Nat.le_of_lt (Nat.mod_lt a.natAbs mC.o));go_upto_region 6 with fail
 have one:∀ (V:World),eV (V.alloc (.cells #[.int .u64 1] 245)) (.slice (some ⟨V.heap.size,0,none⟩) 1 1) 1:=fun V=>⟨[1],Holds.one V .u64 1 _,⟨by intro x hx;simp at hx;omega,by simp⟩,gP _ _⟩
 have HO:=ai one;clear one;go_region_held3 (fun w' => w'.cell? ⟨w4.heap.size, 0, none⟩ = some (.bool true) /\ w'.cell? ⟨w4.heap.size, 1, none⟩ = some (.slice ad na ca) /\ w'.cell? ⟨w4.heap.size + 1, 0, none⟩ = some (.bool sb) /\ w'.cell? ⟨w4.heap.size + 1, 1, none⟩ = some (.slice bd nb cb)) (first | exact⟨Ext.keeps (by repeat (first | assumption | exact Ext.refl _ | exact⟨rfl, rfl, rfl, Nat.le_refl _, fun _ _ => rfl⟩ | apply Ext.drew | apply Ext.alloc | refine Ext.trans ?_ (by assumption))) c1, Ext.keeps (by repeat (first | assumption | exact Ext.refl _ | exact⟨rfl, rfl, rfl, Nat.le_refl _, fun _ _ => rfl⟩ | apply Ext.drew | apply Ext.alloc | refine Ext.trans ?_ (by assumption))) c2, Ext.keeps (by repeat (first | assumption | exact Ext.refl _ | exact⟨rfl, rfl, rfl, Nat.le_refl _, fun _ _ => rfl⟩ | apply Ext.drew | apply Ext.alloc | refine Ext.trans ?_ (by assumption))) c3, Ext.keeps (by repeat (first | assumption | exact Ext.refl _ | exact⟨rfl, rfl, rfl, Nat.le_refl _, fun _ _ => rfl⟩ | apply Ext.drew | apply Ext.alloc | refine Ext.trans ?_ (by assumption))) c4⟩) (first
     | (go_at_call 252;refine(mW b.natAbs (a.natAbs % b.natAbs) _ _ _ (BK.o.ext (by repeat (first|assumption|exact Ext.refl _|exact⟨rfl,rfl,rfl,Nat.le_refl _,fun _ _=>rfl⟩|apply Ext.drew|apply Ext.alloc|refine Ext.trans ?_ (by assumption)))) (HR.o.ext (by repeat (first|assumption|exact Ext.refl _|exact⟨rfl,rfl,rfl,Nat.le_refl _,fun _ _=>rfl⟩|apply Ext.drew|apply Ext.alloc|refine Ext.trans ?_ (by assumption)))) HB.o qO.o).mono ?_;rintro e w6 ⟨v6,rfl,e6,m6⟩;obtain⟨xa,xl,xc,rfl⟩:=m6.slice)
     | (go_at_call 250;refine(Av (a.natAbs / b.natAbs) 1 _ _ _ (HQ.o.ext (by repeat (first|assumption|exact Ext.refl _|exact⟨rfl,rfl,rfl,Nat.le_refl _,fun _ _=>rfl⟩|apply Ext.drew|apply Ext.alloc|refine Ext.trans ?_ (by assumption)))) ((HO.o _).ext (by repeat (first|assumption|exact Ext.refl _|exact⟨rfl,rfl,rfl,Nat.le_refl _,fun _ _=>rfl⟩|apply Ext.drew|apply Ext.alloc|refine Ext.trans ?_ (by assumption)))) (HA.o.fit.mono (Nat.div_le_self _ _)) (Fit.small af)).mono ?_;rintro e w7 ⟨v7,rfl,e7,m7⟩;obtain⟨ya,yl,yc,rfl⟩:=m7.slice))
 all_goals
  obtain⟨c1,c2,c3,c4⟩:_/\_/\_/\_:=by assumption
  go_wp2_with (first
      | (go_at_call 171;((with_reducible refine(eH _ (a.natAbs / b.natAbs+1) _ _ _ _ (m7.ext (by repeat (first|assumption|exact Ext.refl _|exact⟨rfl,rfl,rfl,Nat.le_refl _,fun _ _=>rfl⟩|apply Ext.drew|apply Ext.alloc|refine Ext.trans ?_ (by assumption)))) (Fit.YR (HA.o.fit.mono (Nat.div_le_self _ _)) (Fit.small af)) (HG.o.ext (E5.out.trans (by repeat (first|assumption|exact Ext.refl _|exact⟨rfl,rfl,rfl,Nat.le_refl _,fun _ _=>rfl⟩|apply Ext.drew|apply Ext.alloc|refine Ext.trans ?_ (by assumption)))))).mono ?_);rintro e w8 ⟨rfl,e8⟩;have c1:=e8.keeps c1;have c2:=e8.keeps c2;have c3:=e8.keeps c3;have c4:=e8.keeps c4))
      | (go_at_call 171;refine cto (eH false (b.natAbs-a.natAbs % b.natAbs) _ _ _ _ (m6.ext (by repeat (first|assumption|exact Ext.refl _|exact⟨rfl,rfl,rfl,Nat.le_refl _,fun _ _=>rfl⟩|apply Ext.drew|apply Ext.alloc|refine Ext.trans ?_ (by assumption)))) (Fit.tZ (HB.o.mono (Nat.sub_le _ _))) (HG.o.ext (E5.out.trans (by repeat (first|assumption|exact Ext.refl _|exact⟨rfl,rfl,rfl,Nat.le_refl _,fun _ _=>rfl⟩|apply Ext.drew|apply Ext.alloc|refine Ext.trans ?_ (by assumption)))))) fun w9 e9=>?_))
  go_ret3;exact⟨FU (by have:=HS.o.1;revert this;cases sb <;> exact id) HS.o.2,E5.out.trans (by repeat (first|assumption|exact Ext.refl _|exact⟨rfl,rfl,rfl,Nat.le_refl _,fun _ _=>rfl⟩|apply Ext.drew|apply Ext.alloc|refine Ext.trans ?_ (by assumption)))⟩
theorem oF(a b:Int){k m:Nat}(w:World)(g:Gd w)(ha:IB k a)(hb:IB m b)(hk:k<=9000)(hm:m<=9000)(fp:b≠0):Calls prog 228 #[.string (zs a),.string (zs b)] w (aZ w (.tuple #[.string (zs (a / b)),.string (zs (a % b)),.int .i64 0])):=by
 by_cases h:a<0
 ·by_cases h0:a.natAbs % b.natAbs=0
  ·exact Eg a b w g ha hb hk hm fp (ai (by simpa using h)) (ai h0) (ai (pC a b fp (Or.inr h0)))
  ·exact G6 a b w g ha hb hk hm fp (ai (by simpa using h)) (ai h0) (ai (zr a b fp h h0))
 ·exact G5 a b w g ha hb hk hm fp (ai (by simpa using h)) (ai (pC a b fp (Or.inl ae)))
