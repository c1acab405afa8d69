/- Part 21. -/
import Derived.Test.YtmahadmefplbnaaGreatDoorQTDB
import Derived.Test.YtmahadmefplbnaaGreatDoorQTD13
import Derived.Test.YtmahadmefplbnaaGreatDoorQTD18
import Derived.Test.YtmahadmefplbnaaGreatDoorQTD20
set_option maxRecDepth 100000
set_option maxHeartbeats 2000000
open Go.Proofs.Tryz
namespace Go.Proofs.YtmahadmefplbnaaGreatDoor
open Go Go.RowKit
def DS:Nat:=10000
structure zK(n:Nat):Prop where
 out:n<1000000000 ^ DS
theorem cz.jt{w:World}{ad:Option Addr}{n c N:Nat}(h:cz w (.slice ad n c) N)(f:zK N):n<=10000:=by
 obtain⟨l,⟨ad',cap,b,off,hv,_⟩,hc,hm⟩:=h;simp only[Value.slice.injEq] at hv;rw[hv.2.1];exact fL (k:=DS) af hc (by rw[hm];exact f.out)
theorem cz.wW{w:World}{ad:Option Addr}{c N:Nat}(h:cz w (.slice ad 0 c) N):N=0:=by
 obtain⟨l,⟨ad',cap,b,off,hv,_⟩,hc,hm⟩:=h;simp only[Value.slice.injEq] at hv;have:l=[]:=List.length_eq_zero_iff.1 hv.2.1.symm;subst this;exact hm.symm
theorem cv (s:Bool) (N:Nat) (ad:Option Addr) (n c:Nat) (w:World) (hm:cz w (.slice ad n c) N) (f:zK N) (g:Gd w) :
    Calls prog 171 #[.agg #[.bool s,.slice ad n c]] w (aR w (.string (zs (eI s N)))):=by
 have hn:=hm.jt f;by_cases h0:n=0
 ·subst h0;rw[hm.wW,qA];exact tf s ad c w
 ·cases s
  ·exact rI N ad n c w hm ae hn g
  ·exact tg N ad n c w hm ae hn g
theorem IB.fit{k:Nat}{a:Int}(h:IB k a)(hk:k<=9000):Fd a.natAbs :=
 ⟨Nat.lt_of_lt_of_le h.out (by rw[show(1000000000:Nat)=10 ^ 9 by decide,← Nat.pow_mul];exact Nat.pow_le_pow_right af (Nat.le_trans hk af))⟩
theorem Fd.fit{a:Nat}(h:Fd a):Fit a:=⟨Nat.lt_of_lt_of_le h.out (Nat.pow_le_pow_right af af)⟩
theorem Fit.mW{a:Nat}(h:Fit a):zK a:=⟨Nat.lt_of_lt_of_le h.out (Nat.pow_le_pow_right af af)⟩
theorem Fit.DH{a b:Nat}(h:Fit a)(k:Fit b):zK (a*b):=⟨by
 have h1:=Nat.mul_lt_mul'' h.out k.out;rw[← Nat.pow_add] at h1;exact Nat.lt_of_lt_of_le h1 (Nat.pow_le_pow_right af af)⟩
theorem Fit.Db{a b:Nat}(h:Fit a)(k:Fit b):zK (a+b):=⟨by
 have h1:a+b<1000000000 ^ kR+1000000000 ^ kR:=by have:=h.out;have:=k.out;omega
 have h2:(1000000000:Nat) ^ kR+1000000000 ^ kR<=1000000000 ^ (kR+1):=by rw[Nat.pow_succ];omega
 exact Nat.lt_of_lt_of_le (Nat.lt_of_lt_of_le h1 h2) (Nat.pow_le_pow_right af af)⟩
theorem IB.len{k:Nat}{a:Int}(h:IB k a)(hk:k<=9000):(zl a).length<=100000:=by
 have:=fu (n:=a) (k:=k+1) ae (Nat.lt_of_lt_of_le h.out (Nat.pow_le_pow_right af ae));omega
theorem BU(a b:Int):eI (decide (a<0) != decide (b<0)) (a.natAbs*b.natAbs)=a*b:=by
 rw[← Int.natAbs_mul];rcases Int.lt_or_le a 0 with ha|ha <;> rcases Int.lt_or_le b 0 with hb|hb
 ·have:=Int.mul_pos_of_neg_of_neg ha hb;simp[eI,ha,hb];omega
 ·have:=Int.mul_nonpos_of_nonpos_of_nonneg (Int.le_of_lt ha) hb;simp[eI,ha,show ¬ b<0 by omega];omega
 ·have:=Int.mul_nonpos_of_nonneg_of_nonpos ha (Int.le_of_lt hb);simp[eI,hb,show ¬ a<0 by omega];omega
 ·have:=Int.mul_nonneg ha hb;simp[eI,show ¬ a<0 by omega,show ¬ b<0 by omega];omega
theorem Ek.ext{w w':World}{v:Value}{n:Int}(h:Ek w v n)(e:Ext w w'):Ek w' v n :=
 let ⟨ad,k,c,h1,h2⟩:=h;⟨ad,k,c,h1,h2.ext e⟩
theorem cW{a b:Int}(h:a=b):Ending.returned (.string (zs a)) = .returned (.string (zs b)):=by rw[h]
theorem vI(a b:Int)(w:World)(g:Gd w)(ha:(zl a).length<=9)(hb:(zl b).length<=9):Calls prog 88 #[.string (zs a),.string (zs b)] w (aR w (.string (zs (a*b)))):=by
 have h1:=bK ha;have h2:=bK hb;have h3:(a*b).natAbs<1000000000*1000000000:=by rw[Int.natAbs_mul];exact Nat.mul_lt_mul'' h1 h2
 have b1:-9223372036854775808<=a*b:=ae;have b2:a*b<=9223372036854775807:=ae;have HA:=aj ha;have HB:=aj hb;clear h1 h2 h3 ha hb;go_enter func88,ntmps88;go_wp2_with (first
  | (go_at_call 167;((with_reducible refine(cx a 9 w (by have:=HA.o;omega) af).mono ?_);rintro e w1 ⟨rfl,e1⟩))
  | (go_at_call 167;refine cto (cx b 9 _ (by have:=HB.o;omega) af) fun w2 e2=>?_)
  | (go_at_call 168;refine cto (yj (a*b) b1 b2 _ (g.ext (e1.trans e2))) fun w3 e3=>?_))
 go_ret;exact⟨rfl,(e1.trans e2).trans e3⟩
theorem AI(a b:Int){k m:Nat}(w:World)(g:Gd w)(ha:IB k a)(hb:IB m b)(hk:k<=9000)(hm:m<=9000)(h:¬ ((zl a).length<=9/\(zl b).length<=9)):Calls prog 88 #[.string (zs a),.string (zs b)] w (aR w (.string (zs (a*b)))):=by
 have la:=ha.len hk;have lb:=hb.len hm;have fa:=(ha.fit hk).fit;have fb:=(hb.fit hm).fit;have HSG:=aj (BU a b);have HA:=aj fa;have HB:=aj fb;have HG:=aj g;clear ha hb fa fb g;by_cases h9:(zl a).length<=9
 ·have h9':¬ (zl b).length<=9:=fun e=>h ⟨h9,e⟩
  have H9:=aj h9;have H9':=aj h9';clear h h9 h9';go_enter func88,ntmps88;go_wp2_with (first
   | (go_at_call 167;((with_reducible refine(cx a 9 w (by have:=H9.o;omega) af).mono ?_);rintro e w1 ⟨rfl,e1⟩))
   | (go_at_call 167;refine cto (dy b 9 _ (by have:=H9'.o;omega)) fun w2 e2=>?_)
   | (go_at_call 169;((with_reducible refine(bC a w2 la).mono ?_);rintro e w3 ⟨va,rfl,e3,ad,na,ca,rfl,ma⟩))
   | (go_at_call 169;refine(bC b w3 lb).mono ?_;rintro e w4 ⟨vb,rfl,e4,bd,nb,cb,rfl,mb⟩))
  have e12:Ext w w2:=e1.trans e2;clear e1 e2;generalize decide (a<0)=sa at HSG ⊢;generalize decide (b<0)=sb at HSG ⊢;obtain⟨W,hW⟩:∃ W,(w4.alloc (.cells #[.bool sa,.slice ad na ca] 216)).alloc (.cells #[.bool sb,.slice bd nb cb] 216)=W:=⟨_,rfl⟩
  have ea:Ext w3 W:=by rw[← hW];exact(e4.alloc _).alloc _
  have eb:Ext w4 W:=by rw[← hW];exact((Ext.refl _).alloc _).alloc _
  have b9:ax W w4.heap.size #[.bool sa,.slice ad na ca] 216:=by rw[← hW];exact(ax.new w4 _ _).alloc _
  have b10:ax W (w4.heap.size+1) #[.bool sb,.slice bd nb cb] 216:=by rw[← hW];have:=ax.new (w4.alloc (.cells #[.bool sa,.slice ad na ca] 216)) #[.bool sb,.slice bd nb cb] 216;simpa using this
  have ew:Ext w W:=(e12.trans e3).trans ea;rw[hW];have HMA:=aj (ma.ext ea);have HMB:=aj (mb.ext eb);have HEW:=aj ew;have c1:=b9.cell 0 (v:=.bool sa) rfl;have c2:=b9.cell 1 (v:=.slice ad na ca) rfl;have c3:=b10.cell 0 (v:=.bool sb) rfl;have c4:=b10.cell 1 (v:=.slice bd nb cb) rfl;clear hW ea eb ma mb e12 e3 e4 ew b9 b10;go_region_held3 (fun w'=>w'.cell? ⟨w4.heap.size,0,none⟩=some (.bool sa)/\w'.cell? ⟨w4.heap.size,1,none⟩=some (.slice ad na ca)/\w'.cell? ⟨w4.heap.size+1,0,none⟩=some (.bool sb)/\w'.cell? ⟨w4.heap.size+1,1,none⟩=some (.slice bd nb cb)) (first|exact⟨c1,c2,c3,c4⟩|exact⟨e5.keeps c1,e5.keeps c2,e5.keeps c3,e5.keeps c4⟩|exact⟨e6.keeps (e5.keeps c1),e6.keeps (e5.keeps c2),e6.keeps (e5.keeps c3),e6.keeps (e5.keeps c4)⟩) (first
   | (go_at_call 170;refine(oZ a.natAbs b.natAbs _ _ _ (HMA.o.ext (Ext.refl _).drew) (HMB.o.ext (Ext.refl _).drew) HA.o HB.o).mono ?_;rintro e w5 ⟨v5,rfl,e5,m5⟩;obtain⟨a5,n5,c5,rfl⟩:=m5.slice)
   | (go_at_call 171;refine cto (cv _ (a.natAbs*b.natAbs) _ _ _ _ m5 (HA.o.DH HB.o) (HG.o.ext ((HEW.o.drew).trans e5))) fun w6 e6=>?_))
  go_wp2;go_ret;exact⟨cW HSG.o,((HEW.o.drew).trans e5).trans e6⟩
 ·have H9:=aj h9;clear h h9;go_enter func88,ntmps88;go_wp2_with (first
   | (go_at_call 167;((with_reducible refine(dy a 9 w (by have:=H9.o;omega)).mono ?_);rintro e w2 ⟨rfl,e12⟩))
   | (go_at_call 169;((with_reducible refine(bC a w2 la).mono ?_);rintro e w3 ⟨va,rfl,e3,ad,na,ca,rfl,ma⟩))
   | (go_at_call 169;refine(bC b w3 lb).mono ?_;rintro e w4 ⟨vb,rfl,e4,bd,nb,cb,rfl,mb⟩))
  generalize decide (a<0)=sa at HSG ⊢;generalize decide (b<0)=sb at HSG ⊢;obtain⟨W,hW⟩:∃ W,(w4.alloc (.cells #[.bool sa,.slice ad na ca] 216)).alloc (.cells #[.bool sb,.slice bd nb cb] 216)=W:=⟨_,rfl⟩
  have ea:Ext w3 W:=by rw[← hW];exact(e4.alloc _).alloc _
  have eb:Ext w4 W:=by rw[← hW];exact((Ext.refl _).alloc _).alloc _
  have b9:ax W w4.heap.size #[.bool sa,.slice ad na ca] 216:=by rw[← hW];exact(ax.new w4 _ _).alloc _
  have b10:ax W (w4.heap.size+1) #[.bool sb,.slice bd nb cb] 216:=by rw[← hW];have:=ax.new (w4.alloc (.cells #[.bool sa,.slice ad na ca] 216)) #[.bool sb,.slice bd nb cb] 216;simpa using this
  have ew:Ext w W:=(e12.trans e3).trans ea;rw[hW];have HMA:=aj (ma.ext ea);have HMB:=aj (mb.ext eb);have HEW:=aj ew;have c1:=b9.cell 0 (v:=.bool sa) rfl;have c2:=b9.cell 1 (v:=.slice ad na ca) rfl;have c3:=b10.cell 0 (v:=.bool sb) rfl;have c4:=b10.cell 1 (v:=.slice bd nb cb) rfl;clear hW ea eb ma mb e12 e3 e4 ew b9 b10;go_region_held3 (fun w'=>w'.cell? ⟨w4.heap.size,0,none⟩=some (.bool sa)/\w'.cell? ⟨w4.heap.size,1,none⟩=some (.slice ad na ca)/\w'.cell? ⟨w4.heap.size+1,0,none⟩=some (.bool sb)/\w'.cell? ⟨w4.heap.size+1,1,none⟩=some (.slice bd nb cb)) (first|exact⟨c1,c2,c3,c4⟩|exact⟨e5.keeps c1,e5.keeps c2,e5.keeps c3,e5.keeps c4⟩|exact⟨e6.keeps (e5.keeps c1),e6.keeps (e5.keeps c2),e6.keeps (e5.keeps c3),e6.keeps (e5.keeps c4)⟩) (first
   | (go_at_call 170;refine(oZ a.natAbs b.natAbs _ _ _ (HMA.o.ext (Ext.refl _).drew) (HMB.o.ext (Ext.refl _).drew) HA.o HB.o).mono ?_;rintro e w5 ⟨v5,rfl,e5,m5⟩;obtain⟨a5,n5,c5,rfl⟩:=m5.slice)
   | (go_at_call 171;refine cto (cv _ (a.natAbs*b.natAbs) _ _ _ _ m5 (HA.o.DH HB.o) (HG.o.ext ((HEW.o.drew).trans e5))) fun w6 e6=>?_))
  go_wp2;go_ret;exact⟨cW HSG.o,((HEW.o.drew).trans e5).trans e6⟩
theorem gd(a b:Int){k m:Nat}(w:World)(g:Gd w)(ha:IB k a)(hb:IB m b)(hk:k<=9000)(hm:m<=9000):Calls prog 88 #[.string (zs a),.string (zs b)] w (aR w (.string (zs (a*b)))):=by
 by_cases h:(zl a).length<=9/\(zl b).length<=9
 ·exact vI a b w g h.1 h.2
 ·exact AI a b w g ha hb hk hm h
theorem wA(a b:Int)(w:World)(g:Gd w)(ha:(zl a).length<=18)(hb:(zl b).length<=18):Calls prog 189 #[.string (zs a),.string (zs b)] w (aR w (.string (zs (a+b)))):=by
 have h1:=bK ha;have h2:=bK hb;have b1:-9223372036854775808<=a+b:=ae;have b2:a+b<=9223372036854775807:=ae;have HA:=aj ha;have HB:=aj hb;clear h1 h2 ha hb;go_enter func189,ntmps189;go_wp2_with (first
  | (go_at_call 167;((with_reducible refine(cx a 18 w (by have:=HA.o;omega) af).mono ?_);rintro e w1 ⟨rfl,e1⟩))
  | (go_at_call 167;refine cto (cx b 18 _ (by have:=HB.o;omega) af) fun w2 e2=>?_)
  | (go_at_call 168;refine cto (yj (a+b) b1 b2 _ (g.ext (e1.trans e2))) fun w3 e3=>?_))
 go_ret;exact⟨rfl,(e1.trans e2).trans e3⟩
theorem xx{a b:Int}(h:decide (a<0)=decide (b<0)):eI (decide (a<0)) (a.natAbs+b.natAbs)=a+b:=by
 have h':a<0 ↔ b<0:=by simpa using h
 by_cases ha:a<0
 ·have:=h'.1 ha;simp[eI,ha];omega
 ·have:¬ b<0:=fun e=>ha (h'.2 e)
  simp[eI,ha];omega
theorem qB{a b:Int}(h:decide (a<0)≠decide (b<0))(hl:b.natAbs<=a.natAbs):eI (decide (a<0)) (a.natAbs-b.natAbs)=a+b:=by
 by_cases ha:a<0
 ·have:¬ b<0:=by intro e;exact h (by simp[ha,e])
  simp[eI,ha];omega
 ·have:b<0:=by
   by_cases hb:b<0
   ·exact hb
   ·exact absurd (by simp[ha,hb]) h
  simp[eI,ha];omega
set_option maxHeartbeats 4000000 in
theorem add_same(a b:Int){k m:Nat}(w:World)(g:Gd w)(ha:IB k a)(hb:IB m b)(hk:k<=9000)(hm:m<=9000)(h:¬ ((zl a).length<=18/\(zl b).length<=18))(HS:Hid ((decide (a<0) == decide (b<0))=true/\eI (decide (a<0)) (a.natAbs+b.natAbs)=a+b)):Calls prog 189 #[.string (zs a),.string (zs b)] w (aR w (.string (zs (a+b)))):=by
 have la:=ha.len hk;have lb:=hb.len hm;have fa:=(ha.fit hk).fit;have fb:=(hb.fit hm).fit;have HA:=aj fa;have HB:=aj fb;have HG:=aj g;clear ha hb fa fb g;by_cases h9:(zl a).length<=18
 ·have h9':¬ (zl b).length<=18:=fun e=>h ⟨h9,e⟩
  have H9:=aj h9;have H9':=aj h9';clear h h9 h9';go_enter func189,ntmps189;go_upto_region 7 with(first
   | (go_at_call 167;((with_reducible refine(cx a 18 w (by have:=H9.o;omega) af).mono ?_);rintro e w1 ⟨rfl,e1⟩))
   | (go_at_call 167;refine cto (dy b 18 _ (by have:=H9'.o;omega)) fun w2 e2=>?_)
   | (go_at_call 169;((with_reducible refine(bC a w2 la).mono ?_);rintro e w3 ⟨va,rfl,e3,ad,na,ca,rfl,ma⟩))
   | (go_at_call 169;refine(bC b w3 lb).mono ?_;rintro e w4 ⟨vb,rfl,e4,bd,nb,cb,rfl,mb⟩))
  have e12:Ext w w2:=e1.trans e2;clear e1 e2;generalize hsa:decide (a<0)=sa at HS ⊢;generalize hsb:decide (b<0)=sb at HS ⊢;clear hsa hsb;obtain⟨W,hW⟩:∃ W,(w4.alloc (.cells #[.bool sa,.slice ad na ca] 216)).alloc (.cells #[.bool sb,.slice bd nb cb] 216)=W:=⟨_,rfl⟩
  have ea:Ext w3 W:=by rw[← hW];exact(e4.alloc _).alloc _
  have eb:Ext w4 W:=by rw[← hW];exact((Ext.refl _).alloc _).alloc _
  have b9:ax W w4.heap.size #[.bool sa,.slice ad na ca] 216:=by rw[← hW];exact(ax.new w4 _ _).alloc _
  have b10:ax W (w4.heap.size+1) #[.bool sb,.slice bd nb cb] 216:=by rw[← hW];have:=ax.new (w4.alloc (.cells #[.bool sa,.slice ad na ca] 216)) #[.bool sb,.slice bd nb cb] 216;simpa using this
  have ew:Ext w W:=(e12.trans e3).trans ea;have hsz:w.heap.size<=w4.heap.size:=((e12.trans e3).trans e4).size;rw[hW];have HMA:=aj (ma.ext ea);have HMB:=aj (mb.ext eb);have HEW:=aj ew;have c1:=b9.cell 0 (v:=.bool sa) rfl;have c2:=b9.cell 1 (v:=.slice ad na ca) rfl;have c3:=b10.cell 0 (v:=.bool sb) rfl;have c4:=b10.cell 1 (v:=.slice bd nb cb) rfl;have hs:=HS.o.1;clear hW ea eb ma mb e12 e3 e4 ew b9 b10 hsz;go_wp2_with fail;go_region_held3 (fun w'=>w'.cell? ⟨w4.heap.size,0,none⟩=some (.bool sa)/\w'.cell? ⟨w4.heap.size,1,none⟩=some (.slice ad na ca)/\w'.cell? ⟨w4.heap.size+1,0,none⟩=some (.bool sb)/\w'.cell? ⟨w4.heap.size+1,1,none⟩=some (.slice bd nb cb)) (first|exact⟨c1,c2,c3,c4⟩|exact⟨e5.keeps c1,e5.keeps c2,e5.keeps c3,e5.keeps c4⟩|exact⟨e6.keeps (e5.keeps c1),e6.keeps (e5.keeps c2),e6.keeps (e5.keeps c3),e6.keeps (e5.keeps c4)⟩) (first
   | (go_at_call 250;refine(sC a.natAbs b.natAbs _ _ _ (HMA.o.ext (Ext.refl _).drew) (HMB.o.ext (Ext.refl _).drew) HA.o HB.o).mono ?_;rintro e w5 ⟨v5,rfl,e5,m5⟩;obtain⟨a5,n5,c5,rfl⟩:=m5.slice)
   | (go_at_call 171;refine cto (cv _ (a.natAbs+b.natAbs) _ _ _ _ m5 (HA.o.Db HB.o) (HG.o.ext ((HEW.o.drew).trans e5))) fun w6 e6=>?_))
  go_wp2;go_ret;exact⟨cW HS.o.2,((HEW.o.drew).trans e5).trans e6⟩
 ·have H9:=aj h9;clear h h9;go_enter func189,ntmps189;go_upto_region 7 with(first
   | (go_at_call 167;((with_reducible refine(dy a 18 w (by have:=H9.o;omega)).mono ?_);rintro e w2 ⟨rfl,e12⟩))
   | (go_at_call 169;((with_reducible refine(bC a w2 la).mono ?_);rintro e w3 ⟨va,rfl,e3,ad,na,ca,rfl,ma⟩))
   | (go_at_call 169;refine(bC b w3 lb).mono ?_;rintro e w4 ⟨vb,rfl,e4,bd,nb,cb,rfl,mb⟩))
  generalize hsa:decide (a<0)=sa at HS ⊢;generalize hsb:decide (b<0)=sb at HS ⊢;clear hsa hsb;obtain⟨W,hW⟩:∃ W,(w4.alloc (.cells #[.bool sa,.slice ad na ca] 216)).alloc (.cells #[.bool sb,.slice bd nb cb] 216)=W:=⟨_,rfl⟩
  have ea:Ext w3 W:=by rw[← hW];exact(e4.alloc _).alloc _
  have eb:Ext w4 W:=by rw[← hW];exact((Ext.refl _).alloc _).alloc _
  have b9:ax W w4.heap.size #[.bool sa,.slice ad na ca] 216:=by rw[← hW];exact(ax.new w4 _ _).alloc _
  have b10:ax W (w4.heap.size+1) #[.bool sb,.slice bd nb cb] 216:=by rw[← hW];have:=ax.new (w4.alloc (.cells #[.bool sa,.slice ad na ca] 216)) #[.bool sb,.slice bd nb cb] 216;simpa using this
  have ew:Ext w W:=(e12.trans e3).trans ea;have hsz:w.heap.size<=w4.heap.size:=((e12.trans e3).trans e4).size;rw[hW];have HMA:=aj (ma.ext ea);have HMB:=aj (mb.ext eb);have HEW:=aj ew;have c1:=b9.cell 0 (v:=.bool sa) rfl;have c2:=b9.cell 1 (v:=.slice ad na ca) rfl;have c3:=b10.cell 0 (v:=.bool sb) rfl;have c4:=b10.cell 1 (v:=.slice bd nb cb) rfl;have hs:=HS.o.1;clear hW ea eb ma mb e12 e3 e4 ew b9 b10 hsz;go_wp2_with fail;go_region_held3 (fun w'=>w'.cell? ⟨w4.heap.size,0,none⟩=some (.bool sa)/\w'.cell? ⟨w4.heap.size,1,none⟩=some (.slice ad na ca)/\w'.cell? ⟨w4.heap.size+1,0,none⟩=some (.bool sb)/\w'.cell? ⟨w4.heap.size+1,1,none⟩=some (.slice bd nb cb)) (first|exact⟨c1,c2,c3,c4⟩|exact⟨e5.keeps c1,e5.keeps c2,e5.keeps c3,e5.keeps c4⟩|exact⟨e6.keeps (e5.keeps c1),e6.keeps (e5.keeps c2),e6.keeps (e5.keeps c3),e6.keeps (e5.keeps c4)⟩) (first
   | (go_at_call 250;refine(sC a.natAbs b.natAbs _ _ _ (HMA.o.ext (Ext.refl _).drew) (HMB.o.ext (Ext.refl _).drew) HA.o HB.o).mono ?_;rintro e w5 ⟨v5,rfl,e5,m5⟩;obtain⟨a5,n5,c5,rfl⟩:=m5.slice)
   | (go_at_call 171;refine cto (cv _ (a.natAbs+b.natAbs) _ _ _ _ m5 (HA.o.Db HB.o) (HG.o.ext ((HEW.o.drew).trans e5))) fun w6 e6=>?_))
  go_wp2;go_ret;exact⟨cW HS.o.2,((HEW.o.drew).trans e5).trans e6⟩
set_option maxHeartbeats 4000000 in
theorem zA(a b:Int){k m:Nat}(w:World)(g:Gd w)(ha:IB k a)(hb:IB m b)(hk:k<=9000)(hm:m<=9000)(h:¬ ((zl a).length<=18/\(zl b).length<=18))(HS:Hid ((decide (a<0) == decide (b<0))=false/\eI (decide (a<0)) (a.natAbs-b.natAbs)=a+b))(HLE:Hid (b.natAbs<=a.natAbs)):Calls prog 189 #[.string (zs a),.string (zs b)] w (aR w (.string (zs (a+b)))):=by
 have la:=ha.len hk;have lb:=hb.len hm;have fa:=(ha.fit hk).fit;have fb:=(hb.fit hm).fit;have HA:=aj fa;have HB:=aj fb;have HG:=aj g;clear ha hb fa fb g;by_cases h9:(zl a).length<=18
 ·have h9':¬ (zl b).length<=18:=fun e=>h ⟨h9,e⟩
  have H9:=aj h9;have H9':=aj h9';clear h h9 h9';go_enter func189,ntmps189;go_upto_region 7 with(first
   | (go_at_call 167;((with_reducible refine(cx a 18 w (by have:=H9.o;omega) af).mono ?_);rintro e w1 ⟨rfl,e1⟩))
   | (go_at_call 167;refine cto (dy b 18 _ (by have:=H9'.o;omega)) fun w2 e2=>?_)
   | (go_at_call 169;((with_reducible refine(bC a w2 la).mono ?_);rintro e w3 ⟨va,rfl,e3,ad,na,ca,rfl,ma⟩))
   | (go_at_call 169;refine(bC b w3 lb).mono ?_;rintro e w4 ⟨vb,rfl,e4,bd,nb,cb,rfl,mb⟩))
  have e12:Ext w w2:=e1.trans e2;clear e1 e2;generalize hsa:decide (a<0)=sa at HS ⊢;generalize hsb:decide (b<0)=sb at HS ⊢;clear hsa hsb;obtain⟨W,hW⟩:∃ W,(w4.alloc (.cells #[.bool sa,.slice ad na ca] 216)).alloc (.cells #[.bool sb,.slice bd nb cb] 216)=W:=⟨_,rfl⟩
  have ea:Ext w3 W:=by rw[← hW];exact(e4.alloc _).alloc _
  have eb:Ext w4 W:=by rw[← hW];exact((Ext.refl _).alloc _).alloc _
  have b9:ax W w4.heap.size #[.bool sa,.slice ad na ca] 216:=by rw[← hW];exact(ax.new w4 _ _).alloc _
  have b10:ax W (w4.heap.size+1) #[.bool sb,.slice bd nb cb] 216:=by rw[← hW];have:=ax.new (w4.alloc (.cells #[.bool sa,.slice ad na ca] 216)) #[.bool sb,.slice bd nb cb] 216;simpa using this
  have ew:Ext w W:=(e12.trans e3).trans ea;have hsz:w.heap.size<=w4.heap.size:=((e12.trans e3).trans e4).size;rw[hW];have hs:=HS.o.1;have c1':=b9.cell 0 (v:=.bool sa) rfl;have c2':=b9.cell 1 (v:=.slice ad na ca) rfl;have c3':=b10.cell 0 (v:=.bool sb) rfl;have c4':=b10.cell 1 (v:=.slice bd nb cb) rfl;have hord:=dj a.natAbs b.natAbs (.slice ad na ca) (.slice bd nb cb) W (ma.ext ea) (mb.ext eb);obtain⟨o,ho⟩:∃ o,o=fR a.natAbs b.natAbs:=⟨_,rfl⟩
  rw[← ho] at hord;have ho1:0<=o:=by rw[ho];exact jP HLE.o
  have ho2:¬ o<0:=ae;have HMa:=aj (ma.ext ea);have HMb:=aj (mb.ext eb);have HEW0:=aj ew;have HB9:=aj b9;have HB10:=aj b10;clear hW ea eb ma mb e12 e3 e4 ew b9 b10 ho;go_upto_region 11 with(go_at_call 251;refine hord.mono ?_;rintro e w7 ⟨rfl,e7⟩;have c1:=e7.keeps c1';have c2:=e7.keeps c2';have c3:=e7.keeps c3';have c4:=e7.keeps c4')
  have HM1:=aj (HMa.o.ext e7);have HM2:=aj (HMb.o.ext e7);have HEW:=aj (HEW0.o.trans e7);have b9:=HB9.o.ext e7;have b10:=HB10.o.ext e7;clear c1 c2 c3 c4 c1' c2' c3' c4' hord e7;have c1:=b9.cell 0 (v:=.bool sa) rfl;have c2:=b9.cell 1 (v:=.slice ad na ca) rfl;have c3:=b10.cell 0 (v:=.bool sb) rfl;have c4:=b10.cell 1 (v:=.slice bd nb cb) rfl;clear b9 b10;go_wp2_with fail;go_region_held3 (fun w'=>w'.cell? ⟨w4.heap.size,0,none⟩=some (.bool sa)/\w'.cell? ⟨w4.heap.size,1,none⟩=some (.slice ad na ca)/\w'.cell? ⟨w4.heap.size+1,0,none⟩=some (.bool sb)/\w'.cell? ⟨w4.heap.size+1,1,none⟩=some (.slice bd nb cb)) (first|exact⟨c1,c2,c3,c4⟩|exact⟨e5.keeps c1,e5.keeps c2,e5.keeps c3,e5.keeps c4⟩|exact⟨e6.keeps (e5.keeps c1),e6.keeps (e5.keeps c2),e6.keeps (e5.keeps c3),e6.keeps (e5.keeps c4)⟩) (first
   | (go_at_call 252;refine(gS a.natAbs b.natAbs _ _ _ (HM1.o.ext (Ext.refl _).drew) (HM2.o.ext (Ext.refl _).drew) HA.o HLE.o).mono ?_;rintro e w5 ⟨v5,rfl,e5,m5⟩;obtain⟨a5,n5,c5,rfl⟩:=m5.slice)
   | (go_at_call 171;refine cto (cv _ (a.natAbs-b.natAbs) _ _ _ _ m5 (Fit.mW (HA.o.mono (Nat.sub_le _ _))) (HG.o.ext ((HEW.o.drew).trans e5))) fun w6 e6=>?_))
  go_wp2;go_ret;exact⟨cW HS.o.2,((HEW.o.drew).trans e5).trans e6⟩
 ·have H9:=aj h9;clear h h9;go_enter func189,ntmps189;go_upto_region 7 with(first
   | (go_at_call 167;((with_reducible refine(dy a 18 w (by have:=H9.o;omega)).mono ?_);rintro e w2 ⟨rfl,e12⟩))
   | (go_at_call 169;((with_reducible refine(bC a w2 la).mono ?_);rintro e w3 ⟨va,rfl,e3,ad,na,ca,rfl,ma⟩))
   | (go_at_call 169;refine(bC b w3 lb).mono ?_;rintro e w4 ⟨vb,rfl,e4,bd,nb,cb,rfl,mb⟩))
  generalize hsa:decide (a<0)=sa at HS ⊢;generalize hsb:decide (b<0)=sb at HS ⊢;clear hsa hsb;obtain⟨W,hW⟩:∃ W,(w4.alloc (.cells #[.bool sa,.slice ad na ca] 216)).alloc (.cells #[.bool sb,.slice bd nb cb] 216)=W:=⟨_,rfl⟩
  have ea:Ext w3 W:=by rw[← hW];exact(e4.alloc _).alloc _
  have eb:Ext w4 W:=by rw[← hW];exact((Ext.refl _).alloc _).alloc _
  have b9:ax W w4.heap.size #[.bool sa,.slice ad na ca] 216:=by rw[← hW];exact(ax.new w4 _ _).alloc _
  have b10:ax W (w4.heap.size+1) #[.bool sb,.slice bd nb cb] 216:=by rw[← hW];have:=ax.new (w4.alloc (.cells #[.bool sa,.slice ad na ca] 216)) #[.bool sb,.slice bd nb cb] 216;simpa using this
  have ew:Ext w W:=(e12.trans e3).trans ea;have hsz:w.heap.size<=w4.heap.size:=((e12.trans e3).trans e4).size;rw[hW];have hs:=HS.o.1;have c1':=b9.cell 0 (v:=.bool sa) rfl;have c2':=b9.cell 1 (v:=.slice ad na ca) rfl;have c3':=b10.cell 0 (v:=.bool sb) rfl;have c4':=b10.cell 1 (v:=.slice bd nb cb) rfl;have hord:=dj a.natAbs b.natAbs (.slice ad na ca) (.slice bd nb cb) W (ma.ext ea) (mb.ext eb);obtain⟨o,ho⟩:∃ o,o=fR a.natAbs b.natAbs:=⟨_,rfl⟩
  rw[← ho] at hord;have ho1:0<=o:=by rw[ho];exact jP HLE.o
  have ho2:¬ o<0:=ae;have HMa:=aj (ma.ext ea);have HMb:=aj (mb.ext eb);have HEW0:=aj ew;have HB9:=aj b9;have HB10:=aj b10;clear hW ea eb ma mb e12 e3 e4 ew b9 b10 ho;go_upto_region 11 with(go_at_call 251;refine hord.mono ?_;rintro e w7 ⟨rfl,e7⟩;have c1:=e7.keeps c1';have c2:=e7.keeps c2';have c3:=e7.keeps c3';have c4:=e7.keeps c4')
  have HM1:=aj (HMa.o.ext e7);have HM2:=aj (HMb.o.ext e7);have HEW:=aj (HEW0.o.trans e7);have b9:=HB9.o.ext e7;have b10:=HB10.o.ext e7;clear c1 c2 c3 c4 c1' c2' c3' c4' hord e7;have c1:=b9.cell 0 (v:=.bool sa) rfl;have c2:=b9.cell 1 (v:=.slice ad na ca) rfl;have c3:=b10.cell 0 (v:=.bool sb) rfl;have c4:=b10.cell 1 (v:=.slice bd nb cb) rfl;clear b9 b10;go_wp2_with fail;go_region_held3 (fun w'=>w'.cell? ⟨w4.heap.size,0,none⟩=some (.bool sa)/\w'.cell? ⟨w4.heap.size,1,none⟩=some (.slice ad na ca)/\w'.cell? ⟨w4.heap.size+1,0,none⟩=some (.bool sb)/\w'.cell? ⟨w4.heap.size+1,1,none⟩=some (.slice bd nb cb)) (first|exact⟨c1,c2,c3,c4⟩|exact⟨e5.keeps c1,e5.keeps c2,e5.keeps c3,e5.keeps c4⟩|exact⟨e6.keeps (e5.keeps c1),e6.keeps (e5.keeps c2),e6.keeps (e5.keeps c3),e6.keeps (e5.keeps c4)⟩) (first
   | (go_at_call 252;refine(gS a.natAbs b.natAbs _ _ _ (HM1.o.ext (Ext.refl _).drew) (HM2.o.ext (Ext.refl _).drew) HA.o HLE.o).mono ?_;rintro e w5 ⟨v5,rfl,e5,m5⟩;obtain⟨a5,n5,c5,rfl⟩:=m5.slice)
   | (go_at_call 171;refine cto (cv _ (a.natAbs-b.natAbs) _ _ _ _ m5 (Fit.mW (HA.o.mono (Nat.sub_le _ _))) (HG.o.ext ((HEW.o.drew).trans e5))) fun w6 e6=>?_))
  go_wp2;go_ret;exact⟨cW HS.o.2,((HEW.o.drew).trans e5).trans e6⟩
set_option maxHeartbeats 4000000 in
theorem zy(a b:Int){k m:Nat}(w:World)(g:Gd w)(ha:IB k a)(hb:IB m b)(hk:k<=9000)(hm:m<=9000)(h:¬ ((zl a).length<=18/\(zl b).length<=18))(HS:Hid ((decide (a<0) == decide (b<0))=false/\eI (decide (b<0)) (b.natAbs-a.natAbs)=a+b))(HLT:Hid (a.natAbs<b.natAbs))(HLE:Hid (a.natAbs<=b.natAbs)):Calls prog 189 #[.string (zs a),.string (zs b)] w (aR w (.string (zs (a+b)))):=by
 have la:=ha.len hk;have lb:=hb.len hm;have fa:=(ha.fit hk).fit;have fb:=(hb.fit hm).fit;have HA:=aj fa;have HB:=aj fb;have HG:=aj g;clear ha hb fa fb g;by_cases h9:(zl a).length<=18
 ·have h9':¬ (zl b).length<=18:=fun e=>h ⟨h9,e⟩
  have H9:=aj h9;have H9':=aj h9';clear h h9 h9';go_enter func189,ntmps189;go_upto_region 7 with(first
   | (go_at_call 167;((with_reducible refine(cx a 18 w (by have:=H9.o;omega) af).mono ?_);rintro e w1 ⟨rfl,e1⟩))
   | (go_at_call 167;refine cto (dy b 18 _ (by have:=H9'.o;omega)) fun w2 e2=>?_)
   | (go_at_call 169;((with_reducible refine(bC a w2 la).mono ?_);rintro e w3 ⟨va,rfl,e3,ad,na,ca,rfl,ma⟩))
   | (go_at_call 169;refine(bC b w3 lb).mono ?_;rintro e w4 ⟨vb,rfl,e4,bd,nb,cb,rfl,mb⟩))
  have e12:Ext w w2:=e1.trans e2;clear e1 e2;generalize hsa:decide (a<0)=sa at HS ⊢;generalize hsb:decide (b<0)=sb at HS ⊢;clear hsa hsb;obtain⟨W,hW⟩:∃ W,(w4.alloc (.cells #[.bool sa,.slice ad na ca] 216)).alloc (.cells #[.bool sb,.slice bd nb cb] 216)=W:=⟨_,rfl⟩
  have ea:Ext w3 W:=by rw[← hW];exact(e4.alloc _).alloc _
  have eb:Ext w4 W:=by rw[← hW];exact((Ext.refl _).alloc _).alloc _
  have b9:ax W w4.heap.size #[.bool sa,.slice ad na ca] 216:=by rw[← hW];exact(ax.new w4 _ _).alloc _
  have b10:ax W (w4.heap.size+1) #[.bool sb,.slice bd nb cb] 216:=by rw[← hW];have:=ax.new (w4.alloc (.cells #[.bool sa,.slice ad na ca] 216)) #[.bool sb,.slice bd nb cb] 216;simpa using this
  have ew:Ext w W:=(e12.trans e3).trans ea;have hsz:w.heap.size<=w4.heap.size:=((e12.trans e3).trans e4).size;rw[hW];have hs:=HS.o.1;have c1':=b9.cell 0 (v:=.bool sa) rfl;have c2':=b9.cell 1 (v:=.slice ad na ca) rfl;have c3':=b10.cell 0 (v:=.bool sb) rfl;have c4':=b10.cell 1 (v:=.slice bd nb cb) rfl;have hord:=dj a.natAbs b.natAbs (.slice ad na ca) (.slice bd nb cb) W (ma.ext ea) (mb.ext eb);rw[iS HLT.o] at hord;have HMa:=aj (ma.ext ea);have HMb:=aj (mb.ext eb);have HEW0:=aj ew;have HB9:=aj b9;have HB10:=aj b10;have HMa4:=aj (ma.ext e4);have HMb4:=aj mb;have HE4:=aj eb;have HE0:=aj ((e12.trans e3).trans e4);clear hW ea eb ma mb e12 e3 e4 ew b9 b10;go_upto_region 11 with(go_at_call 251;refine hord.mono ?_;rintro e w7 ⟨rfl,e7⟩;have c1:=e7.keeps c1';have c2:=e7.keeps c2';have c3:=e7.keeps c3';have c4:=e7.keeps c4';have f9:=(HB9.o.ext e7).free 0;have f9':=(HB9.o.ext e7).free 1;have f10:=(HB10.o.ext e7).free 0;have f10':=(HB10.o.ext e7).free 1)
  obtain⟨W8,hW8⟩:∃ W8,((((w7.setCell ⟨w4.heap.size,0,none⟩ (.bool sb)).setCell ⟨w4.heap.size,1,none⟩ (.slice bd nb cb)).setCell ⟨w4.heap.size+1,0,none⟩ (.bool sa)).setCell ⟨w4.heap.size+1,1,none⟩ (.slice ad na ca))=W8:=⟨_,rfl⟩
  have e8:Ext w4 W8:=by rw[← hW8];exact((((HE4.o.trans e7).setCell (Nat.le_refl _) _).setCell (Nat.le_refl _) _).setCell (Nat.le_succ _) _).setCell (Nat.le_succ _) _
  have b9:ax W8 w4.heap.size #[.bool sb,.slice bd nb cb] 216:=by
   rw[← hW8];exact((((HB9.o.ext e7).set 0 (.bool sb)).set 1 (.slice bd nb cb)).other _ (by simp)).other _ (by simp)
  have b10:ax W8 (w4.heap.size+1) #[.bool sa,.slice ad na ca] 216:=by
   rw[← hW8];exact((((HB10.o.ext e7).other _ (by simp)).other _ (by simp)).set 0 (.bool sa)).set 1 (.slice ad na ca)
  rw[hW8];have HM1:=aj (HMb4.o.ext e8);have HM2:=aj (HMa4.o.ext e8);have HEW:=aj (HE0.o.trans e8);clear c1 c2 c3 c4 c1' c2' c3' c4' f9 f9' f10 f10' hord e7 e8 hW8;have c1:=b9.cell 0 (v:=.bool sb) rfl;have c2:=b9.cell 1 (v:=.slice bd nb cb) rfl;have c3:=b10.cell 0 (v:=.bool sa) rfl;have c4:=b10.cell 1 (v:=.slice ad na ca) rfl;clear b9 b10;go_wp2_with fail;go_region_held3 (fun w'=>w'.cell? ⟨w4.heap.size,0,none⟩=some (.bool sb)/\w'.cell? ⟨w4.heap.size,1,none⟩=some (.slice bd nb cb)/\w'.cell? ⟨w4.heap.size+1,0,none⟩=some (.bool sa)/\w'.cell? ⟨w4.heap.size+1,1,none⟩=some (.slice ad na ca)) (first|exact⟨c1,c2,c3,c4⟩|exact⟨e5.keeps c1,e5.keeps c2,e5.keeps c3,e5.keeps c4⟩|exact⟨e6.keeps (e5.keeps c1),e6.keeps (e5.keeps c2),e6.keeps (e5.keeps c3),e6.keeps (e5.keeps c4)⟩) (first
   | (go_at_call 252;refine(gS b.natAbs a.natAbs _ _ _ (HM1.o.ext (Ext.refl _).drew) (HM2.o.ext (Ext.refl _).drew) HB.o HLE.o).mono ?_;rintro e w5 ⟨v5,rfl,e5,m5⟩;obtain⟨a5,n5,c5,rfl⟩:=m5.slice)
   | (go_at_call 171;refine cto (cv _ (b.natAbs-a.natAbs) _ _ _ _ m5 (Fit.mW (HB.o.mono (Nat.sub_le _ _))) (HG.o.ext ((HEW.o.drew).trans e5))) fun w6 e6=>?_))
  go_wp2;go_ret;exact⟨cW HS.o.2,((HEW.o.drew).trans e5).trans e6⟩
 ·have H9:=aj h9;clear h h9;go_enter func189,ntmps189;go_upto_region 7 with(first
   | (go_at_call 167;((with_reducible refine(dy a 18 w (by have:=H9.o;omega)).mono ?_);rintro e w2 ⟨rfl,e12⟩))
   | (go_at_call 169;((with_reducible refine(bC a w2 la).mono ?_);rintro e w3 ⟨va,rfl,e3,ad,na,ca,rfl,ma⟩))
   | (go_at_call 169;refine(bC b w3 lb).mono ?_;rintro e w4 ⟨vb,rfl,e4,bd,nb,cb,rfl,mb⟩))
  generalize hsa:decide (a<0)=sa at HS ⊢;generalize hsb:decide (b<0)=sb at HS ⊢;clear hsa hsb;obtain⟨W,hW⟩:∃ W,(w4.alloc (.cells #[.bool sa,.slice ad na ca] 216)).alloc (.cells #[.bool sb,.slice bd nb cb] 216)=W:=⟨_,rfl⟩
  have ea:Ext w3 W:=by rw[← hW];exact(e4.alloc _).alloc _
  have eb:Ext w4 W:=by rw[← hW];exact((Ext.refl _).alloc _).alloc _
  have b9:ax W w4.heap.size #[.bool sa,.slice ad na ca] 216:=by rw[← hW];exact(ax.new w4 _ _).alloc _
  have b10:ax W (w4.heap.size+1) #[.bool sb,.slice bd nb cb] 216:=by rw[← hW];have:=ax.new (w4.alloc (.cells #[.bool sa,.slice ad na ca] 216)) #[.bool sb,.slice bd nb cb] 216;simpa using this
  have ew:Ext w W:=(e12.trans e3).trans ea;have hsz:w.heap.size<=w4.heap.size:=((e12.trans e3).trans e4).size;rw[hW];have hs:=HS.o.1;have c1':=b9.cell 0 (v:=.bool sa) rfl;have c2':=b9.cell 1 (v:=.slice ad na ca) rfl;have c3':=b10.cell 0 (v:=.bool sb) rfl;have c4':=b10.cell 1 (v:=.slice bd nb cb) rfl;have hord:=dj a.natAbs b.natAbs (.slice ad na ca) (.slice bd nb cb) W (ma.ext ea) (mb.ext eb);rw[iS HLT.o] at hord;have HMa:=aj (ma.ext ea);have HMb:=aj (mb.ext eb);have HEW0:=aj ew;have HB9:=aj b9;have HB10:=aj b10;have HMa4:=aj (ma.ext e4);have HMb4:=aj mb;have HE4:=aj eb;have HE0:=aj ((e12.trans e3).trans e4);clear hW ea eb ma mb e12 e3 e4 ew b9 b10;go_upto_region 11 with(go_at_call 251;refine hord.mono ?_;rintro e w7 ⟨rfl,e7⟩;have c1:=e7.keeps c1';have c2:=e7.keeps c2';have c3:=e7.keeps c3';have c4:=e7.keeps c4';have f9:=(HB9.o.ext e7).free 0;have f9':=(HB9.o.ext e7).free 1;have f10:=(HB10.o.ext e7).free 0;have f10':=(HB10.o.ext e7).free 1)
  obtain⟨W8,hW8⟩:∃ W8,((((w7.setCell ⟨w4.heap.size,0,none⟩ (.bool sb)).setCell ⟨w4.heap.size,1,none⟩ (.slice bd nb cb)).setCell ⟨w4.heap.size+1,0,none⟩ (.bool sa)).setCell ⟨w4.heap.size+1,1,none⟩ (.slice ad na ca))=W8:=⟨_,rfl⟩
  have e8:Ext w4 W8:=by rw[← hW8];exact((((HE4.o.trans e7).setCell (Nat.le_refl _) _).setCell (Nat.le_refl _) _).setCell (Nat.le_succ _) _).setCell (Nat.le_succ _) _
  have b9:ax W8 w4.heap.size #[.bool sb,.slice bd nb cb] 216:=by
   rw[← hW8];exact((((HB9.o.ext e7).set 0 (.bool sb)).set 1 (.slice bd nb cb)).other _ (by simp)).other _ (by simp)
  have b10:ax W8 (w4.heap.size+1) #[.bool sa,.slice ad na ca] 216:=by
   rw[← hW8];exact((((HB10.o.ext e7).other _ (by simp)).other _ (by simp)).set 0 (.bool sa)).set 1 (.slice ad na ca)
  rw[hW8];have HM1:=aj (HMb4.o.ext e8);have HM2:=aj (HMa4.o.ext e8);have HEW:=aj (HE0.o.trans e8);clear c1 c2 c3 c4 c1' c2' c3' c4' f9 f9' f10 f10' hord e7 e8 hW8;have c1:=b9.cell 0 (v:=.bool sb) rfl;have c2:=b9.cell 1 (v:=.slice bd nb cb) rfl;have c3:=b10.cell 0 (v:=.bool sa) rfl;have c4:=b10.cell 1 (v:=.slice ad na ca) rfl;clear b9 b10;go_wp2_with fail;go_region_held3 (fun w'=>w'.cell? ⟨w4.heap.size,0,none⟩=some (.bool sb)/\w'.cell? ⟨w4.heap.size,1,none⟩=some (.slice bd nb cb)/\w'.cell? ⟨w4.heap.size+1,0,none⟩=some (.bool sa)/\w'.cell? ⟨w4.heap.size+1,1,none⟩=some (.slice ad na ca)) (first|exact⟨c1,c2,c3,c4⟩|exact⟨e5.keeps c1,e5.keeps c2,e5.keeps c3,e5.keeps c4⟩|exact⟨e6.keeps (e5.keeps c1),e6.keeps (e5.keeps c2),e6.keeps (e5.keeps c3),e6.keeps (e5.keeps c4)⟩) (first
   | (go_at_call 252;refine(gS b.natAbs a.natAbs _ _ _ (HM1.o.ext (Ext.refl _).drew) (HM2.o.ext (Ext.refl _).drew) HB.o HLE.o).mono ?_;rintro e w5 ⟨v5,rfl,e5,m5⟩;obtain⟨a5,n5,c5,rfl⟩:=m5.slice)
   | (go_at_call 171;refine cto (cv _ (b.natAbs-a.natAbs) _ _ _ _ m5 (Fit.mW (HB.o.mono (Nat.sub_le _ _))) (HG.o.ext ((HEW.o.drew).trans e5))) fun w6 e6=>?_))
  go_wp2;go_ret;exact⟨cW HS.o.2,((HEW.o.drew).trans e5).trans e6⟩
theorem BD(a b:Int){k m:Nat}(w:World)(g:Gd w)(ha:IB k a)(hb:IB m b)(hk:k<=9000)(hm:m<=9000):Calls prog 189 #[.string (zs a),.string (zs b)] w (aR w (.string (zs (a+b)))):=by
 by_cases h:(zl a).length<=18/\(zl b).length<=18
 ·exact wA a b w g h.1 h.2
 ·by_cases hs:decide (a<0)=decide (b<0)
  ·exact add_same a b w g ha hb hk hm h (aj ⟨by simpa using hs,xx hs⟩)
  ·by_cases hl:b.natAbs<=a.natAbs
   ·exact zA a b w g ha hb hk hm h (aj ⟨by simpa using hs,qB hs hl⟩) (aj hl)
   ·exact zy a b w g ha hb hk hm h (aj ⟨by simpa using hs,by rw[Int.add_comm];exact qB (fun e=>hs e.symm) ae⟩) (aj ae) (aj ae)
theorem cz.cF{w:World}{ad:Option Addr}{n c N:Nat}(h:cz w (.slice ad n c) N):n=0 ↔ N=0:=by
 obtain⟨l,⟨ad',cap,b,off,hv,_⟩,hc,hm⟩:=h;simp only[Value.slice.injEq] at hv;rw[hv.2.1];constructor
 ·intro e;have:l=[]:=List.length_eq_zero_iff.1 e;subst this;exact hm.symm
 ·intro e;rw[hc.eN af (by rw[hm,e])];rfl
theorem iW(a b:Int)(hb:b≠0)(h:0<=a∨a.natAbs % b.natAbs=0):eI (!(decide (a<0) == decide (b<0))) (a.natAbs / b.natAbs)=a / b/\eI false (a.natAbs % b.natAbs)=a % b:=by
 have hq:∀ (x y:Nat),eI false (x % y)=(x:Int) % (y:Int):=fun x y=>by simp[eI]
 rcases Int.lt_or_le a 0 with ha|ha
 ·have h0:a.natAbs % b.natAbs=0:=by
   rcases h with h|h
   ·omega
   ·exact h
  have hd:b∣a:=by rw[← Int.natAbs_dvd_natAbs];exact Nat.dvd_of_mod_eq_zero h0
  obtain⟨c,rfl⟩:=hd;refine⟨?_,by rw[h0,Int.mul_emod_right];rfl⟩;rw[Int.mul_ediv_cancel_left _ hb,Int.natAbs_mul,Nat.mul_div_cancel_left _ ae];rcases Int.lt_or_le b 0 with hb'|hb'
  ·have hc:0<c:=by
    rcases Int.lt_or_le 0 c with h|h
    ·exact h
    ·have:=Int.mul_nonneg_of_nonpos_of_nonpos (Int.le_of_lt hb') h;omega
   simp[eI,ha,hb'];omega
  ·have hc:c<0:=by
    rcases Int.lt_or_le c 0 with h|h
    ·exact h
    ·have:=Int.mul_nonneg hb' h;omega
   simp[eI,ha,show ¬ b<0 by omega];omega
 ·obtain⟨n,rfl⟩:=Int.eq_ofNat_of_zero_le ha;rcases Int.lt_or_le b 0 with hb'|hb'
  ·obtain⟨m,rfl⟩:∃ m:Nat,b=-(m:Int):=⟨b.natAbs,ae⟩
   simp[eI,show ¬ ((n:Int)<0) by omega];intro e;exact absurd e ae
  ·obtain⟨m,rfl⟩:=Int.eq_ofNat_of_zero_le hb';simp[eI,show ¬ ((n:Int)<0) by omega,show ¬ ((m:Int)<0) by omega]
theorem oG(a b:Int)(hb:b≠0)(ha:a<0)(h:a.natAbs % b.natAbs≠0):eI (!(decide (a<0) == decide (b<0))) (a.natAbs / b.natAbs+1)=a / b/\eI false (b.natAbs-a.natAbs % b.natAbs)=a % b:=by
 have hbn:0<b.natAbs:=ae;have hlt:=Nat.mod_lt a.natAbs hbn;have hdm:=Nat.div_add_mod a.natAbs b.natAbs;have key:∀ q r:Int,a=b*q+r->0<=r->r<b.natAbs->q=a / b/\r=a % b:=fun q r e h0 h1=>by
  rcases Int.lt_or_lt_of_ne hb with hb'|hb'
  ·have:=(Int.ediv_emod_unique' (a:=a) (b:=b) (r:=r) (q:=q) hb').2 ⟨by rw[e,Int.add_comm],h0,ae⟩;exact⟨this.1.symm,this.2.symm⟩
  ·have:=(Int.ediv_emod_unique (a:=a) (b:=b) (r:=r) (q:=q) hb').2 ⟨by rw[e,Int.add_comm],h0,ae⟩;exact⟨this.1.symm,this.2.symm⟩
 have e2:eI false (b.natAbs-a.natAbs % b.natAbs)=((b.natAbs-a.natAbs % b.natAbs:Nat):Int):=rfl;rw[e2];generalize hQ:a.natAbs / b.natAbs=Q at *;generalize hR:a.natAbs % b.natAbs=R at *;refine key _ _ ?_ ae ae;have e3:(a.natAbs:Int)=(b.natAbs:Int)*Q+R:=by rw[← Int.natCast_mul];omega
 rcases Int.lt_or_le b 0 with hb'|hb'
 ·have:(b.natAbs:Int)=-b:=ae;rw[this] at e3;simp[eI,ha,hb'];rw[Int.neg_mul] at e3;rw[Int.mul_add,Int.mul_one];omega
 ·have:(b.natAbs:Int)=b:=ae;rw[this] at e3;simp[eI,ha,show ¬ b<0 by omega];rw[Int.mul_neg,Int.mul_add,Int.mul_one];omega
theorem sf{a b c d:Int}(h:a=b)(k:c=d):Ending.returned (.tuple #[.string (zs a),.string (zs c),.int .i64 0]) = .returned (.tuple #[.string (zs b),.string (zs d),.int .i64 0]):=by rw[h,k]
set_option maxHeartbeats 4000000 in
theorem s8(a b:Int){k m:Nat}(w:World)(g:Gd w)(ha:IB k a)(hb:IB m b)(hk:k<=9000)(hm:m<=9000)(hb0:b≠0)(HSA:Hid (decide (a<0)=false))(HS:Hid (eI (!(decide (a<0) == decide (b<0))) (a.natAbs / b.natAbs)=a / b/\eI false (a.natAbs % b.natAbs)=a % b)):Calls prog 228 #[.string (zs a),.string (zs b)] w (aR w (.tuple #[.string (zs (a / b)),.string (zs (a % b)),.int .i64 0])):=by
 have la:=ha.len hk;have lb:=hb.len hm;have fa:=ha.fit hk;have fb:=(hb.fit hm).fit;have hbn:0<b.natAbs:=ae;have HA:=aj fa;have HB:=aj fb;have HG:=aj g;have HBN:=aj hbn;have hz:=iK hb0;clear ha hb fa fb g hb0 hbn;go_enter func228,ntmps228;go_upto_region 4 with(first
     | (go_at_call 169;((with_reducible refine(bC a w la).mono ?_);rintro e w3 ⟨va,rfl,e3,ad,na,ca,rfl,ma⟩))
     | (go_at_call 169;refine(bC b w3 lb).mono ?_;rintro e w4 ⟨vb,rfl,e4,bd,nb,cb,rfl,mb⟩))
 generalize hsa:decide (a<0)=sa at HS HSA ⊢;generalize hsb:decide (b<0)=sb at HS ⊢;clear hsa hsb;obtain⟨W,hW⟩:∃ W,(w4.alloc (.cells #[.bool sa,.slice ad na ca] 216)).alloc (.cells #[.bool sb,.slice bd nb cb] 216)=W:=⟨_,rfl⟩
 have ea:Ext w3 W:=by rw[← hW];exact(e4.alloc _).alloc _
 have eb:Ext w4 W:=by rw[← hW];exact((Ext.refl _).alloc _).alloc _
 have b9:ax W w4.heap.size #[.bool sa,.slice ad na ca] 216:=by rw[← hW];exact(ax.new w4 _ _).alloc _
 have b10:ax W (w4.heap.size+1) #[.bool sb,.slice bd nb cb] 216:=by rw[← hW];have:=ax.new (w4.alloc (.cells #[.bool sa,.slice ad na ca] 216)) #[.bool sb,.slice bd nb cb] 216;simpa using this
 have ew:Ext w W:=e3.trans ea;rw[hW];have HMA:=aj (ma.ext ea);have HMB:=aj (mb.ext eb);have HEW:=aj ew;have c1':=b9.cell 0 (v:=.bool sa) rfl;have c2':=b9.cell 1 (v:=.slice ad na ca) rfl;have c3':=b10.cell 0 (v:=.bool sb) rfl;have c4':=b10.cell 1 (v:=.slice bd nb cb) rfl;clear hW ea eb ma mb e3 e4 ew b9 b10;go_upto_region 5 with(go_at_call 246;refine(iF a.natAbs b.natAbs _ _ W HMA.o HMB.o HBN.o HA.o).mono ?_;rintro e w5 ⟨vq,vr,rfl,e5,mq,mr⟩;obtain⟨qa,ql,qc,rfl⟩:=mq.slice;obtain⟨ra,rl,rc,rfl⟩:=mr.slice;have c1:=e5.keeps c1';have c2:=e5.keeps c2';have c3:=e5.keeps c3';have c4:=e5.keeps c4')
 have HQ:=aj mq;have HR:=aj mr;have hrl:=mr.cF;have E5:=aj (HEW.o.trans e5);clear c1' c2' c3' c4' mq mr;have hsa:=HSA.o;subst hsa;clear hrl;go_wp2_with (first
     | (go_at_call 171;((with_reducible refine(cv _ (a.natAbs / b.natAbs) _ _ _ _ HQ.o (Fit.mW (HA.o.fit.mono (Nat.div_le_self _ _))) (HG.o.ext E5.out)).mono ?_);rintro e w8 ⟨rfl,e8⟩;have c1:=e8.keeps c1;have c2:=e8.keeps c2;have c3:=e8.keeps c3;have c4:=e8.keeps c4))
     | (go_at_call 171;refine cto (cv false (a.natAbs % b.natAbs) _ _ _ _ (HR.o.ext e8) (Fit.mW (HA.o.fit.mono (Nat.mod_le _ _))) (HG.o.ext (E5.out.trans e8))) fun w9 e9=>?_))
 go_ret3;exact⟨sf (by have:=HS.o.1;revert this;cases sb <;> exact id) HS.o.2,(E5.out.trans e8).trans e9⟩
set_option maxHeartbeats 4000000 in
theorem rA(a b:Int){k m:Nat}(w:World)(g:Gd w)(ha:IB k a)(hb:IB m b)(hk:k<=9000)(hm:m<=9000)(hb0:b≠0)(HSA:Hid (decide (a<0)=true))(HM0:Hid (a.natAbs % b.natAbs=0))(HS:Hid (eI (!(decide (a<0) == decide (b<0))) (a.natAbs / b.natAbs)=a / b/\eI false (a.natAbs % b.natAbs)=a % b)):Calls prog 228 #[.string (zs a),.string (zs b)] w (aR w (.tuple #[.string (zs (a / b)),.string (zs (a % b)),.int .i64 0])):=by
 have la:=ha.len hk;have lb:=hb.len hm;have fa:=ha.fit hk;have fb:=(hb.fit hm).fit;have hbn:0<b.natAbs:=ae;have HA:=aj fa;have HB:=aj fb;have HG:=aj g;have HBN:=aj hbn;have hz:=iK hb0;clear ha hb fa fb g hb0 hbn;go_enter func228,ntmps228;go_upto_region 4 with(first
     | (go_at_call 169;((with_reducible refine(bC a w la).mono ?_);rintro e w3 ⟨va,rfl,e3,ad,na,ca,rfl,ma⟩))
     | (go_at_call 169;refine(bC b w3 lb).mono ?_;rintro e w4 ⟨vb,rfl,e4,bd,nb,cb,rfl,mb⟩))
 generalize hsa:decide (a<0)=sa at HS HSA ⊢;generalize hsb:decide (b<0)=sb at HS ⊢;clear hsa hsb;obtain⟨W,hW⟩:∃ W,(w4.alloc (.cells #[.bool sa,.slice ad na ca] 216)).alloc (.cells #[.bool sb,.slice bd nb cb] 216)=W:=⟨_,rfl⟩
 have ea:Ext w3 W:=by rw[← hW];exact(e4.alloc _).alloc _
 have eb:Ext w4 W:=by rw[← hW];exact((Ext.refl _).alloc _).alloc _
 have b9:ax W w4.heap.size #[.bool sa,.slice ad na ca] 216:=by rw[← hW];exact(ax.new w4 _ _).alloc _
 have b10:ax W (w4.heap.size+1) #[.bool sb,.slice bd nb cb] 216:=by rw[← hW];have:=ax.new (w4.alloc (.cells #[.bool sa,.slice ad na ca] 216)) #[.bool sb,.slice bd nb cb] 216;simpa using this
 have ew:Ext w W:=e3.trans ea;rw[hW];have HMA:=aj (ma.ext ea);have HMB:=aj (mb.ext eb);have HEW:=aj ew;have c1':=b9.cell 0 (v:=.bool sa) rfl;have c2':=b9.cell 1 (v:=.slice ad na ca) rfl;have c3':=b10.cell 0 (v:=.bool sb) rfl;have c4':=b10.cell 1 (v:=.slice bd nb cb) rfl;clear hW ea eb ma mb e3 e4 ew b9 b10;go_upto_region 5 with(go_at_call 246;refine(iF a.natAbs b.natAbs _ _ W HMA.o HMB.o HBN.o HA.o).mono ?_;rintro e w5 ⟨vq,vr,rfl,e5,mq,mr⟩;obtain⟨qa,ql,qc,rfl⟩:=mq.slice;obtain⟨ra,rl,rc,rfl⟩:=mr.slice;have c1:=e5.keeps c1';have c2:=e5.keeps c2';have c3:=e5.keeps c3';have c4:=e5.keeps c4')
 have HQ:=aj mq;have HR:=aj mr;have hrl:=mr.cF;have E5:=aj (HEW.o.trans e5);clear c1' c2' c3' c4' mq mr;have hsa:=HSA.o;subst hsa;have hrl0:=hrl.2 HM0.o;subst hrl0;clear hrl;go_wp2_with (first
     | (go_at_call 171;((with_reducible refine(cv _ (a.natAbs / b.natAbs) _ _ _ _ HQ.o (Fit.mW (HA.o.fit.mono (Nat.div_le_self _ _))) (HG.o.ext E5.out)).mono ?_);rintro e w8 ⟨rfl,e8⟩;have c1:=e8.keeps c1;have c2:=e8.keeps c2;have c3:=e8.keeps c3;have c4:=e8.keeps c4))
     | (go_at_call 171;refine cto (cv false (a.natAbs % b.natAbs) _ _ _ _ (HR.o.ext e8) (Fit.mW (HA.o.fit.mono (Nat.mod_le _ _))) (HG.o.ext (E5.out.trans e8))) fun w9 e9=>?_))
 go_ret3;exact⟨sf (by have:=HS.o.1;revert this;cases sb <;> exact id) HS.o.2,(E5.out.trans e8).trans e9⟩
set_option maxHeartbeats 4000000 in
theorem s9(a b:Int){k m:Nat}(w:World)(g:Gd w)(ha:IB k a)(hb:IB m b)(hk:k<=9000)(hm:m<=9000)(hb0:b≠0)(HSA:Hid (decide (a<0)=true))(HM0:Hid (a.natAbs % b.natAbs≠0))(HS:Hid (eI (!(decide (a<0) == decide (b<0))) (a.natAbs / b.natAbs+1)=a / b/\eI false (b.natAbs-a.natAbs % b.natAbs)=a % b)):Calls prog 228 #[.string (zs a),.string (zs b)] w (aR w (.tuple #[.string (zs (a / b)),.string (zs (a % b)),.int .i64 0])):=by
 have la:=ha.len hk;have lb:=hb.len hm;have fa:=ha.fit hk;have fb:=(hb.fit hm).fit;have hbn:0<b.natAbs:=ae;have HA:=aj fa;have HB:=aj fb;have HG:=aj g;have HBN:=aj hbn;have hz:=iK hb0;clear ha hb fa fb g hb0 hbn;go_enter func228,ntmps228;go_upto_region 4 with(first
     | (go_at_call 169;((with_reducible refine(bC a w la).mono ?_);rintro e w3 ⟨va,rfl,e3,ad,na,ca,rfl,ma⟩))
     | (go_at_call 169;refine(bC b w3 lb).mono ?_;rintro e w4 ⟨vb,rfl,e4,bd,nb,cb,rfl,mb⟩))
 generalize hsa:decide (a<0)=sa at HS HSA ⊢;generalize hsb:decide (b<0)=sb at HS ⊢;clear hsa hsb;obtain⟨W,hW⟩:∃ W,(w4.alloc (.cells #[.bool sa,.slice ad na ca] 216)).alloc (.cells #[.bool sb,.slice bd nb cb] 216)=W:=⟨_,rfl⟩
 have ea:Ext w3 W:=by rw[← hW];exact(e4.alloc _).alloc _
 have eb:Ext w4 W:=by rw[← hW];exact((Ext.refl _).alloc _).alloc _
 have b9:ax W w4.heap.size #[.bool sa,.slice ad na ca] 216:=by rw[← hW];exact(ax.new w4 _ _).alloc _
 have b10:ax W (w4.heap.size+1) #[.bool sb,.slice bd nb cb] 216:=by rw[← hW];have:=ax.new (w4.alloc (.cells #[.bool sa,.slice ad na ca] 216)) #[.bool sb,.slice bd nb cb] 216;simpa using this
 have ew:Ext w W:=e3.trans ea;rw[hW];have HMA:=aj (ma.ext ea);have HMB:=aj (mb.ext eb);have HEW:=aj ew;have c1':=b9.cell 0 (v:=.bool sa) rfl;have c2':=b9.cell 1 (v:=.slice ad na ca) rfl;have c3':=b10.cell 0 (v:=.bool sb) rfl;have c4':=b10.cell 1 (v:=.slice bd nb cb) rfl;clear hW ea eb ma mb e3 e4 ew b9 b10;go_upto_region 5 with(go_at_call 246;refine(iF a.natAbs b.natAbs _ _ W HMA.o HMB.o HBN.o HA.o).mono ?_;rintro e w5 ⟨vq,vr,rfl,e5,mq,mr⟩;obtain⟨qa,ql,qc,rfl⟩:=mq.slice;obtain⟨ra,rl,rc,rfl⟩:=mr.slice;have c1:=e5.keeps c1';have c2:=e5.keeps c2';have c3:=e5.keeps c3';have c4:=e5.keeps c4')
 have HQ:=aj mq;have HR:=aj mr;have hrl:=mr.cF;have E5:=aj (HEW.o.trans e5);clear c1' c2' c3' c4' mq mr;have hsa:=HSA.o;subst hsa
 have hrl0 : 0 < rl := by have := HM0.o; rcases Nat.eq_zero_or_pos rl with h | h
                          ·exact absurd (hrl.1 h) this
                          ·exact h
 clear hrl;have HLE:=aj (Nat.le_of_lt (Nat.mod_lt a.natAbs HBN.o));go_upto_region 6 with fail
 have one:∀ (V:World),cz (V.alloc (.cells #[.int .u64 1] 245)) (.slice (some ⟨V.heap.size,0,none⟩) 1 1) 1:=fun V=>⟨[1],Holds.one V .u64 1 _,⟨by intro x hx;simp at hx;omega,by simp⟩,cS _ _⟩
 have HO:=aj one;clear one;go_region_held3 (fun w' => w'.cell? ⟨w4.heap.size, 0, none⟩ = some (.bool true) /\ w'.cell? ⟨w4.heap.size, 1, none⟩ = some (.slice ad na ca) /\ w'.cell? ⟨w4.heap.size + 1, 0, none⟩ = some (.bool sb) /\ w'.cell? ⟨w4.heap.size + 1, 1, none⟩ = some (.slice bd nb cb)) (first | exact⟨Ext.keeps (by repeat (first | assumption | exact Ext.refl _ | exact⟨rfl, rfl, rfl, Nat.le_refl _, fun _ _ => rfl⟩ | apply Ext.drew | apply Ext.alloc | refine Ext.trans ?_ (by assumption))) c1, Ext.keeps (by repeat (first | assumption | exact Ext.refl _ | exact⟨rfl, rfl, rfl, Nat.le_refl _, fun _ _ => rfl⟩ | apply Ext.drew | apply Ext.alloc | refine Ext.trans ?_ (by assumption))) c2, Ext.keeps (by repeat (first | assumption | exact Ext.refl _ | exact⟨rfl, rfl, rfl, Nat.le_refl _, fun _ _ => rfl⟩ | apply Ext.drew | apply Ext.alloc | refine Ext.trans ?_ (by assumption))) c3, Ext.keeps (by repeat (first | assumption | exact Ext.refl _ | exact⟨rfl, rfl, rfl, Nat.le_refl _, fun _ _ => rfl⟩ | apply Ext.drew | apply Ext.alloc | refine Ext.trans ?_ (by assumption))) c4⟩) (first
     | (go_at_call 252;refine(gS b.natAbs (a.natAbs % b.natAbs) _ _ _ (HMB.o.ext (by repeat (first|assumption|exact Ext.refl _|exact⟨rfl,rfl,rfl,Nat.le_refl _,fun _ _=>rfl⟩|apply Ext.drew|apply Ext.alloc|refine Ext.trans ?_ (by assumption)))) (HR.o.ext (by repeat (first|assumption|exact Ext.refl _|exact⟨rfl,rfl,rfl,Nat.le_refl _,fun _ _=>rfl⟩|apply Ext.drew|apply Ext.alloc|refine Ext.trans ?_ (by assumption)))) HB.o HLE.o).mono ?_;rintro e w6 ⟨v6,rfl,e6,m6⟩;obtain⟨xa,xl,xc,rfl⟩:=m6.slice)
     | (go_at_call 250;refine(sC (a.natAbs / b.natAbs) 1 _ _ _ (HQ.o.ext (by repeat (first|assumption|exact Ext.refl _|exact⟨rfl,rfl,rfl,Nat.le_refl _,fun _ _=>rfl⟩|apply Ext.drew|apply Ext.alloc|refine Ext.trans ?_ (by assumption)))) ((HO.o _).ext (by repeat (first|assumption|exact Ext.refl _|exact⟨rfl,rfl,rfl,Nat.le_refl _,fun _ _=>rfl⟩|apply Ext.drew|apply Ext.alloc|refine Ext.trans ?_ (by assumption)))) (HA.o.fit.mono (Nat.div_le_self _ _)) (Fit.small af)).mono ?_;rintro e w7 ⟨v7,rfl,e7,m7⟩;obtain⟨ya,yl,yc,rfl⟩:=m7.slice))
 all_goals
  obtain⟨c1,c2,c3,c4⟩:_/\_/\_/\_:=by assumption
  go_wp2_with (first
      | (go_at_call 171;((with_reducible refine(cv _ (a.natAbs / b.natAbs+1) _ _ _ _ (m7.ext (by repeat (first|assumption|exact Ext.refl _|exact⟨rfl,rfl,rfl,Nat.le_refl _,fun _ _=>rfl⟩|apply Ext.drew|apply Ext.alloc|refine Ext.trans ?_ (by assumption)))) (Fit.Db (HA.o.fit.mono (Nat.div_le_self _ _)) (Fit.small af)) (HG.o.ext (E5.out.trans (by repeat (first|assumption|exact Ext.refl _|exact⟨rfl,rfl,rfl,Nat.le_refl _,fun _ _=>rfl⟩|apply Ext.drew|apply Ext.alloc|refine Ext.trans ?_ (by assumption)))))).mono ?_);rintro e w8 ⟨rfl,e8⟩;have c1:=e8.keeps c1;have c2:=e8.keeps c2;have c3:=e8.keeps c3;have c4:=e8.keeps c4))
      | (go_at_call 171;refine cto (cv false (b.natAbs-a.natAbs % b.natAbs) _ _ _ _ (m6.ext (by repeat (first|assumption|exact Ext.refl _|exact⟨rfl,rfl,rfl,Nat.le_refl _,fun _ _=>rfl⟩|apply Ext.drew|apply Ext.alloc|refine Ext.trans ?_ (by assumption)))) (Fit.mW (HB.o.mono (Nat.sub_le _ _))) (HG.o.ext (E5.out.trans (by repeat (first|assumption|exact Ext.refl _|exact⟨rfl,rfl,rfl,Nat.le_refl _,fun _ _=>rfl⟩|apply Ext.drew|apply Ext.alloc|refine Ext.trans ?_ (by assumption)))))) fun w9 e9=>?_))
  go_ret3;exact⟨sf (by have:=HS.o.1;revert this;cases sb <;> exact id) HS.o.2,E5.out.trans (by repeat (first|assumption|exact Ext.refl _|exact⟨rfl,rfl,rfl,Nat.le_refl _,fun _ _=>rfl⟩|apply Ext.drew|apply Ext.alloc|refine Ext.trans ?_ (by assumption)))⟩
theorem rB(a b:Int){k m:Nat}(w:World)(g:Gd w)(ha:IB k a)(hb:IB m b)(hk:k<=9000)(hm:m<=9000)(hb0:b≠0):Calls prog 228 #[.string (zs a),.string (zs b)] w (aR w (.tuple #[.string (zs (a / b)),.string (zs (a % b)),.int .i64 0])):=by
 by_cases h:a<0
 ·by_cases h0:a.natAbs % b.natAbs=0
  ·exact rA a b w g ha hb hk hm hb0 (aj (by simpa using h)) (aj h0) (aj (iW a b hb0 (Or.inr h0)))
  ·exact s9 a b w g ha hb hk hm hb0 (aj (by simpa using h)) (aj h0) (aj (oG a b hb0 h h0))
 ·exact s8 a b w g ha hb hk hm hb0 (aj (by simpa using h)) (aj (iW a b hb0 (Or.inl ae)))
end Go.Proofs.YtmahadmefplbnaaGreatDoor
