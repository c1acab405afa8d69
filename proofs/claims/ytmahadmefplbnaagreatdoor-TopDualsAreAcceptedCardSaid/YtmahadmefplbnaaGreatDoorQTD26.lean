/- Part 26. -/
import Derived.Test.YtmahadmefplbnaaGreatDoorQTDB
import Derived.Test.YtmahadmefplbnaaGreatDoorQTD25
import Derived.Handy
set_option maxRecDepth 100000
set_option maxHeartbeats 2000000
open Go.Proofs.Tryz
set_option linter.unusedVariables false
namespace Go.Proofs.YtmahadmefplbnaaGreatDoor
open Go Go.RowKit
structure V3 where
 x:Rat
 y:Rat
 z:Rat
deriving DecidableEq
abbrev vv(v:V3):Value:=.agg #[.string (qs v.x),.string (qs v.y),.string (qs v.z)]
structure P2 where
 x:Rat
 y:Rat
deriving DecidableEq
abbrev pv(p:P2):Value:=.agg #[.string (qs p.x),.string (qs p.y)]
structure PB(k:Nat)(p:P2):Prop where
 x:QB k p.x
 y:QB k p.y
def En(a b:V3):V3:=⟨a.x+b.x,a.y+b.y,a.z+b.z⟩
def Em(a b:V3):V3:=⟨a.x-b.x,a.y-b.y,a.z-b.z⟩
structure VB(k:Nat)(v:V3):Prop where
 x:QB k v.x
 y:QB k v.y
 z:QB k v.z
theorem VB.add{k m:Nat}{a b:V3}(h:VB k a)(h2:VB m b):VB (k+m+1) (En a b):=⟨h.x.add h2.x,h.y.add h2.y,h.z.add h2.z⟩
theorem VB.sub{k m:Nat}{a b:V3}(h:VB k a)(h2:VB m b):VB (k+m+1) (Em a b):=⟨h.x.sub h2.x,h.y.sub h2.y,h.z.sub h2.z⟩
theorem jM:qs (-1)=⟨#[45,49]⟩:=by
 have h:(-1:Rat).num<0:=af;have:=jk (q:=1) af;rw[← this];have e:qs (1:Rat)=zs 1:=by unfold qs zs;rw[dt (by rfl)];rfl
 rw[e,rU];rfl
open Classical in
noncomputable def rq (s:ByteArray):Bool:=decide (jx s.data.toList)
open Classical in
theorem k7{s:ByteArray}:rq s=true ↔ jx s.data.toList:=by unfold rq;exact decide_eq_true_iff
open Classical in
theorem qD{s:ByteArray}:rq s=false ↔ ¬ jx s.data.toList:=by unfold rq;exact decide_eq_false_iff_not
theorem l7(s:ByteArray)(w:World)(g:Gd w)(hl:s.size<=1000000)(h:rq s=true):Calls prog 102 #[.string s] w (aR w (.int .i64 0)) :=
 l9 s w g 0 hl ⟨fun _=>rfl,fun e=>absurd (k7.1 h) e⟩
theorem l8(s:ByteArray)(w:World)(g:Gd w)(hl:s.size<=1000000)(h:rq s=false):Calls prog 102 #[.string s] w (aR w (.int .i64 2)) :=
 l9 s w g 2 hl ⟨fun e=>absurd e (qD.1 h),fun _=>rfl⟩
structure T3 where
 x:ByteArray
 y:ByteArray
 z:ByteArray
def T3.l(t:T3):List ByteArray:=[t.x,t.y,t.z]
structure T2 where
 x:ByteArray
 y:ByteArray
abbrev tp(t:T2):Value:=.agg #[.string t.x,.string t.y]
def T2.l(t:T2):List ByteArray:=[t.x,t.y]
theorem gz{q:Rat}(h:QB 200 q):rq (qs q)=true :=
 k7.2 ⟨q,dN q,bB af h.num,bB af h.den⟩
theorem ax.vG{w:World}{k:Nat}{cs:Array Value}{t:TypeId}(hk:k=w.heap.size):ax (w.alloc (.cells cs t)) k cs t:=by subst hk;exact ax.new w cs t
theorem ax.nw{w:World}{k:Nat}(cs:Array Value)(t:TypeId)(hk:k = w.heap.size:=by first|rfl|(simp only[World.size_alloc];done)|(simp only[World.size_alloc];omega)|simp):ax (w.alloc (.cells cs t)) k cs t:=ax.vG hk
theorem ay{P:World->Prop}{w0:World}(I:World->Prop)(h:I w0)(k:∀ W,I W->P W):P w0:=k w0 h
theorem kN{w:World}{b b2 o o2:Nat}{u:Value}(h:b≠b2):(w.setCell ⟨b2,o2,none⟩ u).cell? ⟨b,o,none⟩=w.cell? ⟨b,o,none⟩:=by
 have:=Below.heap_setCell w ⟨b2,o2,none⟩ u b h;simp only[World.cell?,this]
theorem pY{w:World}{b o o2:Nat}{u:Value}(h:o≠o2):(w.setCell ⟨b,o2,none⟩ u).cell? ⟨b,o,none⟩=w.cell? ⟨b,o,none⟩:=by
 simp only[World.setCell,World.cell?,Array.getElem?_modify,ite_true];cases hb:w.heap[b]? with
 | none=>rfl
 | some x=>cases x <;> simp[h.symm]
theorem QB.min{k m:Nat}{a b:Rat}(ha:QB k a)(hb:QB m b):QB (max k m) (DA a b):=by
 unfold DA;split
 ·exact hb.mono (Nat.le_max_right _ _)
 ·exact ha.mono (Nat.le_max_left _ _)
theorem QB.max{k m:Nat}{a b:Rat}(ha:QB k a)(hb:QB m b):QB (Nat.max k m) (DB a b):=by
 unfold DB;split
 ·exact hb.mono (Nat.le_max_right _ _)
 ·exact ha.mono (Nat.le_max_left _ _)
theorem AV{w w':World}(e:Ext w w'){b0 o0:Nat}{x0:Value}(h:w.cell? ⟨b0,o0,none⟩=some x0):w'.cell? ⟨b0,o0,none⟩=some x0 :=
 e.keeps h
theorem AA (n:Int) (d:Nat) {k m:Nat} (w:World) (g:Gd w) (hd:d≠0) (hn:IB k n) (hdb:IB m (d:Int)) (hk:k<=8000) (hm:m<=8000) :
    Calls prog 72 #[.string (zs n),.string (zs (d:Int))] w (aR w (.string (qs (mkRat n d)))):=by
 obtain⟨f1,f2,f3,f4,f5,f6⟩:=oi n d hd hn hdb;obtain⟨G,hG⟩:∃ G:Nat,G=Int.gcd n d:=⟨_,rfl⟩
 rw[← hG] at f1 f2 f3 f4 f5 f6;rw[← f6];have HF1:=aj f1;have HF2:=aj f2;have HF3:=aj f3;have HF4:=aj f4;have HF5:=aj f5;have HG:=aj hG;have HN:=aj hn;have HD:=aj hdb;have HGD:=aj g;obtain⟨D',hD'⟩:∃ D',D'=d / G:=⟨_,rfl⟩
 rw[← hD'] at HF3 HF4 f3;rw[← hD'];have l1:=fE f2 ae;have l2:=fE f3 ae;have hgo:∀ v:ByteArray,Hid (v=⟨(ee (n / (G:Int)) D').toArray⟩)->((D'=1->v=zs (n / (G:Int)))/\(D'≠1->v=(zs (n / (G:Int)) ++ (⟨#[47]⟩:ByteArray)) ++ zs (D':Int))):=by
  intro v hv;refine⟨fun h=>?_,fun h=>?_⟩
  ·rw[hv.out];unfold ee;rw[if_pos h];rfl
  ·rw[hv.out,gV];unfold ee;rw[if_neg h]
 have HV:=aj (hgo _ (aj rfl));by_cases h1:D'=1
 ·have g1:=oS (n:=(D':Int)) ae;have E:=aj (HV.o.1 h1);clear f1 f2 f3 f4 f5 f6 hG hn hdb g h1 hd hD' hgo HV;go_enter func72,ntmps72;go_wp2_with (first
   | (go_at_call 147;refine(y8 _ _ _ HGD.o HN.o HD.o ae ae).mono ?_;rw[← HG.o];rintro e w1 ⟨rfl,e1⟩)
   | (go_at_call 148;((with_reducible refine(gD n (G:Int) w1 (HGD.o.ext e1) HN.o HF1.o ae ae HF5.o).mono ?_);rintro e w2 ⟨rfl,e2⟩))
   | (go_at_call 148;refine(gD (d:Int) (G:Int) _ (HGD.o.ext (e1.trans e2)) HD.o HF1.o ae ae HF5.o).mono ?_;rw[HF4.o];rintro e w3 ⟨rfl,e3⟩))
  go_ret;exact⟨bT E.out.symm,(e1.trans e2).trans e3⟩
 ·have g1:=kS (n:=(D':Int)) ae;have E:=aj (HV.o.2 h1);clear f1 f2 f3 f4 f5 f6 hG hn hdb g h1 hd hD' hgo HV;go_enter func72,ntmps72;go_wp2_with (first
   | (go_at_call 147;refine(y8 _ _ _ HGD.o HN.o HD.o ae ae).mono ?_;rw[← HG.o];rintro e w1 ⟨rfl,e1⟩)
   | (go_at_call 148;((with_reducible refine(gD n (G:Int) w1 (HGD.o.ext e1) HN.o HF1.o ae ae HF5.o).mono ?_);rintro e w2 ⟨rfl,e2⟩))
   | (go_at_call 148;refine(gD (d:Int) (G:Int) _ (HGD.o.ext (e1.trans e2)) HD.o HF1.o ae ae HF5.o).mono ?_;rw[HF4.o];rintro e w3 ⟨rfl,e3⟩))
  go_ret;exact⟨bT E.out.symm,(e1.trans e2).trans e3⟩
def Tx(w:World)(v:Value)(l:List ByteArray):Prop :=
 (l=[]/\v = .slice none 0 0)∨∃ (a:Addr) (cap:Nat),v = .slice (some a) l.length cap/\l.length<=cap/\cap<=maxLen/\∀ i (h:i<l.length),w.cell? (a.add i)=some (.string l[i])
theorem uE{w:World}{a:Addr}{v:Value}(h:w.cell? a=some v):a.block<w.heap.size:=by
 rcases Nat.lt_or_ge a.block w.heap.size with h'|h'
 ·exact h'
 ·simp[World.cell?,Array.getElem?_eq_none h'] at h
theorem Tx.ext{w w':World}{v:Value}{l:List ByteArray}(h:Tx w v l)(e:Ext w w'):Tx w' v l:=by
 rcases h with h|⟨a,cap,h1,h2,h3,h4⟩
 ·exact Or.inl h
 ·exact Or.inr ⟨a,cap,h1,h2,h3,fun i hi=>(e.cell (uE (h4 i hi))).trans (h4 i hi)⟩
def Dm(v:V3)(k:Nat):Rat:=if k=0 then v.x else if k=1 then v.y else v.z
theorem VB.at{n:Nat}{v:V3}(h:VB n v)(k:Nat):QB n (Dm v k):=by
 unfold Dm;split
 ·exact h.x
 ·split
  ·exact h.y
  ·exact h.z
theorem VB.mono{k m:Nat}{v:V3}(h:VB k v)(hk:k<=m):VB m v:=⟨h.x.mono hk,h.y.mono hk,h.z.mono hk⟩
theorem PB.mono{k m:Nat}{v:P2}(h:PB k v)(hk:k<=m):PB m v:=⟨h.x.mono hk,h.y.mono hk⟩
theorem VB.all{v:V3}(h:VB 200 v):(T3.l ⟨qs v.x,qs v.y,qs v.z⟩).all rq=true:=by simp[T3.l,gz h.x,gz h.y,gz h.z]
theorem PB.all{p:P2}(h:PB 200 p):(T2.l ⟨qs p.x,qs p.y⟩).all rq=true:=by simp[T2.l,gz h.x,gz h.y]
def z3(x y z:Rat):Bool:=decide (x=0/\y=0/\z=0)
theorem IB.zero:IB 1 0:=⟨af⟩
theorem IB.one:IB 1 1:=⟨af⟩
theorem IB.gcd{k m:Nat}{a b:Int}(ha:IB k a)(hb:IB m b):IB (max k m) (Int.gcd a b:Int):=by
 by_cases h:b=0
 ·subst h;have:=ha.mono (Nat.le_max_left k m);exact this.of_le (by simp)
 ·exact(hb.mono (Nat.le_max_right k m)).of_le (by rw[Int.natAbs_natCast];exact Nat.le_of_dvd ae (Int.gcd_dvd_natAbs_right a b))
theorem IB.div{k:Nat}{a:Int}(ha:IB k a)(b:Int):IB k (a / b):=ha.of_le (Int.natAbs_ediv_le_natAbs a b)
def sm(n:Int)(d:Nat):Rat:=mkRat n (1+d)
theorem qt{n:Int}{d:Nat}(h0:-32768<=n)(h1:n<=32767)(h2:d<=255):QB 5 (sm n d):=QB.mk' ae ae ae
structure Ea where
 n0:Int
 d0:Nat
 n1:Int
 d1:Nat
 n2:Int
 d2:Nat
structure uK(p:Ea):Prop where
 a0:-32768<=p.n0
 b0:p.n0<=32767
 c0:p.d0<=255
 a1:-32768<=p.n1
 b1:p.n1<=32767
 c1:p.d1<=255
 a2:-32768<=p.n2
 b2:p.n2<=32767
 c2:p.d2<=255
def Ex(p:Ea):V3:=⟨sm p.n0 p.d0,sm p.n1 p.d1,sm p.n2 p.d2⟩
def EX(p:Ea):P2:=⟨sm p.n0 p.d0,sm p.n1 p.d1⟩
theorem uK.v{p:Ea}(h:uK p):VB 5 (Ex p):=⟨qt h.a0 h.b0 h.c0,qt h.a1 h.b1 h.c1,qt h.a2 h.b2 h.c2⟩
theorem uK.p{p:Ea}(h:uK p):PB 5 (EX p):=⟨qt h.a0 h.b0 h.c0,qt h.a1 h.b1 h.c1⟩
theorem gO{q:Rat}(h:0<q):q.num.sign=1:=by
 have h1:=(Rat.lt_iff 0 q).1 h;simp at h1;exact Int.sign_eq_one_of_pos h1
structure QD(n d:Nat)(q:Rat):Prop where
 num:q.num.natAbs<10 ^ n
 den:q.den<10 ^ d
theorem QD.qb{n d k:Nat}{q:Rat}(h:QD n d q)(h1:n<=k)(h2:d<=k):QB k q :=
 ⟨Nat.lt_of_lt_of_le h.num (Nat.pow_le_pow_right af h1),Nat.lt_of_lt_of_le h.den (Nat.pow_le_pow_right af h2)⟩
theorem QD.mk'{n d:Nat}{x:Int}{y:Nat}(h0:y≠0)(h1:x.natAbs<10 ^ n)(h2:y<10 ^ d):QD n d (mkRat x y) :=
 ⟨Nat.lt_of_le_of_lt (jS _ _) h1,Nat.lt_of_le_of_lt (jT _ _ h0) h2⟩
theorem QD.neg{n d:Nat}{a:Rat}(ha:QD n d a):QD n d (-a):=⟨by rw[Rat.neg_num,Int.natAbs_neg];exact ha.num,ha.den⟩
theorem QD.add{n d m e:Nat}{a b:Rat}(ha:QD n d a)(hb:QD m e b):QD (max (n+e) (d+m)+1) (d+e) (a+b):=by
 rw[Rat.add_def'];refine QD.mk' (Nat.mul_ne_zero a.den_nz b.den_nz) ?_ (bV ha.den hb.den);refine Nat.lt_of_le_of_lt (Int.natAbs_add_le _ _) ?_;rw[Int.natAbs_mul,Int.natAbs_mul,Int.natAbs_natCast,Int.natAbs_natCast,Nat.mul_comm b.num.natAbs];exact mH (bV ha.num hb.den) (bV ha.den hb.num)
theorem QD.sub{n d m e:Nat}{a b:Rat}(ha:QD n d a)(hb:QD m e b):QD (max (n+e) (d+m)+1) (d+e) (a-b):=by
 rw[Rat.sub_eq_add_neg];exact ha.add hb.neg
theorem QD.mul{n d m e:Nat}{a b:Rat}(ha:QD n d a)(hb:QD m e b):QD (n+m) (d+e) (a*b):=by
 rw[Rat.mul_def'];exact QD.mk' (Nat.mul_ne_zero a.den_nz b.den_nz) (by rw[Int.natAbs_mul];exact bV ha.num hb.num) (bV ha.den hb.den)
theorem QD.inv{n d:Nat}{a:Rat}(ha:QD n d a)(hn:1<=n):QD d n a⁻¹:=by
 constructor
 ·rw[Rat.num_inv,Int.natAbs_mul,Int.natAbs_natCast];have:a.num.sign.natAbs<=1:=by rw[Int.natAbs_sign];split <;> omega
  exact Nat.lt_of_le_of_lt (Nat.mul_le_mul_right _ this) (by rw[Nat.one_mul];exact ha.den)
 ·rw[Rat.den_inv];split
  ·exact Nat.one_lt_pow ae af
  ·exact ha.num
theorem QD.div{n d m e:Nat}{a b:Rat}(ha:QD n d a)(hb:QD m e b)(hm:1<=m):QD (n+e) (d+m) (a / b):=by
 rw[Rat.div_def];exact ha.mul (hb.inv hm)
structure VD(n d:Nat)(v:V3):Prop where
 x:QD n d v.x
 y:QD n d v.y
 z:QD n d v.z
theorem gP{q:Rat}(h:q<0):q.num.sign=-1:=by
 have h1:=(Rat.lt_iff q 0).1 h;simp at h1;exact Int.sign_eq_neg_one_of_neg h1
theorem vt(x y:Rat):fl x y=(x-y).num.sign:=by
 unfold fl;split
 ·rename_i h;rw[gP (by grind)]
 ·split
  ·rename_i h;subst h;rw[show x-x=0 by grind];rfl
  ·rename_i h1 h2;rw[gO (by grind)]
theorem VD.vb{n d k:Nat}{v:V3}(h:VD n d v)(h1:n<=k)(h2:d<=k):VB k v:=⟨h.x.qb h1 h2,h.y.qb h1 h2,h.z.qb h1 h2⟩
end Go.Proofs.YtmahadmefplbnaaGreatDoor
