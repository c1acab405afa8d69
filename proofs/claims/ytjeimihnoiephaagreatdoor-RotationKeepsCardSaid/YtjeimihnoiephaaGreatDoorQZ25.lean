/- Part 25 of the proof: PrimP, L2, Geo, RQ, WP, Root. -/
import Derived.Test.YtjeimihnoiephaaGreatDoorQZ24
set_option maxRecDepth 100000
namespace Go.Proofs.YtjeimihnoiephaaGreatDoor
open Go Go.RowKit
theorem plcm_pos {a b:Int} (ha:0<a) (hb:0<b):0<a*(b / (Int.gcd a b:Int)):=by
  have hg:(Int.gcd a b:Int)∣b:=Int.gcd_dvd_right a b
  have hgp:0<(Int.gcd a b:Int):=by have:=Int.gcd_pos_of_ne_zero_left b (show a≠0 by omega);omega
  obtain ⟨c,hc⟩:=hg
  have e:b / (Int.gcd a b:Int)=c:=by
    conv=>lhs;lhs;rw [hc]
    exact Int.mul_ediv_cancel_left c (by omega)
  rw [e]
  have:0<c:=by
    rcases Int.lt_trichotomy c 0 with h|h|h
    · have:=Int.mul_neg_of_pos_of_neg hgp h;omega
    · subst h;simp at hc;omega
    · exact h
  exact Int.mul_pos ha this
theorem plcm_dvd {a b:Int} (ha:0<a):b∣a*(b / (Int.gcd a b:Int)):=by
  have hg:(Int.gcd a b:Int)∣b:=Int.gcd_dvd_right a b
  have hga:(Int.gcd a b:Int)∣a:=Int.gcd_dvd_left a b
  have hgp:0<(Int.gcd a b:Int):=by have:=Int.gcd_pos_of_ne_zero_left b (show a≠0 by omega);omega
  obtain ⟨c,hc⟩:=hg
  obtain ⟨d,hd⟩:=hga
  have e:b / (Int.gcd a b:Int)=c:=by
    conv=>lhs;lhs;rw [hc]
    exact Int.mul_ediv_cancel_left c (by omega)
  rw [e]
  refine ⟨d,?_⟩
  conv=>lhs;lhs;rw [hd]
  conv=>rhs;lhs;rw [hc]
  grind
theorem pd0_one (v:V3):pd0 v=1:=by unfold pd0;simp
theorem pd1_eq (v:V3):pd1 v=v.x.den:=by unfold pd1;rw [pd0_one];simp
theorem qden_pos (q:Rat):0<(q.den:Int):=by have:=q.den_pos;omega
theorem pd2_pos (v:V3):0<pd2 v:=by unfold pd2;rw [pd1_eq];exact plcm_pos (qden_pos _) (qden_pos _)
theorem pden_pos (v:V3):0<pden v:=plcm_pos (pd2_pos v) (qden_pos _)
theorem pden_z (v:V3):(v.z.den:Int)∣pden v:=plcm_dvd (pd2_pos v)
theorem pden_y (v:V3):(v.y.den:Int)∣pden v:=by
  have h:(v.y.den:Int)∣pd2 v:=by unfold pd2;exact plcm_dvd (by rw [pd1_eq];exact qden_pos _)
  exact Int.dvd_trans h (Int.dvd_mul_right _ _)
theorem pden_x (v:V3):(v.x.den:Int)∣pden v:=by
  have h:(v.x.den:Int)∣pd2 v:=by unfold pd2;rw [pd1_eq];exact Int.dvd_mul_right _ _
  exact Int.dvd_trans h (Int.dvd_mul_right _ _)
theorem mul_den_int {q:Rat} {n:Int} (h:(q.den:Int)∣n):∃ m:Int,q*(n:Rat)=(m:Rat):=by
  obtain ⟨c,rfl⟩:=h
  refine ⟨q.num*c,?_⟩
  have h0:((q.den:Nat):Rat)≠0:=by
    intro e;have:=Rat.natCast_eq_zero_iff.1 e;exact q.den_nz this
  have h1:q*(q.den:Rat)=(q.num:Rat):=by
    have h2:=Rat.mkRat_self q
    rw [Rat.mkRat_eq_div] at h2
    conv=>lhs;lhs;rw [← h2]
    exact Rat.div_mul_cancel h0
  rw [Rat.intCast_mul,Rat.intCast_mul,← h1]
  show q*((q.den:Rat)*(c:Rat))=q*(q.den:Rat)*(c:Rat)
  grind
theorem vwhole_int (v:V3):∃ X Y Z:Int,vwhole v=⟨(X:Rat),(Y:Rat),(Z:Rat)⟩:=by
  obtain ⟨X,hX⟩:=mul_den_int (pden_x v);obtain ⟨Y,hY⟩:=mul_den_int (pden_y v);obtain ⟨Z,hZ⟩:=mul_den_int (pden_z v)
  exact ⟨X,Y,Z,by unfold vwhole;rw [hX,hY,hZ]⟩
theorem pnum_int (X Y Z:Int):pnum ⟨(X:Rat),(Y:Rat),(Z:Rat)⟩=Int.gcd (Int.gcd X Y) Z:=by
  unfold pnum pn2 pn1
  simp only [Rat.num_intCast,Int.gcd_zero_left]
  have:Int.gcd (X.natAbs:Int) Y=Int.gcd X Y:=by unfold Int.gcd;simp
  rw [this]
theorem mkRat_one_mul {X:Int} {g:Nat} (hg:g≠0) (h:(g:Int)∣X):(X:Rat)*mkRat 1 g=((X / (g:Int):Int):Rat):=by
  obtain ⟨c,rfl⟩:=h
  rw [Int.mul_ediv_cancel_left c (by omega),Rat.intCast_mul]
  have:mkRat 1 g*((g:Int):Rat)=1:=by
    rw [Rat.mkRat_eq_div]
    have:((g:Int):Rat)≠0:=by
      intro e;have:=Rat.intCast_eq_zero_iff.1 e;omega
    show (1:Rat) / ((g:Int):Rat)*((g:Int):Rat)=1
    exact Rat.div_mul_cancel this
  grind
theorem vprim_int (v : V3) (h : ¬ (v.x = 0 ∧ v.y = 0 ∧ v.z = 0)) : ∃ X Y Z : Int, vprim v = ⟨(X : Rat), (Y : Rat), (Z : Rat)⟩ ∧ (∀ n : Int, n ∣ X → n ∣ Y → n ∣ Z → n ∣ 1) ∧ pnum (vwhole v) ≠ 0 ∧
    ∃ c:Rat,0<c∧vprim v=⟨v.x*c,v.y*c,v.z*c⟩:=by
  obtain ⟨X,Y,Z,e⟩:=vwhole_int v
  have hp:=pnum_int X Y Z
  rw [← e] at hp
  have hne:pnum (vwhole v)≠0:=by
    intro h0
    rw [hp] at h0
    have h1:=Int.gcd_eq_zero_iff.1 h0
    have h2:X=0∧Y=0:=Int.gcd_eq_zero_iff.1 (by have:=h1.1;omega)
    have hd:(pden v:Rat)≠0:=by
      intro e;have:=Rat.intCast_eq_zero_iff.1 e;have:=pden_pos v;omega
    have z1:∀ q:Rat,q*(pden v:Rat)=0→q=0:=fun q hq=>(Rat.mul_eq_zero.1 hq).resolve_right hd
    apply h
    have ex:=congrArg V3.x e;have ey:=congrArg V3.y e;have ez:=congrArg V3.z e
    simp only [vwhole] at ex ey ez
    rw [h2.1] at ex;rw [h2.2] at ey;rw [h1.2] at ez
    exact ⟨z1 _ ex,z1 _ ey,z1 _ ez⟩
  have gz:((pnum (vwhole v):Nat):Int)∣Z:=by rw [hp];exact Int.gcd_dvd_right _ _
  have gxy:((pnum (vwhole v):Nat):Int)∣(Int.gcd X Y:Int):=by rw [hp];exact Int.gcd_dvd_left _ _
  have gx:((pnum (vwhole v):Nat):Int)∣X:=Int.dvd_trans gxy (Int.gcd_dvd_left _ _)
  have gy:((pnum (vwhole v):Nat):Int)∣Y:=Int.dvd_trans gxy (Int.gcd_dvd_right _ _)
  refine ⟨X / (pnum (vwhole v):Nat),Y / (pnum (vwhole v):Nat),Z / (pnum (vwhole v):Nat),?_,?_,hne,(pden v:Rat)*mkRat 1 (pnum (vwhole v)),?_,?_⟩
  · unfold vprim
    rw [← mkRat_one_mul hne gx,← mkRat_one_mul hne gy,← mkRat_one_mul hne gz,e]
  · intro n h1 h2 h3
    generalize hgg:pnum (vwhole v)=g at *
    have hg0:(g:Int)≠0:=by omega
    have k1:n*(g:Int)∣X:=by obtain ⟨c,hc⟩:=h1;refine ⟨c,?_⟩;have:=Int.ediv_mul_cancel gx;rw [← this,hc];grind
    have k2:n*(g:Int)∣Y:=by obtain ⟨c,hc⟩:=h2;refine ⟨c,?_⟩;have:=Int.ediv_mul_cancel gy;rw [← this,hc];grind
    have k3:n*(g:Int)∣Z:=by obtain ⟨c,hc⟩:=h3;refine ⟨c,?_⟩;have:=Int.ediv_mul_cancel gz;rw [← this,hc];grind
    have k4:n*(g:Int)∣(g:Int):=by
      rw [show (g:Int)=((Int.gcd (Int.gcd X Y) Z:Nat):Int) by rw [hp]] at *
      exact Int.dvd_coe_gcd (Int.dvd_coe_gcd k1 k2) k3
    obtain ⟨c,hc⟩:=k4
    refine ⟨c,?_⟩
    have:(g:Int)*1=(g:Int)*(n*c):=by grind
    exact Int.eq_of_mul_eq_mul_left hg0 this
  · have h1:(0:Rat)<(pden v:Rat):=by exact_mod_cast pden_pos v
    have h2:(0:Rat)<mkRat 1 (pnum (vwhole v)):=by
      rw [Rat.mkRat_eq_div]
      have:(0:Rat)<((pnum (vwhole v):Nat):Rat):=by exact_mod_cast Nat.pos_of_ne_zero hne
      rw [Rat.div_def];exact Rat.mul_pos (by decide) (Rat.inv_pos.2 this)
    exact Rat.mul_pos h1 h2
  · unfold vprim vwhole
    simp only [Rat.mul_assoc]

theorem dvd_of_den {X:Int} {k:Nat} (hk:k≠0) (h:((X:Rat)*mkRat 1 k).den=1):(k:Int)∣X:=by
  have h0:((k:Nat):Rat)≠0:=by intro e;exact hk (Rat.natCast_eq_zero_iff.1 e)
  obtain ⟨q,hq⟩:∃ q,q=(X:Rat)*mkRat 1 k:=⟨_,rfl⟩
  rw [← hq] at h
  have h1:q=(q.num:Rat):=by
    have:=Rat.mkRat_self q
    rw [h,mkRat_one] at this
    exact this.symm
  have h2:(X:Rat)=(k:Rat)*(q.num:Rat):=by
    rw [← h1,hq,Rat.mkRat_eq_div]
    have:(1:Rat) / (k:Rat)*(k:Rat)=1:=Rat.div_mul_cancel h0
    show (X:Rat)=(k:Rat)*((X:Rat)*((1:Rat) / (k:Rat)))
    grind
  refine ⟨q.num,?_⟩
  have h3:(X:Rat)=(((k:Int)*q.num:Int):Rat):=by
    rw [Rat.intCast_mul];exact h2
  exact Rat.intCast_inj.1 h3

structure PrimOk (a P:V3):Prop where
  vb:VB 60 P
  ix:P.x.den=1
  iy:P.y.den=1
  iz:P.z.den=1
  cross:a.y*P.z-a.z*P.y=0∧a.z*P.x-a.x*P.z=0∧a.x*P.y-a.y*P.x=0
  dot:(a.x*P.x+(a.y*P.y+a.z*P.z)).num.sign=1
  some:∀ k:Nat,2≤k→(P.x*mkRat 1 k).den≠1∨((P.x*mkRat 1 k).den=1∧(P.y*mkRat 1 k).den≠1)∨((P.x*mkRat 1 k).den=1∧(P.y*mkRat 1 k).den=1∧(P.z*mkRat 1 k).den≠1)

theorem sq_nonneg' (x:Rat):0≤x*x:=by
  rcases Rat.le_total (a:=0) (b:=x) with h|h
  · exact Rat.mul_nonneg h h
  · have:=Rat.mul_nonneg (a:=-x) (b:=-x) (by grind) (by grind)
    grind
theorem sq_pos' {x:Rat} (h:x≠0):0<x*x:=by
  have h1:=sq_nonneg' x
  have h2:x*x≠0:=by intro e;rcases Rat.mul_eq_zero.1 e with h'|h' <;> exact h h'
  grind
theorem num_sign_pos {q:Rat} (h:0<q):q.num.sign=1:=by
  have h1:=(Rat.lt_iff 0 q).1 h
  simp at h1
  exact Int.sign_eq_one_of_pos h1

theorem prim_plain (a:V3) (hz:¬ (a.x=0∧a.y=0∧a.z=0)) (ha:VB 5 a):VB 97 (vwhole a)∧pnum (vwhole a)≠0∧VB 200 (vprim a)∧PrimOk a (vprim a):=by
  obtain ⟨X,Y,Z,e,hd,hne,c,hc,hs⟩:=vprim_int a hz
  have pd:=IB.pden ha
  have w0:VB 21 (vwhole a):=⟨(ha.x.mul (QB.int pd (by decide))).mono (by decide),(ha.y.mul (QB.int pd (by decide))).mono (by decide),(ha.z.mul (QB.int pd (by decide))).mono (by decide)⟩
  have pn:=IB.pnum w0
  have q1:=QB.mk1 hne pn (by decide)
  have v0:VB 60 (vprim a):=⟨(w0.x.mul q1).mono (by decide),(w0.y.mul q1).mono (by decide),(w0.z.mul q1).mono (by decide)⟩
  refine ⟨w0.mono (by decide),hne,v0.mono (by decide),v0,?_,?_,?_,?_,?_,?_⟩
  · rw [e];exact Rat.den_intCast _
  · rw [e];exact Rat.den_intCast _
  · rw [e];exact Rat.den_intCast _
  · rw [hs];refine ⟨?_,?_,?_⟩ <;> (simp only [];grind)
  · rw [hs]
    apply num_sign_pos
    have hx:=sq_nonneg' a.x;have hy:=sq_nonneg' a.y;have hzz:=sq_nonneg' a.z
    have hp:0<a.x*a.x+(a.y*a.y+a.z*a.z):=by
      by_cases h1:a.x=0
      · by_cases h2:a.y=0
        · have h3:a.z≠0:=fun h3=>hz ⟨h1,h2,h3⟩
          have:=sq_pos' h3
          grind
        · have:=sq_pos' h2
          grind
      · have:=sq_pos' h1
        grind
    have:=Rat.mul_pos hp hc
    have e2:a.x*(a.x*c)+(a.y*(a.y*c)+a.z*(a.z*c))=(a.x*a.x+(a.y*a.y+a.z*a.z))*c:=by grind
    simp only []
    rw [e2]
    exact this
  · intro k hk
    rw [e]
    by_cases h1:((X:Rat)*mkRat 1 k).den=1
    · by_cases h2:((Y:Rat)*mkRat 1 k).den=1
      · right;right
        refine ⟨h1,h2,fun h3=>?_⟩
        have:=hd k (dvd_of_den (by omega) h1) (dvd_of_den (by omega) h2) (dvd_of_den (by omega) h3)
        have:=Int.le_of_dvd (by decide) this
        omega
      · right;left
        exact ⟨h1,h2⟩
    · left
      exact h1
end Go.Proofs.YtjeimihnoiephaaGreatDoor

namespace Go.Proofs.YtjeimihnoiephaaGreatDoor
open Go Go.RowKit
theorem elim0 {p q:Prop} (f:p→q) (h:p):q:=f h
theorem elim1 {p1 p2 q:Prop} (f:p1→p2→q) (h:p1∧p2):q:=f h.1 h.2
theorem elim2 {p1 p2 p3 q:Prop} (f:p1→p2→p3→q) (h:p1∧p2∧p3):q:=f h.1 h.2.1 h.2.2
theorem elim3 {p1 p2 p3 p4 q:Prop} (f:p1→p2→p3→p4→q) (h:p1∧p2∧p3∧p4):q:=f h.1 h.2.1 h.2.2.1 h.2.2.2
theorem ext0a {X w:World} (e:Ext X w):Ext X w:=((Ext.refl X).trans e)
theorem ext0b {X w:World} (e:Ext X.drew w):Ext X w:=((Ext.refl X).drew.trans e)
theorem ext1a {X w:World} {c1:Array Value} {t1:TypeId} (e:Ext (X.alloc (.cells c1 t1)) w):Ext X w∧Blk w (X.heap.size) c1 t1:=⟨(((Ext.refl X).alloc _).trans e),((Blk.new X c1 t1).ext e)⟩
theorem ext1b {X w:World} {c1:Array Value} {t1:TypeId} (e:Ext (X.alloc (.cells c1 t1)).drew w):Ext X w∧Blk w (X.heap.size) c1 t1:=⟨(((Ext.refl X).alloc _).drew.trans e),((Blk.new X c1 t1).drew.ext e)⟩
theorem ext2a {X w:World} {c1 c2:Array Value} {t1 t2:TypeId} (e:Ext ((X.alloc (.cells c1 t1)).alloc (.cells c2 t2)) w):Ext X w∧Blk w (X.heap.size) c1 t1∧Blk w (X.heap.size+1) c2 t2:=⟨((((Ext.refl X).alloc _).alloc _).trans e),(((Blk.new X c1 t1).alloc _).ext e),((Blk.new' (w:=(X.alloc (.cells c1 t1))) (cs:=c2) (t:=t2) (by simp)).ext e)⟩
theorem ext2b {X w:World} {c1 c2:Array Value} {t1 t2:TypeId} (e:Ext ((X.alloc (.cells c1 t1)).alloc (.cells c2 t2)).drew w):Ext X w∧Blk w (X.heap.size) c1 t1∧Blk w (X.heap.size+1) c2 t2:=⟨((((Ext.refl X).alloc _).alloc _).drew.trans e),(((Blk.new X c1 t1).alloc _).drew.ext e),((Blk.new' (w:=(X.alloc (.cells c1 t1))) (cs:=c2) (t:=t2) (by simp)).drew.ext e)⟩
theorem ext3a {X w:World} {c1 c2 c3:Array Value} {t1 t2 t3:TypeId} (e:Ext (((X.alloc (.cells c1 t1)).alloc (.cells c2 t2)).alloc (.cells c3 t3)) w):Ext X w∧Blk w (X.heap.size) c1 t1∧Blk w (X.heap.size+1) c2 t2∧Blk w (X.heap.size+1+1) c3 t3:=⟨(((((Ext.refl X).alloc _).alloc _).alloc _).trans e),((((Blk.new X c1 t1).alloc _).alloc _).ext e),(((Blk.new' (w:=(X.alloc (.cells c1 t1))) (cs:=c2) (t:=t2) (by simp)).alloc _).ext e),((Blk.new' (w:=((X.alloc (.cells c1 t1)).alloc (.cells c2 t2))) (cs:=c3) (t:=t3) (by simp)).ext e)⟩
theorem ext3b {X w:World} {c1 c2 c3:Array Value} {t1 t2 t3:TypeId} (e:Ext (((X.alloc (.cells c1 t1)).alloc (.cells c2 t2)).alloc (.cells c3 t3)).drew w):Ext X w∧Blk w (X.heap.size) c1 t1∧Blk w (X.heap.size+1) c2 t2∧Blk w (X.heap.size+1+1) c3 t3:=⟨(((((Ext.refl X).alloc _).alloc _).alloc _).drew.trans e),((((Blk.new X c1 t1).alloc _).alloc _).drew.ext e),(((Blk.new' (w:=(X.alloc (.cells c1 t1))) (cs:=c2) (t:=t2) (by simp)).alloc _).drew.ext e),((Blk.new' (w:=((X.alloc (.cells c1 t1)).alloc (.cells c2 t2))) (cs:=c3) (t:=t3) (by simp)).drew.ext e)⟩
def sm (n:Int) (d:Nat):Rat:=mkRat n (1+d)
theorem sm_qb {n:Int} {d:Nat} (h0:-32768≤n) (h1:n≤32767) (h2:d≤255):QB 5 (sm n d):=QB.mk' (by omega) (by omega) (by omega)
theorem fqofD (n D:Int) (d:Nat) (w:World) (g:Gd w) (hD:D=(d:Int)) (hd:d≠0) (h0:-32768≤n) (h1:n≤32767) (h2:d≤256):Calls Tryz.prog 18 #[.int .i64 n,.int .i64 D] w (Ret w (.string (qs (mkRat n d)))):=by
  subst hD;exact fqof_c n d w g hd (by omega) (by omega) (by omega)
structure Pla where
  n0:Int
  d0:Nat
  n1:Int
  d1:Nat
  n2:Int
  d2:Nat
structure PlaOk (p:Pla):Prop where
  a0:-32768≤p.n0
  b0:p.n0≤32767
  c0:p.d0≤255
  a1:-32768≤p.n1
  b1:p.n1≤32767
  c1:p.d1≤255
  a2:-32768≤p.n2
  b2:p.n2≤32767
  c2:p.d2≤255
abbrev plc (p:Pla):Value:=.agg #[.int .i16 p.n0,.int .u8 (p.d0:Int),.int .i16 p.n1,.int .u8 (p.d1:Int),.int .i16 p.n2,.int .u8 (p.d2:Int)]
def pvec (p:Pla):V3:=⟨sm p.n0 p.d0,sm p.n1 p.d1,sm p.n2 p.d2⟩
def ppt (p:Pla):P2:=⟨sm p.n0 p.d0,sm p.n1 p.d1⟩
theorem PlaOk.v {p:Pla} (h:PlaOk p):VB 5 (pvec p):=⟨sm_qb h.a0 h.b0 h.c0,sm_qb h.a1 h.b1 h.c1,sm_qb h.a2 h.b2 h.c2⟩
theorem PlaOk.p {p:Pla} (h:PlaOk p):PB 5 (ppt p):=⟨sm_qb h.a0 h.b0 h.c0,sm_qb h.a1 h.b1 h.c1⟩

set_option maxHeartbeats 2000000 in
theorem mk2_c (n:Int) (d:Nat) (w:World) (g:Gd w) (h0:-32768≤n) (h1:n≤32767) (h2:d≤255):Calls Tryz.prog 58 #[.agg #[.int .i16 n,.int .u8 (d:Int)]] w (Ret w (.string (qs (sm n d)))):=by
  have HG:=Lib.hid g
  clear g
  go_enter Tryz.func58,Tryz.ntmps58
  go_wp2_with fail
  refine (fqofD n _ (1+d) _ (HG.out.ext ((Ext.refl w).alloc _)) (by simp) (by omega) h0 h1 (by omega)).mono ?_;rintro e w1 ⟨rfl,e1⟩
  have HX1:Hid (Ext w w1):=Lib.hid (((Ext.refl w).alloc _).trans e1)
  clear e1
  go_wp2
  go_ret
  exact ⟨rfl,HX1.out⟩

set_option maxHeartbeats 2000000 in
theorem make0_c (p:Pla) (w:World) (g:Gd w) (hp:PlaOk p):Calls Tryz.prog 27 #[.agg #[.int .i16 p.n0,.int .u8 (p.d0:Int),.int .i16 p.n1,.int .u8 (p.d1:Int),.int .i16 p.n2,.int .u8 (p.d2:Int)]] w (Ret w (.agg #[.string (qs (sm p.n0 p.d0)),.string (qs (sm p.n1 p.d1)),.string (qs (sm p.n2 p.d2))])):=by
  have HP:=Lib.hid hp
  have HG:=Lib.hid g
  clear hp g
  go_enter Tryz.func27,Tryz.ntmps27
  go_wp2_with fail
  refine wp_name (fun W=>Ext w W∧Blk W (w.heap.size) #[.int .i16 p.n0,.int .u8 (p.d0:Int),.int .i16 p.n1,.int .u8 (p.d1:Int),.int .i16 p.n2,.int .u8 (p.d2:Int)] 54∧Blk W (w.heap.size+1) #[.string ⟨#[]⟩,.string ⟨#[]⟩,.string ⟨#[]⟩] 31) ⟨(((Ext.refl w).alloc _).alloc _),((Blk.new' (w:=_) (cs:=#[.int .i16 p.n0,.int .u8 (p.d0:Int),.int .i16 p.n1,.int .u8 (p.d1:Int),.int .i16 p.n2,.int .u8 (p.d2:Int)]) (t:=54) (by first|rfl|(simp only [World.size_alloc];done)|(simp only [World.size_alloc];omega)|simp)).alloc _),(Blk.new' (w:=_) (cs:=#[.string ⟨#[]⟩,.string ⟨#[]⟩,.string ⟨#[]⟩]) (t:=31) (by first|rfl|(simp only [World.size_alloc];done)|(simp only [World.size_alloc];omega)|simp))⟩ ?_
  rintro w1 ⟨e1,bB0_1,bB1_1⟩
  have HX1:=Lib.hid e1;have HB0_1:=Lib.hid bB0_1;have HB1_1:=Lib.hid bB1_1
  have HGEB0:Hid (w.heap.size≤w.heap.size):=Lib.hid (by first|omega|(simp only [];omega)|(simp;omega))
  have HGEB1:Hid (w.heap.size≤w.heap.size+1):=Lib.hid (by first|omega|(simp only [];omega)|(simp;omega))
  clear e1 bB0_1 bB1_1
  have hS1:w1.cell? ⟨w.heap.size,0,none⟩=some (.int .i16 p.n0)∧w1.cell? ⟨w.heap.size,1,none⟩=some (.int .u8 (p.d0:Int))∧w1.cell? ⟨w.heap.size,2,none⟩=some (.int .i16 p.n1)∧w1.cell? ⟨w.heap.size,3,none⟩=some (.int .u8 (p.d1:Int))∧w1.cell? ⟨w.heap.size,4,none⟩=some (.int .i16 p.n2)∧w1.cell? ⟨w.heap.size,5,none⟩=some (.int .u8 (p.d2:Int)):=⟨HB0_1.out.cell 0 rfl,HB0_1.out.cell 1 rfl,HB0_1.out.cell 2 rfl,HB0_1.out.cell 3 rfl,HB0_1.out.cell 4 rfl,HB0_1.out.cell 5 rfl⟩
  have HS1:=Lib.hid hS1;clear hS1
  go_region_held3 (fun w'=>w'.cell? ⟨w.heap.size,0,none⟩=some (.int .i16 p.n0)∧w'.cell? ⟨w.heap.size,1,none⟩=some (.int .u8 (p.d0:Int))∧w'.cell? ⟨w.heap.size,2,none⟩=some (.int .i16 p.n1)∧w'.cell? ⟨w.heap.size,3,none⟩=some (.int .u8 (p.d1:Int))∧w'.cell? ⟨w.heap.size,4,none⟩=some (.int .i16 p.n2)∧w'.cell? ⟨w.heap.size,5,none⟩=some (.int .u8 (p.d2:Int)))
    (((try simp only [cell_set_ne (show w.heap.size≠w.heap.size+1 from by first|omega|(simp only [];omega)|(simp;omega))]);exact keepsH6 (by repeat (first|assumption|exact Ext.refl _|apply Ext.drew|apply Ext.alloc|(refine Ext.setCell ?_ (by first|omega|(simp only [];omega)|(simp;omega)) _)|(refine Ext.trans ?_ (by assumption)))) HS1.out)) ((first
      | (go_at_call 58;((with_reducible refine (mk2_c p.n0 p.d0 _ (HG.out.ext (HX1.out.trans (by repeat (first|assumption|exact Ext.refl _|apply Ext.drew|apply Ext.alloc|(refine Ext.setCell ?_ (by first|omega|(simp only [];omega)|(simp;omega)) _)|(refine Ext.trans ?_ (by assumption)))))) HP.out.a0 HP.out.b0 HP.out.c0).mono ?_);rintro e w2 ⟨rfl,e2⟩))
      | (go_at_call 58;((with_reducible refine (mk2_c p.n1 p.d1 _ (HG.out.ext (HX1.out.trans (by repeat (first|assumption|exact Ext.refl _|apply Ext.drew|apply Ext.alloc|(refine Ext.setCell ?_ (by first|omega|(simp only [];omega)|(simp;omega)) _)|(refine Ext.trans ?_ (by assumption)))))) HP.out.a1 HP.out.b1 HP.out.c1).mono ?_);rintro e w3 ⟨rfl,e3⟩))
      | (go_at_call 58;((with_reducible refine (mk2_c p.n2 p.d2 _ (HG.out.ext (HX1.out.trans (by repeat (first|assumption|exact Ext.refl _|apply Ext.drew|apply Ext.alloc|(refine Ext.setCell ?_ (by first|omega|(simp only [];omega)|(simp;omega)) _)|(refine Ext.trans ?_ (by assumption)))))) HP.out.a2 HP.out.b2 HP.out.c2).mono ?_);rintro e w4 ⟨rfl,e4⟩;have RB1:=Blk.ext HB1_1.out (w':=w4) (by repeat (first|assumption|exact Ext.refl _|apply Ext.drew|(refine Ext.trans ?_ (by assumption))));have cB1_0:=RB1.cell 0 rfl;have fB1_0:=RB1.free 0;have cB1_1:=RB1.cell 1 rfl;have fB1_1:=RB1.free 1;have cB1_2:=RB1.cell 2 rfl;have fB1_2:=RB1.free 2;have HRB1:=Lib.hid RB1;clear RB1))))
  refine wp_name (fun W=>Ext w W∧Blk W (w.heap.size+1) #[.string (qs (sm p.n0 p.d0)),.string (qs (sm p.n1 p.d1)),.string (qs (sm p.n2 p.d2))] 31) ⟨((((HX1.out.trans (by repeat (first|assumption|exact Ext.refl _|apply Ext.drew|apply Ext.alloc|(refine Ext.trans ?_ (by assumption))))).setCell (by have:=HGEB1.out;first|omega|(simp only [];omega)|(simp;omega)) _).setCell (by have:=HGEB1.out;first|omega|(simp only [];omega)|(simp;omega)) _).setCell (by have:=HGEB1.out;first|omega|(simp only [];omega)|(simp;omega)) _),((((Blk.ext HB1_1.out (by repeat (first|assumption|exact Ext.refl _|apply Ext.drew|apply Ext.alloc|(refine Ext.trans ?_ (by assumption))))).set 0 (.string (qs (sm p.n0 p.d0)))).set 1 (.string (qs (sm p.n1 p.d1)))).set 2 (.string (qs (sm p.n2 p.d2))))⟩ ?_
  clear cB1_0 fB1_0 cB1_1 fB1_1 cB1_2 fB1_2
  rintro w5 ⟨e5,bB1_5⟩
  have HX5:=Lib.hid e5;have HB1_5:=Lib.hid bB1_5
  clear e5 bB1_5
  go_wp2_with fail
  have gB1_0:=HB1_5.out.cell 0 rfl
  have gB1_1:=HB1_5.out.cell 1 rfl
  have gB1_2:=HB1_5.out.cell 2 rfl
  refine bodyPost_ret (v:=.agg #[.string (qs (sm p.n0 p.d0)),.string (qs (sm p.n1 p.d1)),.string (qs (sm p.n2 p.d2))]) (by simp [results,Tryz.results27,go_sem,gB1_0,gB1_1,gB1_2]) rfl ⟨rfl,HX5.out⟩

theorem make_c (p:Pla) (w:World) (g:Gd w) (hp:PlaOk p):Calls Tryz.prog 27 #[plc p] w (Ret w (vv (pvec p))):=make0_c p w g hp
theorem sadd_x (a b:V3) {k m:Nat} (w:World) (g:Gd w) (ha:VB k a) (hb:VB m b) (hk:k≤1000) (hm:m≤1000):Calls Tryz.prog 68 #[vv a,vv b] w (Ret w (.agg #[.string (qs (a.x+b.x)),.string (qs (a.y+b.y)),.string (qs (a.z+b.z))])):=sadd_c a b w g ha hb hk hm
theorem ssub_x (a b:V3) {k m:Nat} (w:World) (g:Gd w) (ha:VB k a) (hb:VB m b) (hk:k≤900) (hm:m≤900):Calls Tryz.prog 35 #[vv a,vv b] w (Ret w (.agg #[.string (qs (a.x-b.x)),.string (qs (a.y-b.y)),.string (qs (a.z-b.z))])):=ssub_c a b w g ha hb hk hm
theorem sscale_x (a:V3) (q:Rat) {k m:Nat} (w:World) (g:Gd w) (ha:VB k a) (hq:QB m q) (hk:k≤1000) (hm:m≤1000):Calls Tryz.prog 17 #[vv a,.string (qs q)] w (Ret w (.agg #[.string (qs (a.x*q)),.string (qs (a.y*q)),.string (qs (a.z*q))])):=sscale_c a q w g ha hq hk hm
theorem sdot_x (a b:V3) {k m:Nat} (w:World) (g:Gd w) (ha:VB k a) (hb:VB m b) (hk:k≤700) (hm:m≤700):Calls Tryz.prog 67 #[vv a,vv b] w (Ret w (.string (qs (a.x*b.x+(a.y*b.y+a.z*b.z))))):=sdot_c a b w g ha hb hk hm
end Go.Proofs.YtjeimihnoiephaaGreatDoor

namespace Go.Proofs.YtjeimihnoiephaaGreatDoor
open Go Go.RowKit
structure QD (n d:Nat) (q:Rat):Prop where
  num:q.num.natAbs<10 ^ n
  den:q.den<10 ^ d
theorem QD.qb {n d k:Nat} {q:Rat} (h:QD n d q) (h1:n≤k) (h2:d≤k):QB k q :=
  ⟨Nat.lt_of_lt_of_le h.num (Nat.pow_le_pow_right (by decide) h1),Nat.lt_of_lt_of_le h.den (Nat.pow_le_pow_right (by decide) h2)⟩
theorem QD.mk' {n d:Nat} {x:Int} {y:Nat} (h0:y≠0) (h1:x.natAbs<10 ^ n) (h2:y<10 ^ d):QD n d (mkRat x y) :=
  ⟨Nat.lt_of_le_of_lt (mkRat_num_le _ _) h1,Nat.lt_of_le_of_lt (mkRat_den_le _ _ h0) h2⟩
theorem QD.neg {n d:Nat} {a:Rat} (ha:QD n d a):QD n d (-a):=⟨by rw [Rat.neg_num,Int.natAbs_neg];exact ha.num,ha.den⟩
theorem QD.add {n d m e:Nat} {a b:Rat} (ha:QD n d a) (hb:QD m e b):QD (max (n+e) (d+m)+1) (d+e) (a+b):=by
  rw [Rat.add_def']
  refine QD.mk' (Nat.mul_ne_zero a.den_nz b.den_nz) ?_ (lt_mul_pow ha.den hb.den)
  refine Nat.lt_of_le_of_lt (Int.natAbs_add_le _ _) ?_
  rw [Int.natAbs_mul,Int.natAbs_mul,Int.natAbs_natCast,Int.natAbs_natCast,Nat.mul_comm b.num.natAbs]
  exact lt_add_pow (lt_mul_pow ha.num hb.den) (lt_mul_pow ha.den hb.num)
theorem QD.sub {n d m e:Nat} {a b:Rat} (ha:QD n d a) (hb:QD m e b):QD (max (n+e) (d+m)+1) (d+e) (a-b):=by
  rw [Rat.sub_eq_add_neg];exact ha.add hb.neg
theorem QD.mul {n d m e:Nat} {a b:Rat} (ha:QD n d a) (hb:QD m e b):QD (n+m) (d+e) (a*b):=by
  rw [Rat.mul_def']
  exact QD.mk' (Nat.mul_ne_zero a.den_nz b.den_nz) (by rw [Int.natAbs_mul];exact lt_mul_pow ha.num hb.num) (lt_mul_pow ha.den hb.den)
theorem QD.inv {n d:Nat} {a:Rat} (ha:QD n d a) (hn:1≤n):QD d n a⁻¹:=by
  constructor
  · rw [Rat.num_inv,Int.natAbs_mul,Int.natAbs_natCast]
    have:a.num.sign.natAbs≤1:=by rw [Int.natAbs_sign];split <;> omega
    exact Nat.lt_of_le_of_lt (Nat.mul_le_mul_right _ this) (by rw [Nat.one_mul];exact ha.den)
  · rw [Rat.den_inv]
    split
    · exact Nat.one_lt_pow (by omega) (by decide)
    · exact ha.num
theorem QD.div {n d m e:Nat} {a b:Rat} (ha:QD n d a) (hb:QD m e b) (hm:1≤m):QD (n+e) (d+m) (a / b):=by
  rw [Rat.div_def];exact ha.mul (hb.inv hm)
structure VD (n d:Nat) (v:V3):Prop where
  x:QD n d v.x
  y:QD n d v.y
  z:QD n d v.z
structure PD (n d:Nat) (v:P2):Prop where
  x:QD n d v.x
  y:QD n d v.y
theorem sm_qd {n:Int} {d:Nat} (h0:-32768≤n) (h1:n≤32767) (h2:d≤255):QD 5 3 (sm n d):=QD.mk' (by omega) (by omega) (by omega)
theorem PlaOk.pd {p:Pla} (h:PlaOk p):PD 5 3 (ppt p):=⟨sm_qd h.a0 h.b0 h.c0,sm_qd h.a1 h.b1 h.c1⟩

theorem num_sign_neg {q:Rat} (h:q<0):q.num.sign=-1:=by
  have h1:=(Rat.lt_iff q 0).1 h
  simp at h1
  exact Int.sign_eq_neg_one_of_neg h1
theorem qcmp_sign (x y:Rat):qcmp x y=(x-y).num.sign:=by
  unfold qcmp
  split
  · rename_i h
    rw [num_sign_neg (by grind)]
  · split
    · rename_i h;subst h
      rw [show x-x=0 by grind];rfl
    · rename_i h1 h2
      rw [num_sign_pos (by grind)]

theorem VD.vb {n d k:Nat} {v:V3} (h:VD n d v) (h1:n≤k) (h2:d≤k):VB k v:=⟨h.x.qb h1 h2,h.y.qb h1 h2,h.z.qb h1 h2⟩
end Go.Proofs.YtjeimihnoiephaaGreatDoor

namespace Go.Proofs.YtjeimihnoiephaaGreatDoor
open Go Go.RowKit
def fr (n s:Int):Rat:=mkRat n s.toNat
theorem fr_div {n s:Int} (h:0<s):fr n s=(n:Rat) / (s:Rat):=by
  unfold fr
  rw [Rat.mkRat_eq_div]
  have:((s.toNat:Nat):Rat)=(s:Rat):=by
    have e:((s.toNat:Nat):Int)=s:=by omega
    exact (Rat.intCast_natCast _).symm.trans (congrArg _ e)
  rw [this]
theorem qb_fr {n s:Int} {k:Nat} (h:0<s) (hn:n.natAbs<10 ^ k) (hs:s.natAbs<10 ^ k):QB k (fr n s):=by
  have hd:s.toNat≠0:=by omega
  exact QB.mk' hd hn (by have : s.toNat = s.natAbs := by omega
                         rw [this];exact hs)
def row1 (t:Q4):V3:=⟨fr (t.w*t.w+t.x*t.x-t.y*t.y-t.z*t.z) (norm4 t),fr (2*(t.x*t.y-t.w*t.z)) (norm4 t),fr (2*(t.x*t.z+t.w*t.y)) (norm4 t)⟩
def row2 (t:Q4):V3:=⟨fr (2*(t.x*t.y+t.w*t.z)) (norm4 t),fr (t.w*t.w-t.x*t.x+t.y*t.y-t.z*t.z) (norm4 t),fr (2*(t.y*t.z-t.w*t.x)) (norm4 t)⟩
def row3 (t:Q4):V3:=⟨fr (2*(t.x*t.z-t.w*t.y)) (norm4 t),fr (2*(t.y*t.z+t.w*t.x)) (norm4 t),fr (t.w*t.w-t.x*t.x-t.y*t.y+t.z*t.z) (norm4 t)⟩
def dot3 (a b:V3):Rat:=a.x*b.x+a.y*b.y+a.z*b.z
def rot (t:Q4) (v:V3):V3:=⟨dot3 (row1 t) v,dot3 (row2 t) v,dot3 (row3 t) v⟩
def rotQ (w x y z:Rat) (v:V3):V3 :=
  let s:=w*w+x*x+y*y+z*z
  ⟨((w*w+x*x-y*y-z*z)*v.x+2*(x*y-w*z)*v.y+2*(x*z+w*y)*v.z) / s,
   (2*(x*y+w*z)*v.x+(w*w-x*x+y*y-z*z)*v.y+2*(y*z-w*x)*v.z) / s,
   (2*(x*z-w*y)*v.x+2*(y*z+w*x)*v.y+(w*w-x*x-y*y+z*z)*v.z) / s⟩
theorem norm4_cast (t:Q4):((norm4 t:Int):Rat)=(t.w:Rat)*t.w+(t.x:Rat)*t.x+(t.y:Rat)*t.y+(t.z:Rat)*t.z:=by
  unfold norm4;simp only [Rat.intCast_add,Rat.intCast_mul]
theorem rot_eq {t:Q4} (h:¬ t.zero) (v:V3):rot t v=rotQ t.w t.x t.y t.z v:=by
  have hp:=norm4_pos h
  unfold rot rotQ dot3 row1 row2 row3
  simp only [fr_div hp,norm4_cast,Rat.intCast_add,Rat.intCast_sub,Rat.intCast_mul,V3.mk.injEq]
  have h2:((2:Int):Rat)=2:=rfl
  simp only [h2,Rat.div_def]
  refine ⟨?_,?_,?_⟩ <;> grind
theorem nz4 {t:Q4} (h:¬ t.zero):(t.w:Rat)*t.w+(t.x:Rat)*t.x+(t.y:Rat)*t.y+(t.z:Rat)*t.z≠0:=by
  rw [← norm4_cast]
  have:=norm4_pos h
  intro e
  have:=Rat.intCast_eq_zero_iff.1 e
  omega
theorem rotQ_mul {w x y z k:Rat} (h:w*w+x*x+y*y+z*z≠0) (hk:k≠0) (u:V3):rotQ (k*w) (k*x) (k*y) (k*z) u=rotQ w x y z u:=by
  unfold rotQ
  have hn:k*w*(k*w)+k*x*(k*x)+k*y*(k*y)+k*z*(k*z)=k*k*(w*w+x*x+y*y+z*z):=by grind
  simp only [V3.mk.injEq,hn]
  generalize hs:w*w+x*x+y*y+z*z=s at h
  have hkk:k*k≠0:=by intro h0;rcases Rat.mul_eq_zero.1 h0 with h1|h1 <;> exact hk h1
  have e2:∀ A B:Rat,A=k*k*B→A / (k*k*s)=B / s:=fun A B h=>by
    have hq:k*k*s≠0:=by intro h0;rcases Rat.mul_eq_zero.1 h0 with h1|h1 <;> contradiction
    subst h;grind
  refine ⟨?_,?_,?_⟩ <;> (apply e2;grind)
theorem rotQ_axis {w x y z:Rat} (h:w*w+x*x+y*y+z*z≠0) (k:Rat):rotQ w x y z ⟨x*k,y*k,z*k⟩=⟨x*k,y*k,z*k⟩:=by
  unfold rotQ
  simp only [V3.mk.injEq]
  generalize hs:w*w+x*x+y*y+z*z=s at h
  have e2:∀ A B:Rat,A=B*s→A / s=B:=fun A B h=>by subst h;grind
  refine ⟨?_,?_,?_⟩ <;> (apply e2;rw [← hs];grind)
-- the same for quaternions of ints
theorem rot_mul {t:Q4} {k:Int} (h:¬ t.zero) (hk:k≠0) (u:V3):rot (mul4 k t) u=rot t u:=by
  rw [rot_eq h,rot_eq (mul4_zero hk h),← rotQ_mul (nz4 h) (k:=(k:Rat)) (fun e=>hk (Rat.intCast_eq_zero_iff.1 e))]
  unfold mul4
  simp only [Rat.intCast_mul]
theorem prim4_nz {t:Q4} (h:¬ t.zero):¬ (prim4 t).zero:=by
  intro e
  have hb:=prim4_back h
  apply h
  rw [hb]
  unfold mul4 Q4.zero
  simp only [e.1,e.2.1,e.2.2.1,e.2.2.2,Int.mul_zero,and_self]
theorem rot_prim {t:Q4} (h:¬ t.zero) (u:V3):rot (prim4 t) u=rot t u:=by
  have:=rot_mul (prim4_nz h) (sgk_ne h) u
  rw [← prim4_back h] at this
  exact this.symm
theorem rot_axis {t:Q4} (h:¬ t.zero) (k:Rat):rot t ⟨(t.x:Rat)*k,(t.y:Rat)*k,(t.z:Rat)*k⟩=⟨(t.x:Rat)*k,(t.y:Rat)*k,(t.z:Rat)*k⟩:=by
  rw [rot_eq h];exact rotQ_axis (nz4 h) k
end Go.Proofs.YtjeimihnoiephaaGreatDoor

namespace Go.Proofs.YtjeimihnoiephaaGreatDoor
open Go Go.RowKit
def lc (a b:Int):Int:=a*(b / (Int.gcd a b:Int))
theorem lc_pos {a b:Int} (ha:0<a) (hb:0<b):0<lc a b:=plcm_pos ha hb
theorem lc_dvd {a b:Int} (ha:0<a):b∣lc a b:=plcm_dvd ha
theorem lc_dvl (a b:Int):a∣lc a b:=⟨_,rfl⟩
def den4 (x y z u:Rat):Int:=lc (lc (lc (lc 1 x.den) y.den) z.den) u.den
theorem den4_1 (x:Rat):0<lc 1 (x.den:Int):=lc_pos (by decide) (qden_pos x)
theorem den4_2 (x y:Rat):0<lc (lc 1 (x.den:Int)) (y.den:Int):=lc_pos (den4_1 x) (qden_pos y)
theorem den4_3 (x y z:Rat):0<lc (lc (lc 1 (x.den:Int)) (y.den:Int)) (z.den:Int):=lc_pos (den4_2 x y) (qden_pos z)
theorem den4_pos (x y z u:Rat):0<den4 x y z u:=lc_pos (den4_3 x y z) (qden_pos u)
theorem den4_u (x y z u:Rat):(u.den:Int)∣den4 x y z u:=lc_dvd (den4_3 x y z)
theorem den4_z (x y z u:Rat):(z.den:Int)∣den4 x y z u:=Int.dvd_trans (lc_dvd (den4_2 x y)) (lc_dvl _ _)
theorem den4_y (x y z u:Rat):(y.den:Int)∣den4 x y z u:=Int.dvd_trans (Int.dvd_trans (lc_dvd (den4_1 x)) (lc_dvl _ _)) (lc_dvl _ _)
theorem den4_x (x y z u:Rat):(x.den:Int)∣den4 x y z u:=Int.dvd_trans (Int.dvd_trans (Int.dvd_trans (lc_dvd (by decide)) (lc_dvl _ _)) (lc_dvl _ _)) (lc_dvl _ _)
theorem num_of_dvd {q:Rat} {n:Int} (h:(q.den:Int)∣n):q*(n:Rat)=((q*(n:Rat)).num:Rat):=by
  obtain ⟨m,hm⟩:=mul_den_int h
  rw [hm,Rat.num_intCast]
def num4 (x y z u:Rat):Q4:=⟨(x*(den4 x y z u:Rat)).num,(y*(den4 x y z u:Rat)).num,(z*(den4 x y z u:Rat)).num,(u*(den4 x y z u:Rat)).num⟩
theorem num4_w (x y z u:Rat):x*(den4 x y z u:Rat)=((num4 x y z u).w:Rat):=num_of_dvd (den4_x x y z u)
theorem num4_x (x y z u:Rat):y*(den4 x y z u:Rat)=((num4 x y z u).x:Rat):=num_of_dvd (den4_y x y z u)
theorem num4_y (x y z u:Rat):z*(den4 x y z u:Rat)=((num4 x y z u).y:Rat):=num_of_dvd (den4_z x y z u)
theorem num4_z (x y z u:Rat):u*(den4 x y z u:Rat)=((num4 x y z u).z:Rat):=num_of_dvd (den4_u x y z u)
theorem den4_ne (x y z u:Rat):(den4 x y z u:Rat)≠0:=by
  have:=den4_pos x y z u
  intro e
  have:=Rat.intCast_eq_zero_iff.1 e
  omega
theorem num4_nz {x y z u:Rat} (h:¬ (x=0∧y=0∧z=0∧u=0)):¬ (num4 x y z u).zero:=by
  rintro ⟨h0,h1,h2,h3⟩
  have e:∀ {q:Rat} {n:Int},q*(den4 x y z u:Rat)=(n:Rat)→n=0→q=0:=fun {q n} h h0=>by
    rw [h0] at h
    rcases Rat.mul_eq_zero.1 (h.trans (by rfl:((0:Int):Rat)=0)) with h'|h'
    · exact h'
    · exact absurd h' (den4_ne x y z u)
  exact h ⟨e (num4_w x y z u) h0,e (num4_x x y z u) h1,e (num4_y x y z u) h2,e (num4_z x y z u) h3⟩
theorem sgk_dvd {t:Q4} (h:¬ t.zero):(sg4 t*gcd4 t)∣t.w∧(sg4 t*gcd4 t)∣t.x∧(sg4 t*gcd4 t)∣t.y∧(sg4 t*gcd4 t)∣t.z:=by
  have hd:=gcd4_dvd t
  have hs:∀ n:Int,(gcd4 t:Int)∣n→(sg4 t*gcd4 t)∣n:=by
    intro n hn
    rcases sg4_one h with e|e
    · rw [e,Int.one_mul];exact hn
    · rw [e,Int.neg_one_mul];exact Int.neg_dvd.2 hn
  exact ⟨hs _ hd.1,hs _ hd.2.1,hs _ hd.2.2.1,hs _ hd.2.2.2⟩
theorem prim4_ediv {t:Q4} (h:¬ t.zero):(prim4 t).w=t.w / (sg4 t*gcd4 t)∧(prim4 t).x=t.x / (sg4 t*gcd4 t)∧(prim4 t).y=t.y / (sg4 t*gcd4 t)∧(prim4 t).z=t.z / (sg4 t*gcd4 t):=by
  have hd:=sgk_dvd h
  unfold prim4 div4
  exact ⟨Int.tdiv_eq_ediv_of_dvd hd.1,Int.tdiv_eq_ediv_of_dvd hd.2.1,Int.tdiv_eq_ediv_of_dvd hd.2.2.1,Int.tdiv_eq_ediv_of_dvd hd.2.2.2⟩
theorem gcd4_int (t:Q4):(Int.gcd (Int.gcd (Int.gcd (Int.gcd 0 t.w:Int) t.x:Int) t.y:Int) t.z:Int)=(gcd4 t:Int):=by
  unfold gcd4
  simp only [Int.gcd,Int.natAbs_natCast,Int.natAbs_zero,Nat.gcd_zero_left]
theorem rotQ_up {l x y z:Rat} (hl:l*l=x*x+y*y+z*z) (hs:(l+z)*(l+z)+y*y+-x * -x+0*0≠0):rotQ (l+z) y (-x) 0 ⟨x,y,z⟩=⟨0,0,l⟩:=by
  unfold rotQ
  simp only [V3.mk.injEq]
  generalize hS:(l+z)*(l+z)+y*y+-x * -x+0*0=s at hs
  have e2:∀ A B:Rat,A=B*s→A / s=B:=fun A B h=>by subst h;grind
  refine ⟨?_,?_,?_⟩ <;> (apply e2;rw [← hS];grind)
theorem rot_num4 {x y z u:Rat} (h:¬ (num4 x y z u).zero) (hs:x*x+y*y+z*z+u*u≠0) (v:V3):rot (prim4 (num4 x y z u)) v=rotQ x y z u v:=by
  rw [rot_prim h,rot_eq h,← num4_w,← num4_x,← num4_y,← num4_z]
  have e:=rotQ_mul hs (den4_ne x y z u) v
  rw [← e]
  congr 1 <;> exact Rat.mul_comm _ _
end Go.Proofs.YtjeimihnoiephaaGreatDoor

namespace Go.Proofs.YtjeimihnoiephaaGreatDoor
open Go Go.RowKit
theorem Mag.len_one {w:World} {ad:Option Addr} {n c N:Nat} (h:Mag w (.slice ad n c) N) (h0:0<N) (h1:N<1000000000):n=1:=by
  obtain ⟨l,⟨ad',cap,b,off,hv,_⟩,hc,hm⟩:=h
  simp only [Value.slice.injEq] at hv
  rw [hv.2.1]
  have hne:l≠[]:=by intro e;subst e;simp [mv] at hm;omega
  have hl:0<l.length:=List.length_pos_iff.2 hne
  have hg:=hc.ge hne
  rcases Nat.lt_or_ge 1 l.length with e|e
  · have h2:1000000000 ^ 1≤1000000000 ^ (l.length-1):=Nat.pow_le_pow_right (by decide) (by omega)
    omega
  · omega
theorem cap_bd (e:TypeId) (t:Nat):2≤(Question.appendCap 2 1 e).cut t∧(Question.appendCap 2 1 e).cut t≤9223372036854775807:=by
  have h:(Question.appendCap 2 1 e).cut t=2+t % (2 ^ 63-2):=rfl
  have:=Nat.mod_lt t (show 0<2 ^ 63-2 by decide)
  rw [h];omega
theorem fd_small {n:Nat} (h:n≤1000000000):Fd n:=((⟨by decide⟩:IB 10 (1000000000:Int)).fit (by decide)).mono h
theorem root_step {r x:Nat} (hr:0<r) (hx:r≤x):r≤(x+r*r / x) / 2∧(r<x→(x+r*r / x) / 2<x)∧(r=x→(x+r*r / x) / 2=x):=by
  have hx0:0<x:=by omega
  obtain ⟨d,rfl⟩:∃ d,x=r+d:=⟨x-r,by omega⟩
  have k1:d≤r→r-d≤r*r / (r+d):=by
    intro hd
    rw [Nat.le_div_iff_mul_le hx0]
    obtain ⟨e,rfl⟩:∃ e,r=d+e:=⟨r-d,by omega⟩
    have:(d+e-d)*(d+e+d)+d*d=(d+e)*(d+e):=by rw [Nat.add_sub_cancel_left];grind
    omega
  have k2:r<r+d→r*r / (r+d)<r:=by
    intro h
    rw [Nat.div_lt_iff_lt_mul hx0]
    exact Nat.mul_lt_mul_of_pos_left h hr
  have k3:d=0→r*r / (r+d)=r:=by intro h;subst h;rw [Nat.add_zero,Nat.mul_div_cancel _ hr]
  generalize r*r / (r+d)=q at *
  refine ⟨?_,?_,?_⟩
  · rcases Nat.le_total d r with h|h
    · have:=k1 h;omega
    · omega
  · intro h;have:=k2 h;omega
  · intro h;have:=k3 (by omega);omega

set_option maxHeartbeats 2000000 in
theorem iroot_c (r:Nat) (w:World) (g:Gd w) (h0:0<r) (h1:r*r<1000000000):Calls Tryz.prog 176 #[.string (zs ((r*r:Nat):Int))] w (Ret w (.tuple #[.string (zs (r:Int)),.int .i64 0])):=by
  have hp:0<r*r:=Nat.mul_pos h0 h0
  obtain ⟨N,hN⟩:∃ N,r*r=N:=⟨_,rfl⟩
  rw [hN] at h1 hp ⊢
  have hs:(N:Int).sign=1:=Int.sign_eq_one_of_pos (by omega)
  have la:(zl (N:Int)).length≤100000:=Nat.le_trans (zl_len_le (k:=9) (by decide) (by simpa using h1)) (by decide)
  have HS:=Lib.hid hs;have HLA:=Lib.hid la;have HN:=Lib.hid hN;have HP:=Lib.hid hp;have H1:=Lib.hid h1;have H0:=Lib.hid h0;have HG:=Lib.hid g
  clear hs la hN hp h1 h0 g
  have hfp:=field_p
  have hmk:∀ W,(Instr.makeSlice 151 (.int .i64 1) (.int .i64 1)).run Tryz.prog W = .ok (.slice (some ⟨W.heap.size,0,none⟩) 1 1) (W.alloc (.cells #[.int .u64 0] 159)):=fun W=>by kernel_rfl
  go_enter Tryz.func176,Tryz.ntmps176
  go_wp2_with (first
    | (go_at_call 98;refine (HS.out▸sign_c (N:Int) _).mono ?_;rintro e _ ⟨rfl,rfl⟩)
    | (go_at_call 125;refine (open_c (N:Int) _ HLA.out).mono ?_;rintro e w3 ⟨va,rfl,e3,ad,na,ca,rfl,ma⟩;obtain rfl:na=1:=ma.len_one (by simpa using HP.out) (by simpa using H1.out)))
  generalize hc0:(Question.appendCap 2 1 159).cut (w3.tape w3.drawn (Question.appendCap 2 1 159))=c0
  have hcb:2≤c0∧c0≤9223372036854775807:=hc0▸cap_bd _ _
  clear hc0
  refine wp_name (fun W=>Ext w W∧Mag W (.slice ad 1 ca) N∧Mag W (.slice (Option.some ⟨w3.heap.size+1+1,0,none⟩) 2 c0) 1000000000) ⟨(((e3.alloc _).alloc _).alloc _).drew,(by simpa using ma.ext (((((Ext.refl _).alloc _).alloc _).alloc _).drew)),?_⟩ ?_
  · have hB:Blk _ (w3.heap.size+1+1) _ 159:=(Blk.new' (w:=(w3.alloc (.cells #[.int .u64 0] 159)).alloc (.cells #[.int .u64 1] 159)) (cs:=#[.int .u64 0,.int .u64 1] ++ Builtin.zeroCells #[.int .u64 0] (c0-2)) (t:=159) (by simp)).drew
    have g1:((#[.int .u64 0,.int .u64 1]:Array Value) ++ Builtin.zeroCells #[.int .u64 0] (c0-2))[0]?=Option.some (.int .u64 0):=by rw [Array.getElem?_append_left (by decide)];rfl
    have g2:((#[.int .u64 0,.int .u64 1]:Array Value) ++ Builtin.zeroCells #[.int .u64 0] (c0-2))[1]?=Option.some (.int .u64 1):=by rw [Array.getElem?_append_left (by decide)];rfl
    have c1:=hB.cell 0 g1
    have c2:=hB.cell 1 g2
    refine ⟨[0,1],Holds.some rfl (by omega) (by omega) hB.lt (fun i hi=>?_),⟨fun x hx=>?_,by decide⟩,rfl⟩
    · match i,hi with
      | 0,_=>exact c1
      | 1,_=>exact c2
    · simp at hx;omega
  rintro w4 ⟨e4,ma4,mx4⟩
  have HR4:Hid (r≤1000000000):=Lib.hid (by have:=H1.out;rw [← HN.out] at this;have h:=H0.out;have:=Nat.le_mul_of_pos_right r h;omega)
  clear ma e3
  go_loopg [5] 1000000000 (fun gk x W=>∃ (X:Nat) (xa:Option Addr) (xn xc:Nat),x = .slice xa xn xc∧Hid (Mag W (.slice xa xn xc) X∧X≤1000000000∧r≤X∧Ext w W∧Mag W (.slice ad 1 ca) N)∧X≤gk)
  case atStart=>exact ⟨1000000000,_,_,_,rfl,Lib.hid ⟨mx4,Nat.le_refl _,HR4.out,e4,ma4⟩,Nat.le_refl _⟩
  case round =>
    rename World=>wL
    obtain ⟨X,xa,xn,xc,rfl,HH,hgk⟩:=hrel
    have HX0:Hid (0<X):=Lib.hid (Nat.lt_of_lt_of_le H0.out HH.out.2.2.1)
    obtain ⟨q,hq⟩:∃ q,N / X=q:=⟨_,rfl⟩
    obtain ⟨Y,hY⟩:∃ Y,(X+q) / 2=Y:=⟨_,rfl⟩
    have hst:=root_step H0.out HH.out.2.2.1
    rw [HN.out,hq,hY] at hst
    have HST:=Lib.hid hst
    have hqs:q≤1000000000:=by rw [← hq];exact Nat.le_trans (Nat.div_le_self _ _) (Nat.le_of_lt H1.out)
    have HQS:=Lib.hid hqs;have HQ:=Lib.hid hq;have HY:=Lib.hid hY
    have HGK:=Lib.hid hgk
    clear hst hqs hq hY hgk
    go_wp2_with fail
    refine (divide_c N X _ _ _ HH.out.2.2.2.2 HH.out.1 HX0.out (fd_small (Nat.le_of_lt H1.out))).mono ?_;rintro e w5 ⟨vq,vr,rfl,e5,mq,mr⟩;obtain ⟨qa,ql,qc,rfl⟩:=mq.slice;obtain ⟨ra,rl,rc,rfl⟩:=mr.slice
    rw [HQ.out] at mq
    go_wp2_with fail
    refine (plus_c X q _ _ _ (HH.out.1.ext e5) mq (fd_small HH.out.2.1).fit (fd_small HQS.out).fit).mono ?_;rintro e w6 ⟨vs,rfl,e6,ms⟩;obtain ⟨sa,sl,sc,rfl⟩:=ms.slice
    go_wp2_with fail
    refine (divide_c (X+q) 2 _ _ _ (ms.ext ((Ext.refl _).alloc _)) ⟨[2],Holds.one _ .u64 2 _,⟨fun x hx=>by simp at hx;omega,by decide⟩,rfl⟩ (by decide) ((⟨by decide⟩:IB 10 (2000000000:Int)).fit (by decide) |>.mono (by have:=HH.out.2.1;have:=HQS.out;simp;omega))).mono ?_;rintro e w7 ⟨vy,vz,rfl,e7,my,mz⟩;obtain ⟨ya,yl,yc,rfl⟩:=my.slice;obtain ⟨za,zl9,zc,rfl⟩:=mz.slice
    rw [HY.out] at my
    have HE:Hid (Ext w w7):=Lib.hid (((HH.out.2.2.2.1.trans e5).trans e6).trans (((Ext.refl _).alloc _).trans e7))
    have HE2:Hid (Ext wL w7):=Lib.hid ((e5.trans e6).trans (((Ext.refl _).alloc _).trans e7))
    have HMY:=Lib.hid my
    clear e5 e6 e7 mq mr ms my mz
    by_cases hlt:r<X
    · have hyl:=HST.out.2.1 hlt
      have hnc:ncmp Y X=-1:=by unfold ncmp;rw [if_pos hyl]
      have HNC:=Lib.hid hnc;have HYL:=Lib.hid hyl
      clear hnc hyl
      go_wp2_with fail
      refine (HNC.out▸order_c Y X _ _ _ HMY.out (HH.out.1.ext HE2.out)).mono ?_;rintro e w8 ⟨rfl,e8⟩
      go_wp2_with fail
      go_roundg Y
      case rel=>exact ⟨Y,ya,yl,yc,rfl,Lib.hid ⟨HMY.out.ext e8,Nat.le_trans (Nat.le_of_lt HYL.out) HH.out.2.1,HST.out.1,HE.out.trans e8,(HH.out.2.2.2.2.ext HE2.out).ext e8⟩,Nat.le_refl _⟩
      case measure=>have:=HYL.out;have:=HGK.out;omega
    · have hX:X=r:=Nat.le_antisymm (Nat.le_of_not_lt hlt) HH.out.2.2.1
      have hnc:ncmp Y X=0:=by have:=HST.out.2.2 hX.symm;unfold ncmp;rw [if_neg (by omega),if_neg (by omega)]
      have HNC:=Lib.hid hnc;have HXR:=Lib.hid hX
      clear hnc hX hlt
      go_wp2_with fail
      refine (HNC.out▸order_c Y X _ _ _ HMY.out (HH.out.1.ext HE2.out)).mono ?_;rintro e w8 ⟨rfl,e8⟩
      go_wp2_with fail
      refine (close_c false X _ _ _ _ ((HH.out.1.ext HE2.out).ext e8) (fd_small HH.out.2.1).fit.five (HG.out.ext (HE.out.trans e8))).mono ?_;rintro e w9 ⟨rfl,e9⟩
      go_wp2
      go_ret2
      exact ⟨by first|rfl|(rw [show sgn false X=(r:Int) by rw [HXR.out];rfl];rfl)|(have:=HXR.out;subst this;rfl),(HE.out.trans e8).trans e9⟩
end Go.Proofs.YtjeimihnoiephaaGreatDoor
