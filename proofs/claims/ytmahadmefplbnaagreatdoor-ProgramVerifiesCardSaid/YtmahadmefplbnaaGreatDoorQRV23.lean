/- Part 23. -/
import Derived.Test.YtmahadmefplbnaaGreatDoorQRV22
import Derived.Handy
set_option maxRecDepth 100000
set_option maxHeartbeats 2000000
set_option linter.unusedVariables false
theorem Go.Proofs.YtmahadmefplbnaaGreatDoor.Hi23 {p:Prop} (h:p):Go.RowKit.Hid p:=h
namespace Go.Proofs.YtmahadmefplbnaaGreatDoor
open Go Go.RowKit
structure V3 where
 x:Rat
 y:Rat
 z:Rat
deriving DecidableEq
abbrev vv (v:V3):Value:=.agg #[.string (qs v.x),.string (qs v.y),.string (qs v.z)]
structure P2 where
 x:Rat
 y:Rat
deriving DecidableEq
abbrev pv (p:P2):Value:=.agg #[.string (qs p.x),.string (qs p.y)]
structure PB (k:Nat) (p:P2):Prop where
 x:QB k p.x
 y:QB k p.y
def vadd (a b:V3):V3:=⟨a.x+b.x,a.y+b.y,a.z+b.z⟩
structure VB (k:Nat) (v:V3):Prop where
 x:QB k v.x
 y:QB k v.y
 z:QB k v.z
theorem VB.add {k m:Nat} {a b:V3} (h:VB k a) (h2:VB m b):VB (k+m+1) (vadd a b):=⟨h.x.add h2.x,h.y.add h2.y,h.z.add h2.z⟩
theorem qs_m1:qs (-1)=⟨#[45,49]⟩:=by
 have h:(-1:Rat).num<0:=by decide
 have:=qs_neg_pos (q:=1) (by decide);rw [← this];have e:qs (1:Rat)=zs 1:=by unfold qs zs;rw [ql_one (by rfl)];rfl
 rw [e,zs_one];rfl
open Classical in
noncomputable def rq (s:ByteArray):Bool:=decide (RightQ s.data.toList)
open Classical in
theorem rq_true {s:ByteArray}:rq s=true ↔ RightQ s.data.toList:=by unfold rq;exact decide_eq_true_iff
open Classical in
theorem rq_false {s:ByteArray}:rq s=false ↔ ¬ RightQ s.data.toList:=by unfold rq;exact decide_eq_false_iff_not
theorem rcheck_yes (s:ByteArray) (w:World) (g:Gd w) (hl:s.size<=1000000) (h:rq s=true):Calls Tryz.prog 102 #[.string s] w (Ret w (.int .i64 0)) :=
 rcheck_c s w g 0 hl ⟨fun _=>rfl,fun e=>absurd (rq_true.1 h) e⟩
theorem rcheck_not (s:ByteArray) (w:World) (g:Gd w) (hl:s.size<=1000000) (h:rq s=false):Calls Tryz.prog 102 #[.string s] w (Ret w (.int .i64 2)) :=
 rcheck_c s w g 2 hl ⟨fun e=>absurd e (rq_false.1 h),fun _=>rfl⟩
theorem p3_c (q:Rat) (w:World) (g:Gd w) (hq:QB 200 q):Calls Tryz.prog 71 #[.string (qs q)] w (Ret w (.tuple #[.string (zs q.num),.string (zs (q.den:Int)),.bool true])):=by
 have hl:=hq.len (by decide);have hn:IB 200 q.num:=⟨hq.num⟩
 have hd:IB 200 (q.den:Int):=⟨by simpa using hq.den⟩
 by_cases h:q.den=1
 ·have e1:qs q=zs q.num:=by unfold qs zs;rw [ql_one h]
  have e2:zs (q.den:Int)=⟨#[49]⟩:=by rw [h];exact zs_one
  rw [e2];rw [e1] at hl ⊢;have r:RightI (zs q.num).data.toList:=by rw [zs_list];exact right_of_ib hn
  exact p3_none (zs q.num) true w (by rw [zs_list];exact zl_no_slash _) hl ⟨fun _=>rfl,fun e=>absurd r e⟩
 ·have e2:zs (q.den:Int)=⟨(Lib.decDigits q.den).toArray⟩:=by unfold zs;rw [zl_nat]
  have e3:zs q.num=⟨(zl q.num).toArray⟩:=rfl;rw [e2,e3];refine p3_at (qs q) _ _ true w g (by rw [qs_list,ql_frac h]) (zl_no_slash _) hl (Or.inr (Or.inr ⟨q.num,q.den,rfl,(zl_nat _).symm,hn,hd,Or.inr (Or.inr ⟨?_,?_,rfl⟩)⟩))
  ·have:=q.den_nz;omega
  ·have:=q.reduced;unfold Nat.Coprime at this;unfold Int.gcd;simpa using this
theorem p3_any (s:ByteArray) (w:World) (g:Gd w) (hl:s.size<=1000000):∃ a b:ByteArray,Calls Tryz.prog 71 #[.string s] w (Ret w (.tuple #[.string a,.string b,.bool (rq s)])):=by
 rcases slash_cases s.data.toList with hn|⟨x,y,hs,hx⟩
 ·refine ⟨_,_,p3_none s (rq s) w hn hl ⟨fun h=>rq_true.2 ((rightQ_none hn).2 h),fun h=>rq_false.2 (fun e=>h ((rightQ_none hn).1 e))⟩⟩
 ·have hq:=rightQ_at hs hx;refine ⟨_,_,p3_at s x y (rq s) w g hs hx hl ?_⟩;by_cases h1:RightI x
  ·by_cases h2:RightI y
   ·right;right;obtain ⟨a,rfl,ha⟩:=h1;obtain ⟨b,rfl,hb⟩:=h2;refine ⟨a,b,rfl,rfl,IB.of_len ha,IB.of_len hb,?_⟩;have key:RightQ s.data.toList ↔ (1<b/\Int.gcd a b=1):=by
     constructor
     ·intro e;obtain ⟨a',b',e1,e2,_,_,k1,k2,k3⟩:=hq.1 e;have:=zl_inj e1;have:=zl_inj e2
      subst_vars
      exact ⟨by omega,k3⟩
     ·rintro ⟨k1,k3⟩;have k2:a≠0:=by
       intro e;subst e;rw [Int.gcd_zero_left] at k3;omega
      refine hq.2 ⟨a,b.natAbs,rfl,?_,ha,hb,by omega,k2,?_⟩
      ·rw [show ((b.natAbs:Nat):Int)=b by omega]
      ·rw [show ((b.natAbs:Nat):Int)=b by omega];exact k3
    by_cases h3:1<b
    ·by_cases h4:Int.gcd a b=1
     ·exact Or.inr (Or.inr ⟨h3,h4,rq_true.2 (key.2 ⟨h3,h4⟩)⟩)
     ·exact Or.inr (Or.inl ⟨h3,h4,rq_false.2 (fun e=>h4 (key.1 e).2)⟩)
    ·exact Or.inl ⟨h3,rq_false.2 (fun e=>h3 (key.1 e).1)⟩
   ·right;left;exact ⟨h1,h2,rq_false.2 (fun e=>by obtain ⟨a,b,e1,e2,_,h4,_⟩:=hq.1 e;exact h2 ⟨b,e2,by simpa using h4⟩)⟩
  ·left;exact ⟨h1,rq_false.2 (fun e=>by obtain ⟨a,b,e1,e2,h3,_⟩:=hq.1 e;exact h1 ⟨a,e1,h3⟩)⟩
theorem r7_c (s:ByteArray) (w:World) (g:Gd w) (hl:s.size<=1000000):Calls Tryz.prog 65 #[.string s] w (Ret w (.bool (rq s))):=by
 obtain ⟨a,b,h⟩:=p3_any s w g hl;have H:=Hi23 h;clear h g;go_enter Tryz.func65,Tryz.ntmps65;go_wp2_with (go_at_call 71;refine H.out.mono ?_;rintro e w1 ⟨rfl,e1⟩);go_ret;exact ⟨rfl,e1⟩
theorem sg7_c (q:Rat) (w:World) (g:Gd w) (hq:QB 200 q):Calls Tryz.prog 69 #[.string (qs q)] w (Ret w (.int .i64 q.num.sign)):=by
 have H:=Hi23 (p3_c q w g hq);clear g hq;go_enter Tryz.func69,Tryz.ntmps69;go_wp2_with (first
  | (go_at_call 71;refine H.out.mono ?_;rintro e w1 ⟨rfl,e1⟩)
  | (go_at_call 144;refine (fsign_c _ _).mono ?_;rintro e w2 ⟨rfl,e2⟩))
 go_ret;exact ⟨rfl,e1.trans e2⟩
theorem p3_make (n:Int) (d:Nat) {k m:Nat} (w:World) (g:Gd w) (hd:d≠0) (hn:IB k n) (hdb:IB m (d:Int)) (hk:k<=8000) (hm:m<=8000) :
    Calls Tryz.prog 72 #[.string (zs n),.string (zs (d:Int))] w (Ret w (.string (qs (mkRat n d)))):=by
 obtain ⟨f1,f2,f3,f4,f5,f6⟩:=low_facts n d hd hn hdb;obtain ⟨G,hG⟩:∃ G:Nat,G=Int.gcd n d:=⟨_,rfl⟩
 rw [← hG] at f1 f2 f3 f4 f5 f6;rw [← f6];have HF1:=Hi23 f1;have HF2:=Hi23 f2;have HF3:=Hi23 f3;have HF4:=Hi23 f4;have HF5:=Hi23 f5;have HG:=Hi23 hG;have HN:=Hi23 hn;have HD:=Hi23 hdb;have HGD:=Hi23 g;obtain ⟨D',hD'⟩:∃ D',D'=d / G:=⟨_,rfl⟩
 rw [← hD'] at HF3 HF4 f3;rw [← hD'];have l1:=zs_size_le f2 (by omega);have l2:=zs_size_le f3 (by omega);have hgo:∀ v:ByteArray,Hid (v=⟨(joinl (n / (G:Int)) D').toArray⟩)->((D'=1->v=zs (n / (G:Int)))/\(D'≠1->v=(zs (n / (G:Int)) ++ (⟨#[47]⟩:ByteArray)) ++ zs (D':Int))):=by
  intro v hv;refine ⟨fun h=>?_,fun h=>?_⟩
  ·rw [hv.out];unfold joinl;rw [if_pos h];rfl
  ·rw [hv.out,join_bytes];unfold joinl;rw [if_neg h]
 have HV:=Hi23 (hgo _ (Hi23 rfl));by_cases h1:D'=1
 ·have g1:=zs_is1 (n:=(D':Int)) (by omega);have E:=Hi23 (HV.out.1 h1);clear f1 f2 f3 f4 f5 f6 hG hn hdb g h1 hd hD' hgo HV;go_enter Tryz.func72,Tryz.ntmps72;go_wp2_with (first
   | (go_at_call 147;refine (fgcd_c _ _ _ HGD.out HN.out HD.out (by omega) (by omega)).mono ?_;rw [← HG.out];rintro e w1 ⟨rfl,e1⟩)
   | (go_at_call 148;((with_reducible refine (fdivmod_c n (G:Int) w1 (HGD.out.ext e1) HN.out HF1.out (by omega) (by omega) HF5.out).mono ?_);rintro e w2 ⟨rfl,e2⟩))
   | (go_at_call 148;refine (fdivmod_c (d:Int) (G:Int) _ (HGD.out.ext (e1.trans e2)) HD.out HF1.out (by omega) (by omega) HF5.out).mono ?_;rw [HF4.out];rintro e w3 ⟨rfl,e3⟩))
  go_ret;exact ⟨ret_qs E.out.symm,(e1.trans e2).trans e3⟩
 ·have g1:=zs_not1 (n:=(D':Int)) (by omega);have E:=Hi23 (HV.out.2 h1);clear f1 f2 f3 f4 f5 f6 hG hn hdb g h1 hd hD' hgo HV;go_enter Tryz.func72,Tryz.ntmps72;go_wp2_with (first
   | (go_at_call 147;refine (fgcd_c _ _ _ HGD.out HN.out HD.out (by omega) (by omega)).mono ?_;rw [← HG.out];rintro e w1 ⟨rfl,e1⟩)
   | (go_at_call 148;((with_reducible refine (fdivmod_c n (G:Int) w1 (HGD.out.ext e1) HN.out HF1.out (by omega) (by omega) HF5.out).mono ?_);rintro e w2 ⟨rfl,e2⟩))
   | (go_at_call 148;refine (fdivmod_c (d:Int) (G:Int) _ (HGD.out.ext (e1.trans e2)) HD.out HF1.out (by omega) (by omega) HF5.out).mono ?_;rw [HF4.out];rintro e w3 ⟨rfl,e3⟩))
  go_ret;exact ⟨ret_qs E.out.symm,(e1.trans e2).trans e3⟩
theorem p3_plus (a b:Rat) (w:World) (g:Gd w) (qa:QB 200 a) (qb:QB 200 b):Calls Tryz.prog 143 #[.string (qs a),.string (qs b)] w (Ret w (.string (qs (a+b)))):=by
 have E:=Hi23 (Rat.add_def' a b);have HG:=Hi23 g;have QA:=Hi23 qa;have QB':=Hi23 qb;have P8:=Hi23 (Nat.mul_ne_zero a.den_nz b.den_nz);have P9:Hid ((a.den:Int)*(b.den:Int)=((a.den*b.den:Nat):Int)):=Hi23 (Int.natCast_mul a.den b.den).symm;have IBD:Hid (IB (200+200) ((a.den*b.den:Nat):Int)):=Hi23 (by rw [← P9.out];exact qa.denIB.mul qb.denIB);clear g qa qb;go_enter Tryz.func143,Tryz.ntmps143;go_wp2_with (first
  | (go_at_call 71;((with_reducible refine (p3_c a w HG.out QA.out).mono ?_);rintro e w1 ⟨rfl,e1⟩))
  | (go_at_call 71;((with_reducible refine (p3_c b w1 (HG.out.ext e1) QB'.out).mono ?_);rintro e w2 ⟨rfl,e2⟩;have e12:=Ext.trans e1 e2))
  | (go_at_call 73;((with_reducible refine (fmul_c a.num b.den w2 (HG.out.ext e12) QA.out.numIB QB'.out.denIB (by omega) (by omega)).mono ?_);rintro e w3 ⟨rfl,e3⟩;have e13:=e12.trans e3))
  | (go_at_call 73;((with_reducible refine (fmul_c b.num a.den w3 (HG.out.ext e13) QB'.out.numIB QA.out.denIB (by omega) (by omega)).mono ?_);rintro e w4 ⟨rfl,e4⟩;have e14:=e13.trans e4))
  | (go_at_call 215;refine (fadd_c _ _ _ (HG.out.ext e14) (QA.out.numIB.mul QB'.out.denIB) (QB'.out.numIB.mul QA.out.denIB) (by omega) (by omega)).mono ?_;rintro e w5 ⟨rfl,e5⟩;have e15:=e14.trans e5)
  | (go_at_call 73;refine (fmul_c (a.den:Int) b.den _ (HG.out.ext e15) QA.out.denIB QB'.out.denIB (by omega) (by omega)).mono ?_;rw [P9.out];rintro e w6 ⟨rfl,e6⟩;have e16:=e15.trans e6)
  | (go_at_call 72;refine (p3_make _ (a.den*b.den) _ (HG.out.ext e16) P8.out ((QA.out.numIB.mul QB'.out.denIB).add (QB'.out.numIB.mul QA.out.denIB)) IBD.out (by omega) (by omega)).mono ?_;rintro e w7 ⟨rfl,e7⟩))
 go_ret;exact ⟨ret_qs (by rw [E.out]),e16.trans e7⟩
theorem p3_times (a b:Rat) (w:World) (g:Gd w) (qa:QB 200 a) (qb:QB 200 b):Calls Tryz.prog 21 #[.string (qs a),.string (qs b)] w (Ret w (.string (qs (a*b)))):=by
 have E:=Hi23 (Rat.mul_def' a b);have HG:=Hi23 g;have QA:=Hi23 qa;have QB':=Hi23 qb;have P8:=Hi23 (Nat.mul_ne_zero a.den_nz b.den_nz);have P9:Hid ((a.den:Int)*(b.den:Int)=((a.den*b.den:Nat):Int)):=Hi23 (Int.natCast_mul a.den b.den).symm;have IBD:Hid (IB (200+200) ((a.den*b.den:Nat):Int)):=Hi23 (by rw [← P9.out];exact qa.denIB.mul qb.denIB);clear g qa qb;go_enter Tryz.func21,Tryz.ntmps21;go_wp2_with (first
  | (go_at_call 71;((with_reducible refine (p3_c a w HG.out QA.out).mono ?_);rintro e w1 ⟨rfl,e1⟩))
  | (go_at_call 71;((with_reducible refine (p3_c b w1 (HG.out.ext e1) QB'.out).mono ?_);rintro e w2 ⟨rfl,e2⟩;have e12:=Ext.trans e1 e2))
  | (go_at_call 73;((with_reducible refine (fmul_c a.num b.num w2 (HG.out.ext e12) QA.out.numIB QB'.out.numIB (by omega) (by omega)).mono ?_);rintro e w3 ⟨rfl,e3⟩;have e13:=e12.trans e3))
  | (go_at_call 73;refine (fmul_c (a.den:Int) b.den _ (HG.out.ext e13) QA.out.denIB QB'.out.denIB (by omega) (by omega)).mono ?_;rw [P9.out];rintro e w6 ⟨rfl,e6⟩;have e16:=e13.trans e6)
  | (go_at_call 72;refine (p3_make _ (a.den*b.den) _ (HG.out.ext e16) P8.out (QA.out.numIB.mul QB'.out.numIB) IBD.out (by omega) (by omega)).mono ?_;rintro e w7 ⟨rfl,e7⟩))
 go_ret;exact ⟨ret_qs (by rw [E.out]),e16.trans e7⟩
def Tx (w:World) (v:Value) (l:List ByteArray):Prop :=
 (l=[]/\v = .slice none 0 0)∨∃ (a:Addr) (cap:Nat),v = .slice (some a) l.length cap/\l.length<=cap/\cap<=maxLen/\∀ i (h:i<l.length),w.cell? (a.add i)=some (.string l[i])
theorem cell_lt {w:World} {a:Addr} {v:Value} (h:w.cell? a=some v):a.block<w.heap.size:=by
 rcases Nat.lt_or_ge a.block w.heap.size with h'|h'
 ·exact h'
 ·simp [World.cell?,Array.getElem?_eq_none h'] at h
theorem Tx.ext {w w':World} {v:Value} {l:List ByteArray} (h:Tx w v l) (e:Ext w w'):Tx w' v l:=by
 rcases h with h|⟨a,cap,h1,h2,h3,h4⟩
 ·exact Or.inl h
 ·exact Or.inr ⟨a,cap,h1,h2,h3,fun i hi=>(e.cell (cell_lt (h4 i hi))).trans (h4 i hi)⟩
structure T3 where
 x:ByteArray
 y:ByteArray
 z:ByteArray
def T3.l (t:T3):List ByteArray:=[t.x,t.y,t.z]
structure T2 where
 x:ByteArray
 y:ByteArray
abbrev tp (t:T2):Value:=.agg #[.string t.x,.string t.y]
def T2.l (t:T2):List ByteArray:=[t.x,t.y]
theorem rq_qs {q:Rat} (h:QB 200 q):rq (qs q)=true :=
 rq_true.2 ⟨q,qs_list q,dec_len_le (by decide) h.num,dec_len_le (by decide) h.den⟩
theorem Blk.new' {w:World} {k:Nat} {cs:Array Value} {t:TypeId} (hk:k=w.heap.size):Blk (w.alloc (.cells cs t)) k cs t:=by subst hk;exact Blk.new w cs t
theorem Blk.nw {w:World} {k:Nat} (cs:Array Value) (t:TypeId) (hk:k = w.heap.size:=by first|rfl|(simp only [World.size_alloc];done)|(simp only [World.size_alloc];omega)|simp):Blk (w.alloc (.cells cs t)) k cs t:=Blk.new' hk
theorem wp_name {P:World->Prop} {w0:World} (I:World->Prop) (h:I w0) (k:∀ W,I W->P W):P w0:=k w0 h
theorem QB.min {k m:Nat} {a b:Rat} (ha:QB k a) (hb:QB m b):QB (max k m) (qmin a b):=by
 unfold qmin;split
 ·exact hb.mono (Nat.le_max_right _ _)
 ·exact ha.mono (Nat.le_max_left _ _)
theorem QB.max {k m:Nat} {a b:Rat} (ha:QB k a) (hb:QB m b):QB (Nat.max k m) (qmax a b):=by
 unfold qmax;split
 ·exact hb.mono (Nat.le_max_right _ _)
 ·exact ha.mono (Nat.le_max_left _ _)
def v3at (v:V3) (k:Nat):Rat:=if k=0 then v.x else if k=1 then v.y else v.z
theorem VB.at {n:Nat} {v:V3} (h:VB n v) (k:Nat):QB n (v3at v k):=by
 unfold v3at;split
 ·exact h.x
 ·split
  ·exact h.y
  ·exact h.z
theorem VB.mono {k m:Nat} {v:V3} (h:VB k v) (hk:k<=m):VB m v:=⟨h.x.mono hk,h.y.mono hk,h.z.mono hk⟩
theorem PB.mono {k m:Nat} {v:P2} (h:PB k v) (hk:k<=m):PB m v:=⟨h.x.mono hk,h.y.mono hk⟩
theorem VB.all {v:V3} (h:VB 200 v):(T3.l ⟨qs v.x,qs v.y,qs v.z⟩).all rq=true:=by simp [T3.l,rq_qs h.x,rq_qs h.y,rq_qs h.z]
theorem PB.all {p:P2} (h:PB 200 p):(T2.l ⟨qs p.x,qs p.y⟩).all rq=true:=by simp [T2.l,rq_qs h.x,rq_qs h.y]
def z3 (x y z:Rat):Bool:=decide (x=0/\y=0/\z=0)
theorem IB.zero:IB 1 0:=⟨by decide⟩
theorem IB.one:IB 1 1:=⟨by decide⟩
theorem IB.gcd {k m:Nat} {a b:Int} (ha:IB k a) (hb:IB m b):IB (max k m) (Int.gcd a b:Int):=by
 by_cases h:b=0
 ·subst h;have:=ha.mono (Nat.le_max_left k m);exact this.of_le (by simp)
 ·exact (hb.mono (Nat.le_max_right k m)).of_le (by rw [Int.natAbs_natCast];exact Nat.le_of_dvd (by omega) (Int.gcd_dvd_natAbs_right a b))
theorem IB.div {k:Nat} {a:Int} (ha:IB k a) (b:Int):IB k (a / b):=ha.of_le (Int.natAbs_ediv_le_natAbs a b)
def sm (n:Int) (d:Nat):Rat:=mkRat n (1+d)
theorem sm_qb {n:Int} {d:Nat} (h0:-32768<=n) (h1:n<=32767) (h2:d<=255):QB 5 (sm n d):=QB.mk' (by omega) (by omega) (by omega)
structure Pla where
 n0:Int
 d0:Nat
 n1:Int
 d1:Nat
 n2:Int
 d2:Nat
structure PlaOk (p:Pla):Prop where
 a0:-32768<=p.n0
 b0:p.n0<=32767
 c0:p.d0<=255
 a1:-32768<=p.n1
 b1:p.n1<=32767
 c1:p.d1<=255
 a2:-32768<=p.n2
 b2:p.n2<=32767
 c2:p.d2<=255
def pvec (p:Pla):V3:=⟨sm p.n0 p.d0,sm p.n1 p.d1,sm p.n2 p.d2⟩
def ppt (p:Pla):P2:=⟨sm p.n0 p.d0,sm p.n1 p.d1⟩
theorem PlaOk.v {p:Pla} (h:PlaOk p):VB 5 (pvec p):=⟨sm_qb h.a0 h.b0 h.c0,sm_qb h.a1 h.b1 h.c1,sm_qb h.a2 h.b2 h.c2⟩
theorem PlaOk.p {p:Pla} (h:PlaOk p):PB 5 (ppt p):=⟨sm_qb h.a0 h.b0 h.c0,sm_qb h.a1 h.b1 h.c1⟩
theorem num_sign_pos {q:Rat} (h:0<q):q.num.sign=1:=by
 have h1:=(Rat.lt_iff 0 q).1 h;simp at h1;exact Int.sign_eq_one_of_pos h1
structure QD (n d:Nat) (q:Rat):Prop where
 num:q.num.natAbs<10 ^ n
 den:q.den<10 ^ d
theorem QD.qb {n d k:Nat} {q:Rat} (h:QD n d q) (h1:n<=k) (h2:d<=k):QB k q :=
 ⟨Nat.lt_of_lt_of_le h.num (Nat.pow_le_pow_right (by decide) h1),Nat.lt_of_lt_of_le h.den (Nat.pow_le_pow_right (by decide) h2)⟩
theorem QD.mk' {n d:Nat} {x:Int} {y:Nat} (h0:y≠0) (h1:x.natAbs<10 ^ n) (h2:y<10 ^ d):QD n d (mkRat x y) :=
 ⟨Nat.lt_of_le_of_lt (mkRat_num_le _ _) h1,Nat.lt_of_le_of_lt (mkRat_den_le _ _ h0) h2⟩
theorem QD.neg {n d:Nat} {a:Rat} (ha:QD n d a):QD n d (-a):=⟨by rw [Rat.neg_num,Int.natAbs_neg];exact ha.num,ha.den⟩
theorem QD.add {n d m e:Nat} {a b:Rat} (ha:QD n d a) (hb:QD m e b):QD (max (n+e) (d+m)+1) (d+e) (a+b):=by
 rw [Rat.add_def'];refine QD.mk' (Nat.mul_ne_zero a.den_nz b.den_nz) ?_ (lt_mul_pow ha.den hb.den);refine Nat.lt_of_le_of_lt (Int.natAbs_add_le _ _) ?_;rw [Int.natAbs_mul,Int.natAbs_mul,Int.natAbs_natCast,Int.natAbs_natCast,Nat.mul_comm b.num.natAbs];exact lt_add_pow (lt_mul_pow ha.num hb.den) (lt_mul_pow ha.den hb.num)
theorem QD.mul {n d m e:Nat} {a b:Rat} (ha:QD n d a) (hb:QD m e b):QD (n+m) (d+e) (a*b):=by
 rw [Rat.mul_def'];exact QD.mk' (Nat.mul_ne_zero a.den_nz b.den_nz) (by rw [Int.natAbs_mul];exact lt_mul_pow ha.num hb.num) (lt_mul_pow ha.den hb.den)
theorem QD.inv {n d:Nat} {a:Rat} (ha:QD n d a) (hn:1<=n):QD d n a⁻¹:=by
 constructor
 ·rw [Rat.num_inv,Int.natAbs_mul,Int.natAbs_natCast];have:a.num.sign.natAbs<=1:=by rw [Int.natAbs_sign];split <;> omega
  exact Nat.lt_of_le_of_lt (Nat.mul_le_mul_right _ this) (by rw [Nat.one_mul];exact ha.den)
 ·rw [Rat.den_inv];split
  ·exact Nat.one_lt_pow (by omega) (by decide)
  ·exact ha.num
theorem QD.div {n d m e:Nat} {a b:Rat} (ha:QD n d a) (hb:QD m e b) (hm:1<=m):QD (n+e) (d+m) (a / b):=by
 rw [Rat.div_def];exact ha.mul (hb.inv hm)
structure VD (n d:Nat) (v:V3):Prop where
 x:QD n d v.x
 y:QD n d v.y
 z:QD n d v.z
theorem num_sign_neg {q:Rat} (h:q<0):q.num.sign=-1:=by
 have h1:=(Rat.lt_iff q 0).1 h;simp at h1;exact Int.sign_eq_neg_one_of_neg h1
theorem VD.vb {n d k:Nat} {v:V3} (h:VD n d v) (h1:n<=k) (h2:d<=k):VB k v:=⟨h.x.qb h1 h2,h.y.qb h1 h2,h.z.qb h1 h2⟩
end Go.Proofs.YtmahadmefplbnaaGreatDoor
