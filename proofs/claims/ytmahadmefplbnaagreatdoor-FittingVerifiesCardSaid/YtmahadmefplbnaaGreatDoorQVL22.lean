/- Part 22. -/
import Derived.Test.YtmahadmefplbnaaGreatDoorQVLB
import Derived.Test.YtmahadmefplbnaaGreatDoorQVL21
import Derived.Laws.AppendOwnNone
set_option maxRecDepth 100000
set_option maxHeartbeats 2000000
open Go.Proofs.Tryz
namespace Go.Proofs.YtmahadmefplbnaaGreatDoor
open Go Go.RowKit
theorem sL {P:Program} {W:World} (t ty e:TypeId) (i:TypeInfo) (ht:P.underlying t=some (.slice e)) (hi:P.info? e=some i) (g cap:Nat) (ad:Option Addr) :
    (Builtin.append_ #[t,t] ty #[.slice (some ⟨g,0,none⟩) 0 0,.slice ad 0 cap]).run P W = .ok (.slice (some ⟨g,0,none⟩) 0 0) W:=by
 cases ad
 ·simp[Builtin.append_,run_underlying ht,sizeOf,typeInfo,hi,Builtin.lenOf,Builtin.firstCells,storeCells]
 ·simp[Builtin.append_,run_underlying ht,sizeOf,typeInfo,hi,Builtin.lenOf,Builtin.firstCells,storeCells,loadCells,loadCellsFrom]
theorem pO {P:Program} {w:World} {ops:Array Oper} {rest:List Oper} {o:Oper} {a:Act} {Q:Exit->Act->World->Prop} (hgd:o.guard=none) (s x:Operand) (t:TypeId)
    (ho:o.op = .call { callee:=.builtin .append,args:=#[s,x],argTypes:=#[t,t] })
    (e:TypeId) (i:TypeInfo) (ht:P.underlying t=some (.slice e)) (hi:P.info? e=some i) (g cap:Nat) (ad:Option Addr)
    (hs:a.eval s = .slice (some ⟨g,0,none⟩) 0 0) (hx:a.eval x = .slice ad 0 cap)
    (h:wpList P ops Q rest (a.put o.dst (.slice (some ⟨g,0,none⟩) 0 0)) w):wpList P ops Q (o :: rest) a w:=by
 refine wpList_plain hgd fun K hK=>?_
 have ng:=sL (P:=P) (W:=w) t o.type e i ht hi g cap ad;unfold Oper.wp;simp[execOp,ho,resolve,invoke,builtin,hs,hx,ng,Result.andThen];exact hK _ _ h
theorem tH:∀ {xs:List Int} {j:Nat} {d:Int},j<xs.length->ot (xs.set j (xs.getD j 0+d))=ot xs+10000 ^ j*d
 | x :: t,0,d,_=>by simp[ot];omega
 | x :: t,j+1,d,h=>by
  have ih:=tH (xs:=t) (j:=j) (d:=d) (by simpa using h);simp only[av,ot,List.getD_cons_succ,ih];rw[Int.mul_add,Int.pow_succ,Int.add_assoc,Int.mul_comm (10000 ^ j) 10000,Int.mul_assoc]
structure sq(P Q:List Nat)(k:Int)(i:Nat)(O:List Int):Prop where
 lo:i<=O.length
 hi:O.length<=P.length+i
 val:ot O=(mv 10000 P:Int)+k*mv 10000 (Q.take i)
 all:∀ y ∈ O,-200000000<=y/\y<=200000000
 rest:∀ j,i<=j->0<=O.getD j 0/\O.getD j 0<=9999
theorem sq.start{P Q:List Nat}{k:Int}(h:bK 10000 P):sq P Q k 0 (P.map Int.ofNat):=by
 refine⟨Nat.zero_le _,by simp,by rw[uF,List.take_zero];show _=_+k*((0:Nat):Int);simp,fun y hy=>?_,fun j _=>?_⟩
 ·obtain⟨x,hx,rfl⟩:=List.mem_map.1 hy;have:=h x hx;exact⟨by show _<=(x:Int);omega,by show(x:Int)<=_;omega⟩
 ·by_cases hj:j<P.length
  ·have:=h P[j] (List.getElem_mem _);rw[nD (by simpa using hj),List.getElem_map];exact⟨Int.natCast_nonneg _,by show(P[j]:Int)<=_;omega⟩
  ·simp[List.getElem?_eq_none (Nat.le_of_not_lt hj)]
theorem sq.pad{P Q:List Nat}{k:Int}{i:Nat}{O:List Int}(h:sq P Q k i O)(hl:O.length<=i):ot (O ++ [0])=ot O/\(∀ y ∈ O ++ [(0:Int)],-200000000<=y/\y<=200000000)/\(∀ j,i<=j->0<=(O ++ [(0:Int)]).getD j 0/\(O ++ [(0:Int)]).getD j 0<=9999):=by
 refine⟨by rw[Dz,Int.mul_zero,Int.add_zero],fun y hy=>?_,fun j hj=>?_⟩
 ·rcases List.mem_append.1 hy with hy|hy
  ·exact h.all y hy
  ·simp only[List.mem_singleton] at hy;subst hy;omega
 ·have Gy:O.length<=j:=ae;rw[List.getD_eq_getElem?_getD,List.getElem?_append_right Gy];rcases Nat.eq_zero_or_pos (j-O.length) with e|e
  ·rw[e];simp
  ·rw[List.getElem?_eq_none (by simp;omega)];simp
theorem sq.step {P Q:List Nat} {k:Int} {i:Nat} {O:List Int} {y:Nat} (h2:ot O=(mv 10000 P:Int)+k*mv 10000 (Q.take i)) (ha:∀ y ∈ O,-200000000<=y/\y<=200000000) (hr:∀ j,i<=j->0<=O.getD j 0/\O.getD j 0<=9999)
    (hh:O.length<=P.length+i+1) (hl:i<O.length) (hi:i<Q.length) (hy:y=Q[i]?.getD 0) (hy1:y<10000) (Uo:-9999<=k) (eY:k<=9999):sq P Q k (i+1) (O.set i (O.getD i 0+k*y)):=by
 have hky:-100000000<=k*y/\k*y<=100000000:=by
  have h1:(k*(y:Int)).natAbs<=10000*10000:=by rw[Int.natAbs_mul,Int.natAbs_natCast];exact Nat.mul_le_mul ae ae
  omega
 have Xv:=hr i (Nat.le_refl _);refine⟨by rw[List.length_set];omega,by rw[List.length_set];omega,?_,fun z hz=>?_,fun j hj=>?_⟩
 ·rw[tH hl,h2,iQ 10000 Q i hi,show Q[i]=y by rw[hy];simp[hi],Int.natCast_add,Int.natCast_mul,Int.natCast_pow,Int.mul_add,← Int.add_assoc]
  congr 1
  show(10000:Int) ^ i*(k*y)=k*((10000:Int) ^ i*y);rw[Int.mul_left_comm]
 ·rcases List.mem_or_eq_of_mem_set hz with hz|hz
  ·exact ha z hz
  ·rw[hz];omega
 ·rw[List.getD_eq_getElem?_getD,List.getElem?_set_ne ae,← List.getD_eq_getElem?_getD];exact hr j ae
theorem wF {w:World} {ad:Option Addr} {n c:Nat} {P:List Nat} (h:Holds .i64 w (.slice ad n c) P) (hn:0<n):∃ (b off:Nat),ad=some ⟨b,off,none⟩/\n=P.length /\
    ∀ j u,(P.map fun(x:Nat)=>Value.int .i64 x)[j]?=some u->w.cell? ((⟨b,off,none⟩:Addr).add j)=some u:=by
 obtain⟨uM,cap,b,off,hv,h1,h2,h3,h4⟩:=h;simp only[Value.slice.injEq] at hv;obtain⟨rfl,rfl,rfl⟩:=hv;refine⟨b,off,(h3 hn).1,rfl,fun j u hu=>?_⟩;have hj:j<P.length:=by have:=(List.getElem?_eq_some_iff.1 hu).1;simpa using this
 rw[Lib.add_plain,h4 j hj];rw[List.getElem?_map,List.getElem?_eq_getElem hj] at hu;rw[← hu];simp[hj]
def xE(w wr:World)(v:Value)(O:List Int):Prop:=wr.ownsRow w.heap.size 3 1 v O.length (O.map (Value.int .i64))/\Ext w wr
theorem xE.slice{w wr:World}{v:Value}{O:List Int}(h:xE w wr v O):∃ ad cap,v = .slice ad O.length cap:=by
 rcases h.1.2 with⟨rfl,h0⟩|⟨g,cap,cur,rfl,_⟩
 ·exact⟨none,0,by rw[h0]⟩
 ·exact⟨_,cap,rfl⟩
theorem xE.at' {w wr:World} {v:Value} {O:List Int} (h:xE w wr v O) (h0:0<O.length):∃ g cap,v = .slice (some ⟨g,0,none⟩) O.length cap/\w.heap.size<=g /\
    (∀ i,i<O.length->wr.cell? ⟨g,i,none⟩=some (.int .i64 (O.getD i 0)))/\(∀ i,wr.frozen? ⟨g,i,none⟩=false) /\
    ∀ i x,xE w (wr.setCell ⟨g,i,none⟩ (.int .i64 x)) v (O.set i x):=by
 have cq:=h.1;rcases h.1.2 with⟨rfl,h1⟩|⟨g,cap,cur,rfl,hg,_⟩
 ·omega
 ·refine⟨g,cap,rfl,hg,fun i hi=>?_,fun i=>cq.frozenAt i,fun i x=>?_⟩
  ·rw[cq.cellAt i ae];simp[hi]
  ·have:=cq.stored i (.int .i64 x);refine⟨?_,h.2.setCell hg _⟩;rw[List.length_set,List.map_set];exact this.1
set_option maxHeartbeats 4000000 in
theorem dh (a b:Nat) (k:Int) (va vb:Value) (w:World) (ha:fK w va a) (hb:fK w vb b) (Uo:-9999<=k) (eY:k<=9999) (h0:0<=(a:Int)+k*b) (fa:jX a) (fb:jX b) (fc:jX ((a:Int)+k*b).toNat) :
    Calls prog 221 #[va,vb,.int .i64 k,.int .i64 0] w (JA w ((a:Int)+k*b).toNat):=by
 obtain⟨i0,hi,nI,mE,jh⟩:=info_parts rO;obtain⟨ad,n,cn,rfl⟩:=ha.slice;obtain⟨P,hP,cP,rfl⟩:=ha;obtain⟨Q,hQ,cQ,rfl⟩:=hb;have hn:n=P.length:=by obtain⟨_,_,_,_,hv,_⟩:=hP;simp only[Value.slice.injEq] at hv;exact hv.2.1
 have hP2:=fa.len cP rfl;have hQ2:=fb.len cQ rfl;obtain⟨m,hm⟩:∃ m,m=Q.length:=⟨_,rfl⟩
 obtain⟨adQ,qcz,kQ,oQ,rfl,h1Q,hcQ,hbQ,hCQ⟩:=hQ;rw[← hm] at hQ2 h1Q hbQ hCQ ⊢;have HP:=ai hP;have HM:=ai hm;have H3:=ai hbQ;have H4:=ai hCQ;have BP:=ai cP.lt;have BQ:=ai cQ.lt;have H0:=ai h0;have HF:=ai fc;have HNP:=ai hn;clear hP hm hbQ hCQ cP cQ h0 fa fb fc;by_cases dX:n=0
 ·subst dX;have hPn:P=[]:=List.length_eq_zero_iff.1 hn.symm;have jq:=(World.ownsRow_lit (base:=w.heap.size) (e:=3) (size:=1) w #[] 0 (Nat.le_refl _) (by unfold maxLen;omega) rfl)
  have HO0:Hid (xE w (w.alloc (.cells #[] 3)) (.slice (some ⟨w.heap.size,0,none⟩) 0 0) (P.map Int.ofNat)):=ai (by subst hPn;exact⟨jq,(Ext.refl w).alloc _⟩);clear hn hPn jq;go_enter func221,ntmps221;go_wp2_with (at_builtin;refine pO rfl _ _ 85 rfl 3 i0 underlying85 hi w.heap.size cn ad rfl rfl ?_);go_loopw [9,10] (fun out i W=>∃ (x:Nat) (O:List Int),i = .int .i64 x/\x<=m/\xE w W out O/\Hid (sq P Q k x O)) (fun _ i _=>m-(intOf i).toNat)
  case atStart=>exact⟨0,P.map Int.ofNat,rfl,Nat.zero_le _,HO0.o,ai (sq.start BP.out)⟩
  case round =>
   obtain⟨x,O,rfl,hx,j8,hinv⟩:=hrel;obtain⟨oa,oc,rfl⟩:=j8.slice;have hOl:O.length<=10000:=by have:=hinv.out.hi;omega
   have QX:=ai j8;clear j8;by_cases hxm:x<m
   ·have qgb:(x:Int)<(m:Int):=ae;obtain⟨y,hy⟩:∃ y,y=Q[x]?.getD 0:=⟨_,rfl⟩
    have AQ:y<10000:=by rw[hy];exact cv af BQ.out x
    have HY:=ai hy;clear hy;go_wp2;go_loopw [9] (fun out W=>∃ O':List Int,xE w W out O'/\x<=O'.length/\O'.length<=10001/\Hid (O'.length<=P.length+x+1/\(O'.length<=x->sq P Q k x O')/\ot O'=(mv 10000 P:Int)+k*mv 10000 (Q.take x)/\(∀ y ∈ O',-200000000<=y/\y<=200000000)/\(∀ j,x<=j->0<=O'.getD j 0/\O'.getD j 0<=9999)))
     (fun out _=>match out with | .slice _ l _=>x+1-l|_=>0)
    case atStart=>exact⟨O,QX.o,hinv.out.lo,ae,ai ⟨by have:=hinv.out.hi;omega,fun _=>hinv.out,hinv.out.val,hinv.out.all,hinv.out.rest⟩⟩
    case round =>
     obtain⟨O',j8,QQ,hhi,jL⟩:=hrel;obtain⟨pa,pc,rfl⟩:=j8.slice;have LH:=ai j8;by_cases hle:O'.length<=x
     ·have XG:(O'.length:Int)<=(x:Int):=ae;have hpd:=(jL.out.2.1 hle).pad hle;have Zd:=ai hpd;clear hpd j8;go_wp2_with (at_builtin;refine wpList_append_own (wr.alloc (.cells #[.int .i64 0] 3)) rfl _ _ 85 rfl w.heap.size 3 i0 (.int .i64 0) 1 8 underlying85 hi nI mE jh rfl af _ O'.length _ rfl (LH.o.1.alloc _) ⟨wr.heap.size,0,none⟩ 1 1 [.int .i64 0] rfl rfl (qx wr 0 _) (by intro u hu;simp at hu;subst hu;rfl) (by unfold maxLen;omega) ae (by have:=LH.o.2.size;simp;omega) ?_;intro v' w1 dD cG Oa);go_roundw
      case rel =>
       refine⟨O' ++ [0],⟨?_,(LH.o.2.alloc _).grown cG (fun g hg=>gH LH.o.1 g hg)⟩,by simp;omega,by simp;omega,ai ⟨by have:=jL.out.1;simp;omega,fun h=>by simp at h;omega,by rw[Zd.o.1];exact jL.out.2.2.1,Zd.o.2.1,Zd.o.2.2⟩⟩;rw[List.length_append,List.map_append];exact dD
      case measure =>
       have hlen:∃ ga gc,v' = .slice ga (O'.length+1) gc:=by
        rcases dD.2 with⟨_,h1⟩|⟨g,cap,cur,h1,_⟩
        ·omega
        ·exact⟨_,_,h1⟩
       obtain⟨ga,gc,rfl⟩:=hlen;show x+1-(O'.length+1)<x+1-O'.length;omega
     ·have XG:¬ (O'.length:Int)<=(x:Int):=ae;obtain⟨g,cap,hvv,hg,wQ,I3,Of⟩:=j8.at' ae;simp only[Value.slice.injEq,true_and] at hvv;obtain⟨rfl,rfl⟩:=hvv;obtain⟨o,ho⟩:∃ o,o=O'.getD x 0:=⟨_,rfl⟩
      have XA:=jL.out.2.2.2.2 x (Nat.le_refl _);rw[← ho] at XA;obtain⟨KU,ho2⟩:=XA;have qE:wr.cell? ⟨g,x,none⟩=some (.int .i64 o):=by rw[ho];exact wQ x ae
      have wR:wr.cell? ⟨kQ,oQ+x,none⟩=some (.int .i64 (y:Int)):=by
       rw[HY.o];exact(j8.2.cell (p:=⟨kQ,oQ+x,none⟩) (H3.o ae).2).trans (H4.o x hxm)
      have wN:=I3 x;have Ol:=dG 85 3 underlying85 ph (cap:=qcz) (fun h=>(H3.o h).1) x hxm;have hJ:=sq.step jL.out.2.2.1 jL.out.2.2.2.1 jL.out.2.2.2.2 jL.out.1 ae (by rw[← HM.o];exact hxm) HY.o AQ Uo eY;rw[← ho] at hJ;have HJ:=ai hJ;have nR:=ai (Of x (o+k*y));have hky:-100000000<=k*(y:Int)/\k*(y:Int)<=100000000:=by
       have h1:(k*(y:Int)).natAbs<=10000*10000:=by rw[Int.natAbs_mul,Int.natAbs_natCast];exact Nat.mul_le_mul ae ae
       omega
      obtain⟨Ok,hk4⟩:=hky;have sw1:IntKind.i64.wrap (x:Int)=(x:Int):=IntWalk.i64_in _ ae;have sw2:IntKind.i64.wrap (k*(y:Int))=k*(y:Int):=IntWalk.i64_in _ ae;have sw3:IntKind.i64.wrap (o+k*(y:Int))=o+k*(y:Int):=IntWalk.i64_in _ ae;have i1:(0:Int)<=(x:Int):=ae;have i2:(x:Int)<(O'.length:Int):=ae;have i3:x<O'.length:=ae;clear ho wQ I3 Of hJ j8 hle;go_wp2;go_region_law (fail)
      all_goals
       go_wp2;go_roundw
       case rel=>first|exact⟨x+1,_,by go_num,ae,⟨nR.o.1.drew,nR.o.2.drew⟩,HJ⟩|((repeat apply Exists.intro);exact⟨⟨x+1,_,by go_num,ae,by have:=nR.o;rw[List.length_set] at *;exact⟨this.1.drew,this.2.drew⟩,HJ⟩,rfl⟩)
       case measure=>simp[intOf];omega
   ·obtain rfl:m=x:=ae;have iR:=hinv.out.val;rw[HM.o,List.take_length] at iR;have wS:=Br O (.slice oa O.length oc) wr (lW.fm QX.o.1) (fun z hz=>by have:=hinv.out.all z hz;omega) ae (by rw[iR];exact H0.o) (by rw[iR];exact HF.o);rw[iR] at wS;have HC:=ai wS;clear wS iR;go_wp2_with (go_at_call 224;refine HC.o.mono ?_;rintro e w' ⟨v',rfl,e1,hm⟩);go_ret;exact⟨v',rfl,QX.o.2.trans e1,hm⟩
 ·have hn1:0<n:=ae;obtain⟨bP,oP,rfl,hnP,DG⟩:=wF (HP.o.ext ((Ext.refl w).alloc (.cells #[] 3))) hn1;have jq:=(World.ownsRow_lit (base:=w.heap.size) (e:=3) (size:=1) w #[] 0 (Nat.le_refl _) (by unfold maxLen;omega) rfl)
  have HW:=ai DG;have qdf:=ai jq;have hn5:n<=5000:=ae;clear DG jq hnP hn;go_enter func221,ntmps221;go_wp2_with (at_builtin;refine wpList_append_own (w.alloc (.cells #[] 3)) rfl _ _ 85 rfl w.heap.size 3 i0 (.int .i64 0) 1 8 underlying85 hi nI mE jh rfl af _ 0 _ rfl qdf.o ⟨bP,oP,none⟩ n cn (P.map fun(x:Nat)=>Value.int .i64 x) rfl (by rw[List.length_map,← HNP.o];simp) HW.o (by intro u hu;obtain⟨x,_,rfl⟩:=List.mem_map.1 hu;rfl) (by unfold maxLen;omega) ae (by simp) ?_;intro v0 wr0 dD cG Oa);have HO0:Hid (xE w wr0 v0 (P.map Int.ofNat)):=ai (by
   refine⟨?_,((Ext.refl w).alloc _).grown cG (fun g hg=>gH qdf.o g hg)⟩;have h1:=dD;rw[List.length_map,List.map_map,← HNP.o];have h2:wr0.ownsRow w.heap.size 3 1 v0 n (P.map fun(x:Nat)=>Value.int .i64 x):=by simpa using h1
   exact h2)
  clear dD cG Oa;go_loopw [9,10] (fun out i W=>∃ (x:Nat) (O:List Int),i = .int .i64 x/\x<=m/\xE w W out O/\Hid (sq P Q k x O)) (fun _ i _=>m-(intOf i).toNat)
  case atStart=>exact⟨0,P.map Int.ofNat,rfl,Nat.zero_le _,HO0.o,ai (sq.start BP.out)⟩
  case round =>
   obtain⟨x,O,rfl,hx,j8,hinv⟩:=hrel;obtain⟨oa,oc,rfl⟩:=j8.slice;have hOl:O.length<=10000:=by have:=hinv.out.hi;omega
   have QX:=ai j8;clear j8;by_cases hxm:x<m
   ·have qgb:(x:Int)<(m:Int):=ae;obtain⟨y,hy⟩:∃ y,y=Q[x]?.getD 0:=⟨_,rfl⟩
    have AQ:y<10000:=by rw[hy];exact cv af BQ.out x
    have HY:=ai hy;clear hy;go_wp2;go_loopw [9] (fun out W=>∃ O':List Int,xE w W out O'/\x<=O'.length/\O'.length<=10001/\Hid (O'.length<=P.length+x+1/\(O'.length<=x->sq P Q k x O')/\ot O'=(mv 10000 P:Int)+k*mv 10000 (Q.take x)/\(∀ y ∈ O',-200000000<=y/\y<=200000000)/\(∀ j,x<=j->0<=O'.getD j 0/\O'.getD j 0<=9999)))
     (fun out _=>match out with | .slice _ l _=>x+1-l|_=>0)
    case atStart=>exact⟨O,QX.o,hinv.out.lo,ae,ai ⟨by have:=hinv.out.hi;omega,fun _=>hinv.out,hinv.out.val,hinv.out.all,hinv.out.rest⟩⟩
    case round =>
     obtain⟨O',j8,QQ,hhi,jL⟩:=hrel;obtain⟨pa,pc,rfl⟩:=j8.slice;have LH:=ai j8;by_cases hle:O'.length<=x
     ·have XG:(O'.length:Int)<=(x:Int):=ae;have hpd:=(jL.out.2.1 hle).pad hle;have Zd:=ai hpd;clear hpd j8;go_wp2_with (at_builtin;refine wpList_append_own (wr.alloc (.cells #[.int .i64 0] 3)) rfl _ _ 85 rfl w.heap.size 3 i0 (.int .i64 0) 1 8 underlying85 hi nI mE jh rfl af _ O'.length _ rfl (LH.o.1.alloc _) ⟨wr.heap.size,0,none⟩ 1 1 [.int .i64 0] rfl rfl (qx wr 0 _) (by intro u hu;simp at hu;subst hu;rfl) (by unfold maxLen;omega) ae (by have:=LH.o.2.size;simp;omega) ?_;intro v' w1 dD cG Oa);go_roundw
      case rel =>
       refine⟨O' ++ [0],⟨?_,(LH.o.2.alloc _).grown cG (fun g hg=>gH LH.o.1 g hg)⟩,by simp;omega,by simp;omega,ai ⟨by have:=jL.out.1;simp;omega,fun h=>by simp at h;omega,by rw[Zd.o.1];exact jL.out.2.2.1,Zd.o.2.1,Zd.o.2.2⟩⟩;rw[List.length_append,List.map_append];exact dD
      case measure =>
       have hlen:∃ ga gc,v' = .slice ga (O'.length+1) gc:=by
        rcases dD.2 with⟨_,h1⟩|⟨g,cap,cur,h1,_⟩
        ·omega
        ·exact⟨_,_,h1⟩
       obtain⟨ga,gc,rfl⟩:=hlen;show x+1-(O'.length+1)<x+1-O'.length;omega
     ·have XG:¬ (O'.length:Int)<=(x:Int):=ae;obtain⟨g,cap,hvv,hg,wQ,I3,Of⟩:=j8.at' ae;simp only[Value.slice.injEq,true_and] at hvv;obtain⟨rfl,rfl⟩:=hvv;obtain⟨o,ho⟩:∃ o,o=O'.getD x 0:=⟨_,rfl⟩
      have XA:=jL.out.2.2.2.2 x (Nat.le_refl _);rw[← ho] at XA;obtain⟨KU,ho2⟩:=XA;have qE:wr.cell? ⟨g,x,none⟩=some (.int .i64 o):=by rw[ho];exact wQ x ae
      have wR:wr.cell? ⟨kQ,oQ+x,none⟩=some (.int .i64 (y:Int)):=by
       rw[HY.o];exact(j8.2.cell (p:=⟨kQ,oQ+x,none⟩) (H3.o ae).2).trans (H4.o x hxm)
      have wN:=I3 x;have Ol:=dG 85 3 underlying85 ph (cap:=qcz) (fun h=>(H3.o h).1) x hxm;have hJ:=sq.step jL.out.2.2.1 jL.out.2.2.2.1 jL.out.2.2.2.2 jL.out.1 ae (by rw[← HM.o];exact hxm) HY.o AQ Uo eY;rw[← ho] at hJ;have HJ:=ai hJ;have nR:=ai (Of x (o+k*y));have hky:-100000000<=k*(y:Int)/\k*(y:Int)<=100000000:=by
       have h1:(k*(y:Int)).natAbs<=10000*10000:=by rw[Int.natAbs_mul,Int.natAbs_natCast];exact Nat.mul_le_mul ae ae
       omega
      obtain⟨Ok,hk4⟩:=hky;have sw1:IntKind.i64.wrap (x:Int)=(x:Int):=IntWalk.i64_in _ ae;have sw2:IntKind.i64.wrap (k*(y:Int))=k*(y:Int):=IntWalk.i64_in _ ae;have sw3:IntKind.i64.wrap (o+k*(y:Int))=o+k*(y:Int):=IntWalk.i64_in _ ae;have i1:(0:Int)<=(x:Int):=ae;have i2:(x:Int)<(O'.length:Int):=ae;have i3:x<O'.length:=ae;clear ho wQ I3 Of hJ j8 hle;go_wp2;go_region_law (fail)
      all_goals
       go_wp2;go_roundw
       case rel=>first|exact⟨x+1,_,by go_num,ae,⟨nR.o.1.drew,nR.o.2.drew⟩,HJ⟩|((repeat apply Exists.intro);exact⟨⟨x+1,_,by go_num,ae,by have:=nR.o;rw[List.length_set] at *;exact⟨this.1.drew,this.2.drew⟩,HJ⟩,rfl⟩)
       case measure=>simp[intOf];omega
   ·obtain rfl:m=x:=ae;have iR:=hinv.out.val;rw[HM.o,List.take_length] at iR;have wS:=Br O (.slice oa O.length oc) wr (lW.fm QX.o.1) (fun z hz=>by have:=hinv.out.all z hz;omega) ae (by rw[iR];exact H0.o) (by rw[iR];exact HF.o);rw[iR] at wS;have HC:=ai wS;clear wS iR;go_wp2_with (go_at_call 224;refine HC.o.mono ?_;rintro e w' ⟨v',rfl,e1,hm⟩);go_ret;exact⟨v',rfl,QX.o.2.trans e1,hm⟩
theorem rk {P:Program} {W:World} (t ty e:TypeId) (i:TypeInfo) (ht:P.underlying t=some (.slice e)) (hi:P.info? e=some i) (g n c cap:Nat) (hn:n<=c) (ad:Option Addr) :
    (Builtin.append_ #[t,t] ty #[.slice (some ⟨g,0,none⟩) n c,.slice ad 0 cap]).run P W = .ok (.slice (some ⟨g,0,none⟩) n c) W:=by
 cases ad
 ·simp[Builtin.append_,run_underlying ht,sizeOf,typeInfo,hi,Builtin.lenOf,Builtin.firstCells,storeCells,hn]
 ·simp[Builtin.append_,run_underlying ht,sizeOf,typeInfo,hi,Builtin.lenOf,Builtin.firstCells,storeCells,loadCells,loadCellsFrom,hn]
theorem n4 {P:Program} {w:World} {ops:Array Oper} {rest:List Oper} {o:Oper} {a:Act} {Q:Exit->Act->World->Prop} (hgd:o.guard=none) (s x:Operand) (t:TypeId)
    (ho:o.op = .call { callee:=.builtin .append,args:=#[s,x],argTypes:=#[t,t] })
    (e:TypeId) (i:TypeInfo) (ht:P.underlying t=some (.slice e)) (hi:P.info? e=some i) (g n c cap:Nat) (hn:n<=c) (ad:Option Addr)
    (hs:a.eval s = .slice (some ⟨g,0,none⟩) n c) (hx:a.eval x = .slice ad 0 cap)
    (h:wpList P ops Q rest (a.put o.dst (.slice (some ⟨g,0,none⟩) n c)) w):wpList P ops Q (o :: rest) a w:=by
 refine wpList_plain hgd fun K hK=>?_
 have ng:=rk (P:=P) (W:=w) t o.type e i ht hi g n c cap hn ad;unfold Oper.wp;simp[execOp,ho,resolve,invoke,builtin,hs,hx,ng,Result.andThen];exact hK _ _ h
theorem fK.apart{W:World}{B o k c n g i:Nat}(h:fK W (.slice (some ⟨B,o,none⟩) k c) n)(hB:g≠B)(u:Value):fK (W.setCell ⟨g,i,none⟩ u) (.slice (some ⟨B,o,none⟩) k c) n:=by
 obtain⟨l,⟨ad,cap,b,off,hv,h1,h2,h3,h4⟩,hc,hm⟩:=h;refine⟨l,⟨ad,cap,b,off,hv,h1,h2,fun h0=>⟨(h3 h0).1,by simp;exact(h3 h0).2⟩,fun j hj=>?_⟩,hc,hm⟩;have hb:=(h3 ae).1;cases hv;cases hb;rw[World.cell?_setCell_other _ _ _ _ (by intro e;cases e;exact hB rfl)];exact h4 j hj
theorem fK.MF{w W:World}{v:Value}{n g i:Nat}(h:fK w v n)(e:Ext w W)(hg:w.heap.size<=g)(u:Value):fK (W.setCell ⟨g,i,none⟩ u) v n:=h.ext (e.setCell hg u)
theorem nQ.ext{w wr wr':World}{n:Nat}{xs:List Nat}(h:nQ w wr n xs)(e:Ext wr wr'):nQ w wr' n xs:=⟨h.1,Dl h.2.1 e,h.2.2.trans e⟩
structure QL(w W:World)(v:Value)(x:Nat)(R:List Nat):Prop where
 out:∃ g c,v = .slice (some ⟨g,0,none⟩) (R.length+1) c/\w.heap.size<g/\Holds .i64 W v (x :: R)
theorem Lv(w W:World)(x:Nat)(h:w.heap.size<W.heap.size):QL w (W.alloc (.cells #[.int .i64 (x:Int)] 3)) (.slice (some ⟨W.heap.size,0,none⟩) 1 1) x [] :=
 ⟨_,_,rfl,h,Holds.one W .i64 x _⟩
theorem Hp{w W W1:World}{v:Value}{x n:Nat}{R:List Nat}(hn:R.length=n)(h:w.heap.size<W.heap.size)(cq:W1.ownsRow W.heap.size 3 1 v (1+n) (#[Value.int .i64 (x:Int)].toList ++ R.map fun(x:Nat)=>Value.int .i64 x)):QL w W1 v x R:=by
 have h1:W1.ownsRow W.heap.size 3 1 v (1+n) ((x :: R).map fun(x:Nat)=>Value.int .i64 x):=by simpa using cq
 have hh:=Holds.fm h1;rcases h1.2 with⟨_,h0⟩|⟨g,cap,cur,rfl,hg,_⟩
 ·omega
 ·exact⟨g,cap,by rw[hn,Nat.add_comm],ae,hh⟩
theorem rC{l h m b t:Nat}(hm:m=(l+h+1) / 2)(aP:l<h):(t<m*b->m-1<h/\t<(m-1+1)*b/\l<=m-1)/\(¬ t<m*b->m*b<=t/\m<=h/\l<m):=by
 refine⟨fun h1=>⟨ae,by rw[show m-1+1=m by omega];exact h1,ae⟩,fun h1=>⟨ae,ae,ae⟩⟩
theorem IE{l b t:Nat}(hl:l*b<=t)(hh:t<(l+1)*b):t / b=l/\(t:Int)+-(l:Int)*(b:Int)=((t % b:Nat):Int):=by
 have hb:0<b:=by
  rcases Nat.eq_zero_or_pos b with h|h
  ·subst h;omega
  ·exact h
 have e:t / b=l:=by
  apply Nat.le_antisymm
  ·rw[← Nat.lt_succ_iff];exact(Nat.div_lt_iff_lt_mul hb).2 hh
  ·exact(Nat.le_div_iff_mul_le hb).2 hl
 refine⟨e,?_⟩;have h1:=Nat.div_add_mod t b;rw[e] at h1;have h2:(t:Int)=(b:Int)*(l:Int)+((t % b:Nat):Int):=by rw[← Int.natCast_mul];omega
 rw[Int.neg_mul,Int.mul_comm (l:Int)];omega
def qcb:Nat:=4990
structure Ly(n:Nat):Prop where
 out:n<10000 ^ qcb
theorem Ly.r{n:Nat}(h:Ly n):jX n:=⟨Nat.lt_of_lt_of_le h.out (Nat.pow_le_pow_right af af)⟩
theorem Ly.mul{n x:Nat}(h:Ly n)(hx:x<=n*10000):jX x:=⟨by
 have h1:n*10000<10000 ^ (qcb+1):=by rw[Nat.pow_succ];exact Nat.mul_lt_mul_of_pos_right h.out af
 exact Nat.lt_of_lt_of_le (Nat.lt_of_le_of_lt hx h1) (Nat.pow_le_pow_right af af)⟩
theorem IB.Wm{k:Nat}{a:Int}(h:IB k a)(hk:k<=18000):Ly a.natAbs :=
 ⟨Nat.lt_of_lt_of_le h.out (by rw[show(10000:Nat)=10 ^ 4 by decide,← Nat.pow_mul];exact Nat.pow_le_pow_right af (Nat.le_trans hk af))⟩
def LA(w:World)(q r:Nat)(e:Ending)(w':World):Prop:=∃ vq vr,e = .returned (.tuple #[vq,vr])/\Ext w w'/\fK w' vq q/\fK w' vr r
set_option maxHeartbeats 8000000 in
theorem iS (a b:Nat) (va vb:Value) (w:World) (ha:fK w va a) (hb:fK w vb b) (fp:0<b) (fa:jX a) (fb:Ly b) :
    Calls prog 220 #[va,vb] w (LA w (a / b) (a % b)):=by
 obtain⟨i0,hi,nI,mE,jh⟩:=info_parts rO;obtain⟨L,hL,cL,rfl⟩:=ha;have OE:=fa.len cL rfl;obtain⟨bd,bn,bc,rfl⟩:=hb.slice;obtain⟨n,hn⟩:∃ n,n=L.length:=⟨_,rfl⟩
 obtain⟨adL,Bu,kL,oL,rfl,OG,hcL,wU,wV⟩:=hL;rw[← hn] at OE OG wU wV ⊢;have HN:=ai hn;have H1:=ai wU;have H2:=ai wV;have BL:=ai cL.lt;have HB:=ai hb;have QE:=ai fp;have HF:=ai fb;clear hn wU wV cL hb fp fa fb;go_enter func220,ntmps220;go_wp2_with (at_make;refine wpList_make_full _ rfl _ _ 85 rfl w.heap.size 3 i0 (.int .i64 0) 1 underlying85 hi nI mE _ _ _ _ n rfl rfl ae ae (by rw[jh];omega) (by unfold maxLen;omega) (Nat.le_refl _) ?_;intro w0 jq ni);rw[wj] at jq;go_loopw [7,8] (fun rest i wr=>∃ (j r:Nat) (qs:List Nat),j<=n/\i = .int .i64 ((j:Int)-1)/\nQ w wr n qs/\fK wr rest r/\Hid (iz 10000 b L qs j r))
  (fun _ i _=>(intOf i+1).toNat)
 case atStart =>
  exact⟨n,0,List.replicate n 0,Nat.le_refl _,rfl,⟨by simp,jq,(Below.refl _ _).grown ni (Nat.le_refl _) (fun k h=>by cases h)⟩,fK.zero _,ai (by rw[HN.o];exact iz.start af QE.o)⟩
 case round =>
  obtain⟨j,r,qs,hj,rfl,cq,I2,hinv⟩:=hrel;obtain⟨ra,rl,rc,rfl⟩:=I2.slice;have gh:w.heap.size<wr.heap.size:=by
   rcases cq.2.1.2 with⟨h',_⟩|⟨g',Lq,cur,h',_,hh,_⟩
   ·simp at h'
   ·simp only[Value.slice.injEq,Option.some.injEq,Addr.mk.injEq,and_true,true_and] at h';have:=(Array.getElem?_eq_some_iff.1 hh).1;omega
  have tk:=ai cq;have HR:=ai I2;by_cases hj0:0<j
  ·obtain⟨i,rfl⟩:∃ i,j=i+1:=⟨j-1,ae⟩
   have ei:((i+1:Nat):Int)-1=(i:Int):=ae;rw[ei];have jL:i<n:=ae;obtain⟨x,hx⟩:∃ x,x=L[i]?.getD 0:=⟨_,rfl⟩
   have pQ:x<10000:=by rw[hx];exact cv af BL.out i
   have qE:wr.cell? ⟨kL,oL+i,none⟩=some (.int .i64 (x:Int)):=by
    rw[hx];exact(cq.2.2.cell (p:=⟨kL,oL+i,none⟩) (H1.o ae).2).trans (H2.o i jL)
   have Om:=dG 85 3 underlying85 ph (cap:=Bu) (fun h=>(H1.o h).1) i jL;have jK:=hinv.out.step (by rw[← HN.o];exact jL) BL.out QE.o;rw[← hx] at jK;have Xw:=hinv.out.rem;obtain⟨t,ht⟩:∃ t,t=r*10000+x:=⟨_,rfl⟩
   rw[← ht] at jK;have htb:t<b*10000:=by rw[ht];have:=Nat.mul_le_mul_right 10000 (show r+1<=b from Xw);omega
   have kp:=ai jK;have HT:=ai ht;have HTB:=ai htb;clear ei jK Xw ht htb hx cq;have HRF:Hid (jX t):=ai (HF.o.mul (Nat.le_of_lt HTB.o));obtain⟨R,hRH,hRC,hRV⟩:=I2;have E8:rl=R.length:=by obtain⟨_,_,_,_,hv,_⟩:=hRH;simp only[Value.slice.injEq] at hv;exact hv.2.1
   have hR5:R.length<=5000:=by
    have fr:jX r:=HRF.o.mono (by rw[HT.o];omega);exact fr.len hRC hRV
   have HRC:=ai hRC;have HRV:=ai hRV;have HRH:=ai hRH;clear hRH hRC hRV;by_cases hr0:rl=0
   ·subst hr0;have hRn:R=[]:=List.length_eq_zero_iff.1 E8.symm;subst hRn;clear E8 hR5;have HA:=ai (Lv w wr x gh);go_upto_region 7 with(first
     | (at_builtin;refine n4 rfl _ _ 85 rfl 3 i0 underlying85 hi wr.heap.size 1 1 rc (Nat.le_refl _) ra rfl rfl ?_;obtain⟨W1,hW1⟩:∃ W1,wr.alloc (.cells #[.int .i64 (x:Int)] 3)=W1:=⟨_,rfl⟩;rw[hW1];have ex:Ext wr W1:=(by rw[← hW1];exact(Ext.refl _).alloc _);have HA1:Hid (QL w W1 (.slice (some ⟨wr.heap.size,0,none⟩) 1 1) x []):=(ai (by rw[← hW1];exact HA.o));clear hW1)
     | (go_at_call 222;refine(zv _ _ _ HA1.o.out.choose_spec.choose_spec.2.2 (by intro z hz;simp at hz;omega)).mono ?_;rintro e w' ⟨v2,rfl,rfl,QP,ad2,n2,k2,YF,e1,rfl⟩))
    have hg:w.heap.size<wr.heap.size:=gh;have AT:fK W1 (.slice (some ⟨wr.heap.size,0,none⟩) k2 1) t:=by
     have:mv 10000 [x]=t:=by
      rw[HT.o];show x+10000*mv 10000 []=_;rw[HRV.o];omega
     rw[← this];exact QP
    have Zk:=ai AT;have LH:=ai (tk.o.ext ex);have HBW:=ai ((HB.o.ext tk.o.2.2).ext ex);clear QP AT ex;go_wp2;go_loopw [9,10] (fun lo hh W=>∃ (l h:Nat),lo = .int .i64 l/\hh = .int .i64 h/\l<=h/\h<=9999/\Hid (l*b<=t/\t<(h+1)*b)/\Ext W1 W) (fun lo hh _=>(intOf hh).toNat-(intOf lo).toNat)
    case atStart=>exact⟨0,9999,rfl,rfl,ae,ae,ai ⟨ae,by have:=HTB.o;omega⟩,Ext.refl _⟩
    case round =>
     obtain⟨l,h,rfl,rfl,hlh,hh9,ow,Gp⟩:=hrel;by_cases aP:l<h
     ·obtain⟨m,hm⟩:∃ m,m=(l+h+1) / 2:=⟨_,rfl⟩
      have XC:((l:Int)+(h:Int)+1) / 2=(m:Int):=ae;have hm9:m<=9999:=ae;have Un:1<=m:=ae;have PB:=ai (rC (b:=b) (t:=t) hm aP);have hmb:m*b<=b*10000:=by rw[Nat.mul_comm];exact Nat.mul_le_mul_left _ ae
      have rT:=dh 0 b (m:Int) (.slice none 0 0) (.slice bd bn bc) wr (fK.zero _) (HBW.o.ext Gp) ae ae (by rw[← Int.natCast_mul];omega) ⟨Nat.pow_pos af⟩ HF.o.r (by rw[show((0:Nat):Int)+(m:Int)*(b:Int)=((m*b:Nat):Int) by rw[← Int.natCast_mul];omega,Int.toNat_natCast];exact HF.o.mul hmb);rw[show((0:Nat):Int)+(m:Int)*(b:Int)=((m*b:Nat):Int) by rw[← Int.natCast_mul];omega,Int.toNat_natCast] at rT;have HJ:=ai rT;clear rT hmb hm;by_cases htm:t<m*b
      ·have Oq:decide (t<m*b)=true:=decide_eq_true htm;obtain⟨k1,Xl,k3⟩:=PB.out.1 htm;have K2:=ai Xl;have JP:=ai Oq;clear Oq htm Xl;go_wp2_with (first
        | (go_at_call 221;refine HJ.o.mono ?_;rintro e w5 ⟨vj,rfl,e5,mj⟩;obtain⟨ja,jn,jc,rfl⟩:=mj.slice)
        | (go_at_call 260;refine(lN t (m*b) _ _ _ ((Zk.o.ext Gp).ext e5) mj).mono ?_;rw[JP.o];rintro e w6 ⟨rfl,e6⟩))
       go_roundw
       case rel=>exact⟨l,m-1,rfl,by go_num,ae,ae,ai ⟨ow.out.1,K2.out⟩,(Gp.trans e5).trans e6⟩
       case measure=>simp[intOf];omega
      ·have Oq:decide (t<m*b)=false:=decide_eq_false htm;obtain⟨k1,Xl,k3⟩:=PB.out.2 htm;have K1:=ai k1;have JP:=ai Oq;clear Oq htm k1;go_wp2_with (first
        | (go_at_call 221;refine HJ.o.mono ?_;rintro e w5 ⟨vj,rfl,e5,mj⟩;obtain⟨ja,jn,jc,rfl⟩:=mj.slice)
        | (go_at_call 260;refine(lN t (m*b) _ _ _ ((Zk.o.ext Gp).ext e5) mj).mono ?_;rw[JP.o];rintro e w6 ⟨rfl,e6⟩))
       go_roundw
       case rel=>exact⟨m,h,rfl,rfl,ae,ae,ai ⟨K1.out,ow.out.2⟩,(Gp.trans e5).trans e6⟩
       case measure=>simp[intOf];omega
     ·obtain rfl:l=h:=ae;obtain⟨hq,qV⟩:=IE ow.out.1 ow.out.2;have OC:=LH.o.ext Gp;have XN:=OC.cell i jL;have wN:=OC.free i;have nR:=ai (OC.set i l);have HMS:=ai ((Zk.o.ext Gp).apart (g:=w.heap.size) (i:=i) (Nat.ne_of_lt hg) (.int .i64 (l:Int)));have HBS:=ai (HB.o.MF (W:=wr) (g:=w.heap.size) (i:=i) OC.2.2 (Nat.le_refl _) (.int .i64 (l:Int)));have rT:=dh t b (-(l:Int)) _ _ _ HMS.o HBS.o ae ae (by rw[qV];omega) HRF.o HF.o.r (by rw[qV,Int.toNat_natCast];exact HRF.o.mono (Nat.mod_le _ _));rw[qV,Int.toNat_natCast] at rT;have HJ:=ai rT;have HQ:=ai hq;clear rT hq qV OC;go_wp2_with (go_at_call 221;refine HJ.o.mono ?_;rintro e w5 ⟨vj,rfl,e5,mj⟩;obtain⟨ja,jn,jc,rfl⟩:=mj.slice);go_roundw
      case rel=>exact⟨i,t % b,qs.set i l,ae,by go_num,nR.o.ext e5,mj,ai (by have:=kp.o;rw[HQ.o] at this;exact this)⟩
      case measure=>simp[intOf]
   ·have SI:0<rl:=ae;obtain⟨bR,oR,rfl,hnR,DG⟩:=wF (HRH.o.ext ((Ext.refl wr).alloc (.cells #[.int .i64 (x:Int)] 3))) SI;have dD:=World.ownsRow_lit (base:=wr.heap.size) (e:=3) (size:=1) wr #[.int .i64 (x:Int)] 1 (Nat.le_refl _) (by unfold maxLen;omega) rfl;have HW:=ai DG;have QX:=ai dD;have tR:=ai E8;have qms:rl<=5000:=ae;clear DG dD E8 hnR hr0;go_upto_region 7 with(first
     | (at_builtin;refine wpList_append_own (wr.alloc (.cells #[.int .i64 (x:Int)] 3)) rfl _ _ 85 rfl wr.heap.size 3 i0 (.int .i64 0) 1 8 underlying85 hi nI mE jh rfl af _ 1 _ rfl QX.o ⟨bR,oR,none⟩ rl rc (R.map fun(x:Nat)=>Value.int .i64 x) rfl (by rw[List.length_map,← tR.o];simp) HW.o (by intro u hu;obtain⟨x,_,rfl⟩:=List.mem_map.1 hu;rfl) (by unfold maxLen;omega) ae (by simp) ?_;intro v1 W1 iE ef pw;have ex:Ext wr W1:=(((Ext.refl wr).alloc _).grown ef (fun g hg=>gH QX.o g hg));have HA1:=ai (Hp tR.o.symm gh iE);clear iE ef pw)
     | (go_at_call 222;refine(zv _ _ _ HA1.o.out.choose_spec.choose_spec.2.2 (by intro z hz;rcases List.mem_cons.1 hz with rfl|hz;(exact pQ);exact HRC.o.lt z hz)).mono ?_;rintro e w' ⟨v2,rfl,rfl,QP,ad2,n2,k2,YF,e1,rfl⟩))
    obtain⟨g,c,e2,hg,_⟩:=HA1.o.out;rw[e1] at e2;simp only[Value.slice.injEq] at e2;obtain⟨rfl,rfl,rfl⟩:=e2;clear e1;have AT:fK W1 (.slice (some ⟨g,0,none⟩) k2 YF) t:=by
     have:mv 10000 (x :: R)=t:=by
      rw[HT.o];show x+10000*mv 10000 R=_;rw[HRV.o];omega
     rw[← this];exact QP
    have Zk:=ai AT;have LH:=ai (tk.o.ext ex);have HBW:=ai ((HB.o.ext tk.o.2.2).ext ex);clear QP AT ex;go_wp2;go_loopw [9,10] (fun lo hh W=>∃ (l h:Nat),lo = .int .i64 l/\hh = .int .i64 h/\l<=h/\h<=9999/\Hid (l*b<=t/\t<(h+1)*b)/\Ext W1 W) (fun lo hh _=>(intOf hh).toNat-(intOf lo).toNat)
    case atStart=>exact⟨0,9999,rfl,rfl,ae,ae,ai ⟨ae,by have:=HTB.o;omega⟩,Ext.refl _⟩
    case round =>
     obtain⟨l,h,rfl,rfl,hlh,hh9,ow,Gp⟩:=hrel;by_cases aP:l<h
     ·obtain⟨m,hm⟩:∃ m,m=(l+h+1) / 2:=⟨_,rfl⟩
      have XC:((l:Int)+(h:Int)+1) / 2=(m:Int):=ae;have hm9:m<=9999:=ae;have Un:1<=m:=ae;have PB:=ai (rC (b:=b) (t:=t) hm aP);have hmb:m*b<=b*10000:=by rw[Nat.mul_comm];exact Nat.mul_le_mul_left _ ae
      have rT:=dh 0 b (m:Int) (.slice none 0 0) (.slice bd bn bc) wr (fK.zero _) (HBW.o.ext Gp) ae ae (by rw[← Int.natCast_mul];omega) ⟨Nat.pow_pos af⟩ HF.o.r (by rw[show((0:Nat):Int)+(m:Int)*(b:Int)=((m*b:Nat):Int) by rw[← Int.natCast_mul];omega,Int.toNat_natCast];exact HF.o.mul hmb);rw[show((0:Nat):Int)+(m:Int)*(b:Int)=((m*b:Nat):Int) by rw[← Int.natCast_mul];omega,Int.toNat_natCast] at rT;have HJ:=ai rT;clear rT hmb hm;by_cases htm:t<m*b
      ·have Oq:decide (t<m*b)=true:=decide_eq_true htm;obtain⟨k1,Xl,k3⟩:=PB.out.1 htm;have K2:=ai Xl;have JP:=ai Oq;clear Oq htm Xl;go_wp2_with (first
        | (go_at_call 221;refine HJ.o.mono ?_;rintro e w5 ⟨vj,rfl,e5,mj⟩;obtain⟨ja,jn,jc,rfl⟩:=mj.slice)
        | (go_at_call 260;refine(lN t (m*b) _ _ _ ((Zk.o.ext Gp).ext e5) mj).mono ?_;rw[JP.o];rintro e w6 ⟨rfl,e6⟩))
       go_roundw
       case rel=>exact⟨l,m-1,rfl,by go_num,ae,ae,ai ⟨ow.out.1,K2.out⟩,(Gp.trans e5).trans e6⟩
       case measure=>simp[intOf];omega
      ·have Oq:decide (t<m*b)=false:=decide_eq_false htm;obtain⟨k1,Xl,k3⟩:=PB.out.2 htm;have K1:=ai k1;have JP:=ai Oq;clear Oq htm k1;go_wp2_with (first
        | (go_at_call 221;refine HJ.o.mono ?_;rintro e w5 ⟨vj,rfl,e5,mj⟩;obtain⟨ja,jn,jc,rfl⟩:=mj.slice)
        | (go_at_call 260;refine(lN t (m*b) _ _ _ ((Zk.o.ext Gp).ext e5) mj).mono ?_;rw[JP.o];rintro e w6 ⟨rfl,e6⟩))
       go_roundw
       case rel=>exact⟨m,h,rfl,rfl,ae,ae,ai ⟨K1.out,ow.out.2⟩,(Gp.trans e5).trans e6⟩
       case measure=>simp[intOf];omega
     ·obtain rfl:l=h:=ae;obtain⟨hq,qV⟩:=IE ow.out.1 ow.out.2;have OC:=LH.o.ext Gp;have XN:=OC.cell i jL;have wN:=OC.free i;have nR:=ai (OC.set i l);have HMS:=ai ((Zk.o.ext Gp).apart (g:=w.heap.size) (i:=i) (Nat.ne_of_lt hg) (.int .i64 (l:Int)));have HBS:=ai (HB.o.MF (W:=wr) (g:=w.heap.size) (i:=i) OC.2.2 (Nat.le_refl _) (.int .i64 (l:Int)));have rT:=dh t b (-(l:Int)) _ _ _ HMS.o HBS.o ae ae (by rw[qV];omega) HRF.o HF.o.r (by rw[qV,Int.toNat_natCast];exact HRF.o.mono (Nat.mod_le _ _));rw[qV,Int.toNat_natCast] at rT;have HJ:=ai rT;have HQ:=ai hq;clear rT hq qV OC;go_wp2_with (go_at_call 221;refine HJ.o.mono ?_;rintro e w5 ⟨vj,rfl,e5,mj⟩;obtain⟨ja,jn,jc,rfl⟩:=mj.slice);go_roundw
      case rel=>exact⟨i,t % b,qs.set i l,ae,by go_num,nR.o.ext e5,mj,ai (by have:=kp.o;rw[HQ.o] at this;exact this)⟩
      case measure=>simp[intOf]
  ·obtain rfl:j=0:=ae;obtain⟨eq,er⟩:=hinv.out.done;have HH:=ai (Holds.fm tk.o.2.1);have Zs:=ai eq;have HER:=ai er;clear eq er cq I2;go_wp2_with (go_at_call 222;refine(zv qs _ _ HH.o hinv.out.lt).mono ?_;rintro e w' ⟨v',rfl,rfl,hm,ad2,n2,k2,YF,_,rfl⟩);go_ret2;exact⟨_,_,rfl,tk.o.2.2,by rw[Zs.o] at hm;exact hm,by rw[← HER.o];exact HR.o⟩
theorem IB.jN{k:Nat}{a:Int}(h:IB k a)(hk:k<=9000):(Lib.decDigits a.natAbs).length<=9001:=by
 have:=dJ (u:=a.natAbs) (k:=k+1) ae (Nat.lt_of_lt_of_le h.out (Nat.pow_le_pow_right af ae));omega
theorem tG(n:Int):(zs (n.natAbs:Int)).size=(Lib.decDigits n.natAbs).length:=cI _
set_option maxHeartbeats 1000000 in
theorem qg4(a b:Int){k m:Nat}(w:World)(g:Gd w)(ha:IB k a)(hb:IB m b)(hk:k<=9000)(hm:m<=9000):Calls prog 73 #[.string (zs a),.string (zs b)] w (aZ w (.string (zs (a*b)))):=by
 have s1:=tG a;have s2:=tG b;have s3:(Lib.decDigits a.natAbs).length<=9001:=ha.jN hk;have s4:(Lib.decDigits b.natAbs).length<=9001:=hb.jN hm;have p1:=jV a.natAbs;have p2:=jV b.natAbs;by_cases h:(Lib.decDigits a.natAbs).length+(Lib.decDigits b.natAbs).length<=18
 ·have h18:((zs (a.natAbs:Int)).size:Int)+((zs (b.natAbs:Int)).size:Int)<=18:=ae;have b1:a.natAbs<10 ^ (Lib.decDigits a.natAbs).length:=ny _;have b2:b.natAbs<10 ^ (Lib.decDigits b.natAbs).length:=ny _;have b3:(a*b).natAbs<1000000000000000000:=by
   rw[Int.natAbs_mul];have:=Nat.mul_lt_mul'' b1 b2;rw[← Nat.pow_add] at this;exact Nat.lt_of_lt_of_le this (Nat.pow_le_pow_right (n:=10) af h)
  have A1:Hid (a.natAbs<1000000000000000000):=ai (Nat.lt_of_lt_of_le b1 (show _<=10 ^ 18 from Nat.pow_le_pow_right af ae));have B1:Hid (b.natAbs<1000000000000000000):=ai (Nat.lt_of_lt_of_le b2 (show _<=10 ^ 18 from Nat.pow_le_pow_right af ae));have c1:-1000000000000000000<=a*b:=ae;have c2:a*b<=1000000000000000000:=ae;clear s1 s2 s3 s4 p1 p2 h b1 b2 b3 ha hb;go_enter func73,ntmps73;go_wp2_with (first
   | (go_at_call 149;((with_reducible refine(a6 a w).mono ?_);rintro e w1 ⟨rfl,e1⟩))
   | (go_at_call 149;refine cto (a6 b _) fun w2 e2=>?_)
   | (go_at_call 150;((with_reducible refine(wY a w2 A1.out).mono ?_);rintro e w3 ⟨rfl,e3⟩))
   | (go_at_call 150;refine cto (wY b _ B1.out) fun w4 e4=>?_;have ub:=((e1.trans e2).trans e3).trans e4)
   | (go_at_call 119;refine cto (wZ (a*b) ae ae _ (g.ext ub)) fun w5 e5=>?_))
  go_ret;exact⟨rfl,ub.trans e5⟩
 ·have h18:¬ ((zs (a.natAbs:Int)).size:Int)+((zs (b.natAbs:Int)).size:Int)<=18:=ae;have S1:((zs (a.natAbs:Int)).size:Int)<=9001:=ae;have S2:((zs (b.natAbs:Int)).size:Int)<=9001:=ae;have L1:Hid ((Lib.decDigits a.natAbs).length<=20000):=ai ae;have L2:Hid ((Lib.decDigits b.natAbs).length<=20000):=ai ae;have FA:=ai (ha.x7 ae);have FB:=ai (hb.x7 ae);have FC:Hid (jX (a.natAbs*b.natAbs)):=ai (by rw[← Int.natAbs_mul];exact(ha.mul hb).x7 ae);have HS:=ai (My a b);clear s1 s2 s3 s4 p1 p2 h ha hb;go_enter func73,ntmps73;go_wp2_with (first
   | (go_at_call 149;((with_reducible refine(a6 a w).mono ?_);rintro e w1 ⟨rfl,e1⟩))
   | (go_at_call 149;refine cto (a6 b _) fun w2 e2=>?_)
   | (go_at_call 153;((with_reducible refine(b6 a.natAbs w2 L1.out).mono ?_);rintro e w3 ⟨va,rfl,e3,ma⟩;obtain⟨aa,an,ac,rfl⟩:=ma.slice))
   | (go_at_call 153;refine(b6 b.natAbs _ L2.out).mono ?_;rintro e w4 ⟨vb,rfl,e4,mb⟩;obtain⟨ba,bn,bc,rfl⟩:=mb.slice;have ub:=((e1.trans e2).trans e3).trans e4)
   | (go_at_call 152;refine(MM a.natAbs b.natAbs _ _ _ (ma.ext e4) mb FA.out FB.out FC.out).mono ?_;rintro e w5 ⟨vc,rfl,e5,mc⟩;obtain⟨ca,cn,cc,rfl⟩:=mc.slice)
   | (go_at_call 151;refine cto (dy _ (a.natAbs*b.natAbs) _ _ mc FC.out (g.ext (ub.trans e5))) fun w6 e6=>?_))
  go_ret;exact⟨cF HS.o,(ub.trans e5).trans e6⟩
theorem dw(a b:Nat):((a:Int)+1*(b:Int)).toNat=a+b:=ae
theorem bQ{a b:Nat}(h:b<=a):((a:Int)+-1*(b:Int)).toNat=a-b:=ae
set_option maxHeartbeats 1000000 in
theorem G0(a b:Int)(w:World)(g:Gd w)(ha:(Lib.decDigits a.natAbs).length<=17)(hb:(Lib.decDigits b.natAbs).length<=17):Calls prog 215 #[.string (zs a),.string (zs b)] w (aZ w (.string (zs (a+b)))):=by
 have h1:=cC ha;have h2:=cC hb;have b1:-9223372036854775808<=a+b:=ae;have b2:a+b<=9223372036854775807:=ae;have HA:=ai ha;have HB:=ai hb;clear h1 h2 ha hb;go_enter func215,ntmps215;go_wp2_with (first
  | (go_at_call 219;((with_reducible refine(ck a w HA.o).mono ?_);rintro e w1 ⟨rfl,e1⟩))
  | (go_at_call 219;refine cto (ck b _ HB.o) fun w2 e2=>?_)
  | (go_at_call 119;refine cto (wZ (a+b) b1 b2 _ (g.ext (e1.trans e2))) fun w3 e3=>?_))
 go_ret;exact⟨rfl,(e1.trans e2).trans e3⟩
theorem OT(a b:Int){k m:Nat}(w:World)(g:Gd w)(ha:IB k a)(hb:IB m b)(hk:k<=9000)(hm:m<=9000)(h:¬ ((Lib.decDigits a.natAbs).length<=17/\(Lib.decDigits b.natAbs).length<=17)):Calls prog 215 #[.string (zs a),.string (zs b)] w (aZ w (.string (zs (a+b)))):=by
 have s3:(Lib.decDigits a.natAbs).length<=9001:=ha.jN hk;have s4:(Lib.decDigits b.natAbs).length<=9001:=hb.jN hm;have L1:Hid ((Lib.decDigits a.natAbs).length<=20000):=ai ae;have L2:Hid ((Lib.decDigits b.natAbs).length<=20000):=ai ae;have FA:=ai (ha.x7 ae);have FB:=ai (hb.x7 ae);have Fs:Hid (jX (a.natAbs+b.natAbs)):=ai (by
  have h1:IB (max k m+1) ((a.natAbs:Int)+(b.natAbs:Int)):=IB.add ⟨by simpa using ha.out⟩ ⟨by simpa using hb.out⟩;have h2:=h1.x7 ae;rwa[← Int.natCast_add,Int.natAbs_natCast] at h2)
 clear s3 s4 ha hb
 -- which sum is made
 obtain⟨sa,iM⟩:∃ sa,sa=decide (a<0):=⟨_,rfl⟩
 obtain⟨sb,k8⟩:∃ sb,sb=decide (b<0):=⟨_,rfl⟩
 have pJ:=ai iM;have ue:=ai k8;obtain⟨lt,aP⟩:∃ lt,lt=decide (a.natAbs<b.natAbs):=⟨_,rfl⟩
 have LK:=ai aP;have key:Hid (((sa == sb)=true->jg sa (a.natAbs+b.natAbs)=a+b)/\((sa == sb)=false->lt=true->jg sb (b.natAbs-a.natAbs)=a+b/\a.natAbs<=b.natAbs)/\((sa == sb)=false->lt=false->jg sa (a.natAbs-b.natAbs)=a+b/\b.natAbs<=a.natAbs)):=ai (by
  refine⟨fun e=>?_,fun e e2=>?_,fun e e2=>?_⟩
  ·rw[iM];exact CE (by rw[← iM,← k8];simpa using e)
  ·have hl:a.natAbs<b.natAbs:=of_decide_eq_true (aP▸e2);refine⟨?_,Nat.le_of_lt hl⟩;rw[k8,Int.add_comm];exact ri (by rw[← iM,← k8];intro e3;rw[e3] at e;simp at e) (Nat.le_of_lt hl)
  ·have hl:¬ a.natAbs<b.natAbs:=of_decide_eq_false (aP▸e2);refine⟨?_,ae⟩;rw[iM];exact ri (by rw[← iM,← k8];intro e3;rw[e3] at e;simp at e) ae)
 clear iM k8 aP;by_cases h9:(Lib.decDigits a.natAbs).length<=17
 ·have H9:=ai h9;have tq:Hid (¬ (Lib.decDigits b.natAbs).length<=17):=ai (fun e=>h ⟨h9,e⟩);clear h h9;rcases Bool.eq_false_or_eq_true (sa == sb) with hs|hs
  ·have oY:=ai (key.out.1 hs);clear key;go_enter func215,ntmps215;go_wp2_with (first
    | (go_at_call 219;((with_reducible refine(ck a w H9.o).mono ?_);rintro e w0 ⟨rfl,e0⟩))
    | (go_at_call 219;refine cto (b8 b _ tq.o) fun w1 e1=>?_;have ml:=e0.trans e1)
    | (go_at_call 149;((with_reducible refine(a6 a w1).mono ?_);rw[← pJ.o];rintro e w2 ⟨rfl,e2⟩))
    | (go_at_call 149;refine(a6 b _).mono ?_;rw[← ue.o];rintro e w3 ⟨rfl,e3⟩)
    | (go_at_call 153;((with_reducible refine(b6 a.natAbs w3 L1.out).mono ?_);rintro e w4 ⟨va,rfl,e4,ma⟩;obtain⟨aa,an,ac,rfl⟩:=ma.slice))
    | (go_at_call 153;refine(b6 b.natAbs _ L2.out).mono ?_;rintro e w5 ⟨vb,rfl,e5,mb⟩;obtain⟨ba,bn,bc,rfl⟩:=mb.slice;have jj:=(((ml.trans e2).trans e3).trans e4).trans e5)
    | (go_at_call 221;refine(dh a.natAbs b.natAbs 1 _ _ _ (ma.ext e5) mb ae ae ae FA.out FB.out (by rw[dw];exact Fs.out)).mono ?_;rw[dw];rintro e w7 ⟨vc,rfl,e7,mc⟩;obtain⟨ca,cn,cc,rfl⟩:=mc.slice;have k6:=jj.trans e7)
    | (go_at_call 151;refine cto (dy _ (a.natAbs+b.natAbs) _ _ mc Fs.out (g.ext k6)) fun w8 e8=>?_))
   go_ret;exact⟨cF oY.out,k6.trans e8⟩
  ·cases lt
   ·have oY:=ai (key.out.2.2 hs rfl);clear key;go_enter func215,ntmps215;go_wp2_with (first
     | (go_at_call 219;((with_reducible refine(ck a w H9.o).mono ?_);rintro e w0 ⟨rfl,e0⟩))
     | (go_at_call 219;refine cto (b8 b _ tq.o) fun w1 e1=>?_;have ml:=e0.trans e1)
     | (go_at_call 149;((with_reducible refine(a6 a w1).mono ?_);rw[← pJ.o];rintro e w2 ⟨rfl,e2⟩))
     | (go_at_call 149;refine(a6 b _).mono ?_;rw[← ue.o];rintro e w3 ⟨rfl,e3⟩)
     | (go_at_call 153;((with_reducible refine(b6 a.natAbs w3 L1.out).mono ?_);rintro e w4 ⟨va,rfl,e4,ma⟩;obtain⟨aa,an,ac,rfl⟩:=ma.slice))
     | (go_at_call 153;refine(b6 b.natAbs _ L2.out).mono ?_;rintro e w5 ⟨vb,rfl,e5,mb⟩;obtain⟨ba,bn,bc,rfl⟩:=mb.slice;have jj:=(((ml.trans e2).trans e3).trans e4).trans e5)
     | (go_at_call 260;refine(lN a.natAbs b.natAbs _ _ _ (ma.ext e5) mb).mono ?_;rw[← LK.o];rintro e w6 ⟨rfl,e6⟩)
     | (go_at_call 221;refine(dh a.natAbs b.natAbs (-1) _ _ _ ((ma.ext e5).ext e6) (mb.ext e6) ae ae (by have:=oY.out.2;omega) FA.out FB.out (by rw[bQ oY.out.2];exact FA.out.mono (Nat.sub_le _ _))).mono ?_;rw[bQ oY.out.2];rintro e w7 ⟨vc,rfl,e7,mc⟩;obtain⟨ca,cn,cc,rfl⟩:=mc.slice;have k6:=(jj.trans e6).trans e7)
     | (go_at_call 151;refine cto (dy _ (a.natAbs-b.natAbs) _ _ mc (FA.out.mono (Nat.sub_le _ _)) (g.ext k6)) fun w8 e8=>?_))
    go_ret;exact⟨cF oY.out.1,k6.trans e8⟩
   ·have oY:=ai (key.out.2.1 hs rfl);clear key;go_enter func215,ntmps215;go_wp2_with (first
     | (go_at_call 219;((with_reducible refine(ck a w H9.o).mono ?_);rintro e w0 ⟨rfl,e0⟩))
     | (go_at_call 219;refine cto (b8 b _ tq.o) fun w1 e1=>?_;have ml:=e0.trans e1)
     | (go_at_call 149;((with_reducible refine(a6 a w1).mono ?_);rw[← pJ.o];rintro e w2 ⟨rfl,e2⟩))
     | (go_at_call 149;refine(a6 b _).mono ?_;rw[← ue.o];rintro e w3 ⟨rfl,e3⟩)
     | (go_at_call 153;((with_reducible refine(b6 a.natAbs w3 L1.out).mono ?_);rintro e w4 ⟨va,rfl,e4,ma⟩;obtain⟨aa,an,ac,rfl⟩:=ma.slice))
     | (go_at_call 153;refine(b6 b.natAbs _ L2.out).mono ?_;rintro e w5 ⟨vb,rfl,e5,mb⟩;obtain⟨ba,bn,bc,rfl⟩:=mb.slice;have jj:=(((ml.trans e2).trans e3).trans e4).trans e5)
     | (go_at_call 260;refine(lN a.natAbs b.natAbs _ _ _ (ma.ext e5) mb).mono ?_;rw[← LK.o];rintro e w6 ⟨rfl,e6⟩)
     | (go_at_call 221;refine(dh b.natAbs a.natAbs (-1) _ _ _ (mb.ext e6) ((ma.ext e5).ext e6) ae ae (by have:=oY.out.2;omega) FB.out FA.out (by rw[bQ oY.out.2];exact FB.out.mono (Nat.sub_le _ _))).mono ?_;rw[bQ oY.out.2];rintro e w7 ⟨vc,rfl,e7,mc⟩;obtain⟨ca,cn,cc,rfl⟩:=mc.slice;have k6:=(jj.trans e6).trans e7)
     | (go_at_call 151;refine cto (dy _ (b.natAbs-a.natAbs) _ _ mc (FB.out.mono (Nat.sub_le _ _)) (g.ext k6)) fun w8 e8=>?_))
    go_ret;exact⟨cF oY.out.1,k6.trans e8⟩
 ·have H9:=ai h9;clear h h9;by_cases h8:(Lib.decDigits b.natAbs).length<=17
  ·have tq:=ai h8;clear h8;rcases Bool.eq_false_or_eq_true (sa == sb) with hs|hs
   ·have oY:=ai (key.out.1 hs);clear key;go_enter func215,ntmps215;go_wp2_with (first
     | (go_at_call 219;((with_reducible refine(b8 a w H9.o).mono ?_);rintro e w0 ⟨rfl,e0⟩))
     | (go_at_call 219;first|(refine cto (ck b _ tq.o) fun w1 e1=>?_;have ml:=e0.trans e1)|(refine cto (b8 b _ tq.o) fun w1 e1=>?_;have ml:=e0.trans e1))
     | (go_at_call 149;((with_reducible refine(a6 a w1).mono ?_);rw[← pJ.o];rintro e w2 ⟨rfl,e2⟩))
     | (go_at_call 149;refine(a6 b _).mono ?_;rw[← ue.o];rintro e w3 ⟨rfl,e3⟩)
     | (go_at_call 153;((with_reducible refine(b6 a.natAbs w3 L1.out).mono ?_);rintro e w4 ⟨va,rfl,e4,ma⟩;obtain⟨aa,an,ac,rfl⟩:=ma.slice))
     | (go_at_call 153;refine(b6 b.natAbs _ L2.out).mono ?_;rintro e w5 ⟨vb,rfl,e5,mb⟩;obtain⟨ba,bn,bc,rfl⟩:=mb.slice;have jj:=(((ml.trans e2).trans e3).trans e4).trans e5)
     | (go_at_call 221;refine(dh a.natAbs b.natAbs 1 _ _ _ (ma.ext e5) mb ae ae ae FA.out FB.out (by rw[dw];exact Fs.out)).mono ?_;rw[dw];rintro e w7 ⟨vc,rfl,e7,mc⟩;obtain⟨ca,cn,cc,rfl⟩:=mc.slice;have k6:=jj.trans e7)
     | (go_at_call 151;refine cto (dy _ (a.natAbs+b.natAbs) _ _ mc Fs.out (g.ext k6)) fun w8 e8=>?_))
    go_ret;exact⟨cF oY.out,k6.trans e8⟩
   ·cases lt
    ·have oY:=ai (key.out.2.2 hs rfl);clear key;go_enter func215,ntmps215;go_wp2_with (first
      | (go_at_call 219;((with_reducible refine(b8 a w H9.o).mono ?_);rintro e w0 ⟨rfl,e0⟩))
      | (go_at_call 219;first|(refine cto (ck b _ tq.o) fun w1 e1=>?_;have ml:=e0.trans e1)|(refine cto (b8 b _ tq.o) fun w1 e1=>?_;have ml:=e0.trans e1))
      | (go_at_call 149;((with_reducible refine(a6 a w1).mono ?_);rw[← pJ.o];rintro e w2 ⟨rfl,e2⟩))
      | (go_at_call 149;refine(a6 b _).mono ?_;rw[← ue.o];rintro e w3 ⟨rfl,e3⟩)
      | (go_at_call 153;((with_reducible refine(b6 a.natAbs w3 L1.out).mono ?_);rintro e w4 ⟨va,rfl,e4,ma⟩;obtain⟨aa,an,ac,rfl⟩:=ma.slice))
      | (go_at_call 153;refine(b6 b.natAbs _ L2.out).mono ?_;rintro e w5 ⟨vb,rfl,e5,mb⟩;obtain⟨ba,bn,bc,rfl⟩:=mb.slice;have jj:=(((ml.trans e2).trans e3).trans e4).trans e5)
      | (go_at_call 260;refine(lN a.natAbs b.natAbs _ _ _ (ma.ext e5) mb).mono ?_;rw[← LK.o];rintro e w6 ⟨rfl,e6⟩)
      | (go_at_call 221;refine(dh a.natAbs b.natAbs (-1) _ _ _ ((ma.ext e5).ext e6) (mb.ext e6) ae ae (by have:=oY.out.2;omega) FA.out FB.out (by rw[bQ oY.out.2];exact FA.out.mono (Nat.sub_le _ _))).mono ?_;rw[bQ oY.out.2];rintro e w7 ⟨vc,rfl,e7,mc⟩;obtain⟨ca,cn,cc,rfl⟩:=mc.slice;have k6:=(jj.trans e6).trans e7)
      | (go_at_call 151;refine cto (dy _ (a.natAbs-b.natAbs) _ _ mc (FA.out.mono (Nat.sub_le _ _)) (g.ext k6)) fun w8 e8=>?_))
     go_ret;exact⟨cF oY.out.1,k6.trans e8⟩
    ·have oY:=ai (key.out.2.1 hs rfl);clear key;go_enter func215,ntmps215;go_wp2_with (first
      | (go_at_call 219;((with_reducible refine(b8 a w H9.o).mono ?_);rintro e w0 ⟨rfl,e0⟩))
      | (go_at_call 219;first|(refine cto (ck b _ tq.o) fun w1 e1=>?_;have ml:=e0.trans e1)|(refine cto (b8 b _ tq.o) fun w1 e1=>?_;have ml:=e0.trans e1))
      | (go_at_call 149;((with_reducible refine(a6 a w1).mono ?_);rw[← pJ.o];rintro e w2 ⟨rfl,e2⟩))
      | (go_at_call 149;refine(a6 b _).mono ?_;rw[← ue.o];rintro e w3 ⟨rfl,e3⟩)
      | (go_at_call 153;((with_reducible refine(b6 a.natAbs w3 L1.out).mono ?_);rintro e w4 ⟨va,rfl,e4,ma⟩;obtain⟨aa,an,ac,rfl⟩:=ma.slice))
      | (go_at_call 153;refine(b6 b.natAbs _ L2.out).mono ?_;rintro e w5 ⟨vb,rfl,e5,mb⟩;obtain⟨ba,bn,bc,rfl⟩:=mb.slice;have jj:=(((ml.trans e2).trans e3).trans e4).trans e5)
      | (go_at_call 260;refine(lN a.natAbs b.natAbs _ _ _ (ma.ext e5) mb).mono ?_;rw[← LK.o];rintro e w6 ⟨rfl,e6⟩)
      | (go_at_call 221;refine(dh b.natAbs a.natAbs (-1) _ _ _ (mb.ext e6) ((ma.ext e5).ext e6) ae ae (by have:=oY.out.2;omega) FB.out FA.out (by rw[bQ oY.out.2];exact FB.out.mono (Nat.sub_le _ _))).mono ?_;rw[bQ oY.out.2];rintro e w7 ⟨vc,rfl,e7,mc⟩;obtain⟨ca,cn,cc,rfl⟩:=mc.slice;have k6:=(jj.trans e6).trans e7)
      | (go_at_call 151;refine cto (dy _ (b.natAbs-a.natAbs) _ _ mc (FB.out.mono (Nat.sub_le _ _)) (g.ext k6)) fun w8 e8=>?_))
     go_ret;exact⟨cF oY.out.1,k6.trans e8⟩
  ·have tq:=ai h8;clear h8;rcases Bool.eq_false_or_eq_true (sa == sb) with hs|hs
   ·have oY:=ai (key.out.1 hs);clear key;go_enter func215,ntmps215;go_wp2_with (first
     | (go_at_call 219;((with_reducible refine(b8 a w H9.o).mono ?_);rintro e w0 ⟨rfl,e0⟩))
     | (go_at_call 219;first|(refine cto (ck b _ tq.o) fun w1 e1=>?_;have ml:=e0.trans e1)|(refine cto (b8 b _ tq.o) fun w1 e1=>?_;have ml:=e0.trans e1))
     | (go_at_call 149;((with_reducible refine(a6 a w1).mono ?_);rw[← pJ.o];rintro e w2 ⟨rfl,e2⟩))
     | (go_at_call 149;refine(a6 b _).mono ?_;rw[← ue.o];rintro e w3 ⟨rfl,e3⟩)
     | (go_at_call 153;((with_reducible refine(b6 a.natAbs w3 L1.out).mono ?_);rintro e w4 ⟨va,rfl,e4,ma⟩;obtain⟨aa,an,ac,rfl⟩:=ma.slice))
     | (go_at_call 153;refine(b6 b.natAbs _ L2.out).mono ?_;rintro e w5 ⟨vb,rfl,e5,mb⟩;obtain⟨ba,bn,bc,rfl⟩:=mb.slice;have jj:=(((ml.trans e2).trans e3).trans e4).trans e5)
     | (go_at_call 221;refine(dh a.natAbs b.natAbs 1 _ _ _ (ma.ext e5) mb ae ae ae FA.out FB.out (by rw[dw];exact Fs.out)).mono ?_;rw[dw];rintro e w7 ⟨vc,rfl,e7,mc⟩;obtain⟨ca,cn,cc,rfl⟩:=mc.slice;have k6:=jj.trans e7)
     | (go_at_call 151;refine cto (dy _ (a.natAbs+b.natAbs) _ _ mc Fs.out (g.ext k6)) fun w8 e8=>?_))
    go_ret;exact⟨cF oY.out,k6.trans e8⟩
   ·cases lt
    ·have oY:=ai (key.out.2.2 hs rfl);clear key;go_enter func215,ntmps215;go_wp2_with (first
      | (go_at_call 219;((with_reducible refine(b8 a w H9.o).mono ?_);rintro e w0 ⟨rfl,e0⟩))
      | (go_at_call 219;first|(refine cto (ck b _ tq.o) fun w1 e1=>?_;have ml:=e0.trans e1)|(refine cto (b8 b _ tq.o) fun w1 e1=>?_;have ml:=e0.trans e1))
      | (go_at_call 149;((with_reducible refine(a6 a w1).mono ?_);rw[← pJ.o];rintro e w2 ⟨rfl,e2⟩))
      | (go_at_call 149;refine(a6 b _).mono ?_;rw[← ue.o];rintro e w3 ⟨rfl,e3⟩)
      | (go_at_call 153;((with_reducible refine(b6 a.natAbs w3 L1.out).mono ?_);rintro e w4 ⟨va,rfl,e4,ma⟩;obtain⟨aa,an,ac,rfl⟩:=ma.slice))
      | (go_at_call 153;refine(b6 b.natAbs _ L2.out).mono ?_;rintro e w5 ⟨vb,rfl,e5,mb⟩;obtain⟨ba,bn,bc,rfl⟩:=mb.slice;have jj:=(((ml.trans e2).trans e3).trans e4).trans e5)
      | (go_at_call 260;refine(lN a.natAbs b.natAbs _ _ _ (ma.ext e5) mb).mono ?_;rw[← LK.o];rintro e w6 ⟨rfl,e6⟩)
      | (go_at_call 221;refine(dh a.natAbs b.natAbs (-1) _ _ _ ((ma.ext e5).ext e6) (mb.ext e6) ae ae (by have:=oY.out.2;omega) FA.out FB.out (by rw[bQ oY.out.2];exact FA.out.mono (Nat.sub_le _ _))).mono ?_;rw[bQ oY.out.2];rintro e w7 ⟨vc,rfl,e7,mc⟩;obtain⟨ca,cn,cc,rfl⟩:=mc.slice;have k6:=(jj.trans e6).trans e7)
      | (go_at_call 151;refine cto (dy _ (a.natAbs-b.natAbs) _ _ mc (FA.out.mono (Nat.sub_le _ _)) (g.ext k6)) fun w8 e8=>?_))
     go_ret;exact⟨cF oY.out.1,k6.trans e8⟩
    ·have oY:=ai (key.out.2.1 hs rfl);clear key;go_enter func215,ntmps215;go_wp2_with (first
      | (go_at_call 219;((with_reducible refine(b8 a w H9.o).mono ?_);rintro e w0 ⟨rfl,e0⟩))
      | (go_at_call 219;first|(refine cto (ck b _ tq.o) fun w1 e1=>?_;have ml:=e0.trans e1)|(refine cto (b8 b _ tq.o) fun w1 e1=>?_;have ml:=e0.trans e1))
      | (go_at_call 149;((with_reducible refine(a6 a w1).mono ?_);rw[← pJ.o];rintro e w2 ⟨rfl,e2⟩))
      | (go_at_call 149;refine(a6 b _).mono ?_;rw[← ue.o];rintro e w3 ⟨rfl,e3⟩)
      | (go_at_call 153;((with_reducible refine(b6 a.natAbs w3 L1.out).mono ?_);rintro e w4 ⟨va,rfl,e4,ma⟩;obtain⟨aa,an,ac,rfl⟩:=ma.slice))
      | (go_at_call 153;refine(b6 b.natAbs _ L2.out).mono ?_;rintro e w5 ⟨vb,rfl,e5,mb⟩;obtain⟨ba,bn,bc,rfl⟩:=mb.slice;have jj:=(((ml.trans e2).trans e3).trans e4).trans e5)
      | (go_at_call 260;refine(lN a.natAbs b.natAbs _ _ _ (ma.ext e5) mb).mono ?_;rw[← LK.o];rintro e w6 ⟨rfl,e6⟩)
      | (go_at_call 221;refine(dh b.natAbs a.natAbs (-1) _ _ _ (mb.ext e6) ((ma.ext e5).ext e6) ae ae (by have:=oY.out.2;omega) FB.out FA.out (by rw[bQ oY.out.2];exact FB.out.mono (Nat.sub_le _ _))).mono ?_;rw[bQ oY.out.2];rintro e w7 ⟨vc,rfl,e7,mc⟩;obtain⟨ca,cn,cc,rfl⟩:=mc.slice;have k6:=(jj.trans e6).trans e7)
      | (go_at_call 151;refine cto (dy _ (b.natAbs-a.natAbs) _ _ mc (FB.out.mono (Nat.sub_le _ _)) (g.ext k6)) fun w8 e8=>?_))
     go_ret;exact⟨cF oY.out.1,k6.trans e8⟩
theorem Yc(a b:Int){k m:Nat}(w:World)(g:Gd w)(ha:IB k a)(hb:IB m b)(hk:k<=9000)(hm:m<=9000):Calls prog 215 #[.string (zs a),.string (zs b)] w (aZ w (.string (zs (a+b)))):=by
 by_cases h:(Lib.decDigits a.natAbs).length<=17/\(Lib.decDigits b.natAbs).length<=17
 ·exact G0 a b w g h.1 h.2
 ·exact OT a b w g ha hb hk hm h
theorem X2(a b:Int){k m:Nat}(w:World)(g:Gd w)(ha:IB k a)(hb:IB m b)(hk:k<=9000)(hm:m<=9000):Calls prog 217 #[.string (zs a),.string (zs b)] w (aZ w (.string (zs (a-b)))):=by
 have HA:=ai ha;have HB:=ai hb;have E:=ai (Int.sub_eq_add_neg (a:=a) (b:=b));have L:=ai (hb.len ae);clear ha hb;go_enter func217,ntmps217;go_wp2_with (first
  | (go_at_call 261;refine cto (X3 b _ L.out) fun w1 e1=>?_)
  | (go_at_call 215;refine cto (Yc a (-b) _ (g.ext e1) HA.o HB.o.neg hk hm) fun w2 e2=>?_))
 go_ret;exact⟨cF E.out.symm,e1.trans e2⟩
theorem KQ(a b:Int):(a-b).sign=ib a b:=by
 rcases Int.lt_trichotomy a b with h|h|h
 ·rw[mZ h,Int.sign_eq_neg_one_of_neg ae]
 ·subst h;rw[uG,Int.sub_self];rfl
 ·rw[nc h,Int.sign_eq_one_of_pos ae]
theorem GZ(a b:Int){k m:Nat}(w:World)(g:Gd w)(ha:IB k a)(hb:IB m b)(hk:k<=9000)(hm:m<=9000):Calls prog 146 #[.string (zs a),.string (zs b)] w (aZ w (.int .i64 (ib a b))):=by
 have HA:=ai ha;have HB:=ai hb;have E:=ai (KQ a b);clear ha hb;go_enter func146,ntmps146;go_wp2_with (first
  | (go_at_call 217;refine cto (X2 a b _ g HA.o HB.o hk hm) fun w1 e1=>?_)
  | (go_at_call 144;refine(S7 _ _).mono ?_;rw[E.out];rintro e w2 ⟨rfl,e2⟩))
 go_ret;exact⟨rfl,e1.trans e2⟩
theorem xd{a b q r:Int}(hb:b≠0)(e:a=b*q+r)(h0:0<=r)(h1:r<b.natAbs):a / b=q/\a % b=r:=by
 rcases Int.lt_or_lt_of_ne hb with nN|nN
 ·exact(Int.ediv_emod_unique' (a:=a) (b:=b) (r:=r) (q:=q) nN).2 ⟨by rw[e,Int.add_comm],h0,ae⟩
 ·exact(Int.ediv_emod_unique (a:=a) (b:=b) (r:=r) (q:=q) nN).2 ⟨by rw[e,Int.add_comm],h0,ae⟩
theorem Ft(a b:Int)(hb:b≠0):(0<=a.tmod b/\a.tdiv b=a / b/\a.tmod b=a % b)∨(a.tmod b<0/\a.tmod b+max b (-b)=a % b/\(a-(a.tmod b+max b (-b))).tdiv b=a / b):=by
 have h:=Int.mul_tdiv_add_tmod a b;have hl:(a.tmod b).natAbs<b.natAbs:=by rw[Int.natAbs_tmod];exact Nat.mod_lt _ ae
 rcases Int.lt_or_le (a.tmod b) 0 with hn|hn
 ·refine Or.inr ⟨hn,?_⟩;rcases Int.lt_or_lt_of_ne hb with nN|nN
  ·have hm:max b (-b)=-b:=ae;rw[hm];obtain⟨e1,e2⟩:=xd (a:=a) (b:=b) (q:=a.tdiv b+1) (r:=a.tmod b+-b) hb (by rw[Int.mul_add,Int.mul_one];omega) ae ae;refine⟨e2.symm,?_⟩;rw[e1,show a-(a.tmod b+-b)=b*(a.tdiv b+1) by rw[Int.mul_add,Int.mul_one];omega,Int.mul_tdiv_cancel_left _ hb]
  ·have hm:max b (-b)=b:=ae;rw[hm];obtain⟨e1,e2⟩:=xd (a:=a) (b:=b) (q:=a.tdiv b-1) (r:=a.tmod b+b) hb (by rw[Int.mul_sub,Int.mul_one];omega) ae ae;refine⟨e2.symm,?_⟩;rw[e1,show a-(a.tmod b+b)=b*(a.tdiv b-1) by rw[Int.mul_sub,Int.mul_one];omega,Int.mul_tdiv_cancel_left _ hb]
 ·obtain⟨e1,e2⟩:=xd (a:=a) (b:=b) (q:=a.tdiv b) (r:=a.tmod b) hb ae hn ae;exact Or.inl ⟨hn,e1.symm,e2.symm⟩
theorem Im{n:Int}(h:n=0):((zs n).toList != [48])=false:=by rw[iA,zS.2 h];rfl
theorem Ce{n:Int}(h:n≠0):((zs n).toList != [48])=true:=by rw[iA];simpa using fun e=>h (zS.1 e)
theorem kl{a b c d:Int}(h:a=b)(k:c=d):Ending.returned (.tuple #[.string (zs a),.string (zs c)]) = .returned (.tuple #[.string (zs b),.string (zs d)]):=by rw[h,k]
set_option maxHeartbeats 1000000 in
theorem yk(a b:Int)(w:World)(g:Gd w)(ha:(Lib.decDigits a.natAbs).length<=17)(hb:(Lib.decDigits b.natAbs).length<=17)(fp:b≠0):Calls prog 148 #[.string (zs a),.string (zs b)] w (aZ w (.tuple #[.string (zs (a / b)),.string (zs (a % b))])):=by
 have h1:a.natAbs<100000000000000000:=cC ha;have h2:b.natAbs<100000000000000000:=cC hb;have HA:=ai ha;have HB:=ai hb;have LU:=Ft a b fp;have q1:(a.tdiv b).natAbs<=100000000000000000:=by rw[Int.natAbs_tdiv];exact Nat.le_trans (Nat.div_le_self _ _) (Nat.le_of_lt h1)
 have q2:(a / b).natAbs<=100000000000000000:=Nat.le_trans (Int.natAbs_ediv_le_natAbs _ _) (Nat.le_of_lt h1);have r1:(a.tmod b).natAbs<100000000000000000:=by
  have:(a.tmod b).natAbs<b.natAbs:=by rw[Int.natAbs_tmod];exact Nat.mod_lt _ ae
  omega
 have r2:=Int.emod_nonneg a fp;have r3:a % b<100000000000000000:=by have:=Int.emod_lt a fp;omega
 have a1:-100000000000000000<=a:=ae;have a2:a<=100000000000000000:=ae;have b1:-100000000000000000<=b:=ae;have b2:b<=100000000000000000:=ae;have c8:¬ b=0:=fp;obtain⟨Q,hQ⟩:∃ Q,Q=a / b:=⟨_,rfl⟩
 obtain⟨R,hR⟩:∃ R,R=a % b:=⟨_,rfl⟩
 rw[← hQ] at q2 LU ⊢;rw[← hR] at r2 r3 LU ⊢;have Q1:-100000000000000000<=Q:=ae;have Q2:Q<=100000000000000000:=ae;clear hQ hR h1 h2 ha hb q2 fp;rcases LU with⟨c1,c2,c3⟩|⟨c1,c2,c3⟩
 ·have w1:IntKind.i64.wrap (a.tdiv b)=Q:=by rw[c2];exact IntWalk.i64_in _ ae
  clear q1 r1;rw[c3] at c1;go_enter func148,ntmps148;go_upto_region 4 with(first
   | (go_at_call 219;((with_reducible refine(ck a w HA.o).mono ?_);rintro e w1 ⟨rfl,e1⟩))
   | (go_at_call 219;refine cto (ck b _ HB.o) fun w2 e2=>?_))
  go_region
  all_goals
   go_wp2_with (first
    | (go_at_call 119;((with_reducible refine(wZ Q ae ae w2.drew (g.ext (e1.trans e2).drew)).mono ?_);rintro e w3 ⟨rfl,e3⟩))
    | (go_at_call 119;refine cto (wZ R ae ae _ (g.ext ((e1.trans e2).drew.trans e3))) fun w4 e4=>?_))
   go_ret2;exact⟨rfl,((e1.trans e2).drew.trans e3).trans e4⟩
 ·obtain⟨T,hT⟩:∃ T,a.tmod b=T:=⟨_,rfl⟩
  obtain⟨D,hD⟩:∃ D,a.tdiv b=D:=⟨_,rfl⟩
  rw[hD] at q1;rw[hT] at c1 c2 c3 r1;have w1:IntKind.i64.wrap D=D:=IntWalk.i64_in _ ae;have w2:IntKind.i64.wrap (a.tdiv b)=D:=by rw[hD];exact w1
  rw[c2] at c3;go_enter func148,ntmps148;go_upto_region 4 with(first
   | (go_at_call 219;((with_reducible refine(ck a w HA.o).mono ?_);rintro e w1 ⟨rfl,e1⟩))
   | (go_at_call 219;refine cto (ck b _ HB.o) fun w2 e2=>?_))
  go_region
  all_goals
   go_wp2_with (first
    | (go_at_call 119;((with_reducible refine(wZ Q ae ae w2.drew (g.ext (e1.trans e2).drew)).mono ?_);rintro e w3 ⟨rfl,e3⟩))
    | (go_at_call 119;refine cto (wZ R ae ae _ (g.ext ((e1.trans e2).drew.trans e3))) fun w4 e4=>?_))
   go_ret2;exact⟨rfl,((e1.trans e2).drew.trans e3).trans e4⟩
theorem Wv(W:World):fK (W.alloc (.cells #[.int .i64 1] 3)) (.slice (some ⟨W.heap.size,0,none⟩) 1 1) 1 :=
 ⟨[1],Holds.one W .i64 1 _,⟨by intro x hx;simp at hx;omega,by simp⟩,gP _ _⟩
set_option maxHeartbeats 4000000 in
theorem D8(a b:Int){k m:Nat}(w:World)(g:Gd w)(ha:IB k a)(hb:IB m b)(hk:k<=9000)(hm:m<=9000)(fp:b≠0)(h:¬ ((Lib.decDigits a.natAbs).length<=17/\(Lib.decDigits b.natAbs).length<=17))(iM:false=decide (a<0))(HS:Hid (jg (!(decide (a<0) == decide (b<0))) (a.natAbs / b.natAbs)=a / b/\jg false (a.natAbs % b.natAbs)=a % b)):Calls prog 148 #[.string (zs a),.string (zs b)] w (aZ w (.tuple #[.string (zs (a / b)),.string (zs (a % b))])):=by
 have L1:Hid ((Lib.decDigits a.natAbs).length<=20000):=ai (Nat.le_trans (ha.jN hk) af);have L2:Hid ((Lib.decDigits b.natAbs).length<=20000):=ai (Nat.le_trans (hb.jN hm) af);have FA:=ai (ha.x7 ae);have FB:=ai (hb.Wm ae);have mC:Hid (0<b.natAbs):=ai ae;obtain⟨sb,k8⟩:∃ sb,sb=decide (b<0):=⟨_,rfl⟩
 rw[← iM,← k8] at HS;have pJ:=ai iM;have ue:=ai k8;clear iM k8 ha hb fp;by_cases h9:(Lib.decDigits a.natAbs).length<=17
 ·have H9:=ai h9;have H8:Hid (¬ (Lib.decDigits b.natAbs).length<=17):=ai (fun e=>h ⟨h9,e⟩);clear h h9;go_enter func148,ntmps148;go_wp2_with (first
        | (go_at_call 219;((with_reducible refine(ck a w H9.o).mono ?_);rintro e w0 ⟨rfl,e0⟩))
        | (go_at_call 219;refine cto (b8 b _ H8.o) fun w1 e1=>?_;have ml:=e0.trans e1)
        | (go_at_call 149;((with_reducible refine(a6 a w1).mono ?_);rw[← pJ.o];rintro e w2 ⟨rfl,e2⟩))
        | (go_at_call 149;refine(a6 b _).mono ?_;rw[← ue.o];rintro e w3 ⟨rfl,e3⟩)
        | (go_at_call 153;((with_reducible refine(b6 a.natAbs w3 L1.out).mono ?_);rintro e w4 ⟨va,rfl,e4,ma⟩;obtain⟨aa,an,ac,rfl⟩:=ma.slice))
        | (go_at_call 153;((with_reducible refine(b6 b.natAbs w4 L2.out).mono ?_);rintro e w5 ⟨vb,rfl,e5,mb⟩;obtain⟨ba,bn,bc,rfl⟩:=mb.slice;have jj:=(((ml.trans e2).trans e3).trans e4).trans e5))
        | (go_at_call 220;refine(iS a.natAbs b.natAbs _ _ _ (ma.ext e5) mb mC.o FA.out FB.out).mono ?_;rintro e w6 ⟨vq,vr,rfl,e6,mq,mr⟩;obtain⟨qa,qn,qc,rfl⟩:=mq.slice;obtain⟨ra,rn,rc,rfl⟩:=mr.slice;have oD:=jj.trans e6)
        | (go_at_call 151;((with_reducible refine(dy _ (a.natAbs / b.natAbs) _ w6 mq (FA.out.mono (Nat.div_le_self _ _)) (g.ext oD)).mono ?_);rintro e wa ⟨rfl,ea⟩))
        | (go_at_call 151;refine(dy false (a.natAbs % b.natAbs) _ _ (mr.ext ea) (FA.out.mono (Nat.mod_le _ _)) (g.ext (oD.trans ea))).mono ?_;rintro e wb ⟨rfl,eb⟩))
  go_ret2;exact⟨kl (by have:=HS.o.1;revert this;cases sb <;> exact id) HS.o.2,(oD.trans ea).trans eb⟩
 ·have H9:=ai h9;clear h h9;by_cases h8:(Lib.decDigits b.natAbs).length<=17
  ·have H8:=ai h8;clear h8;go_enter func148,ntmps148;go_wp2_with (first
         | (go_at_call 219;((with_reducible refine(b8 a w H9.o).mono ?_);rintro e w0 ⟨rfl,e0⟩))
         | (go_at_call 219;refine cto (ck b _ H8.o) fun w1 e1=>?_;have ml:=e0.trans e1)
         | (go_at_call 149;((with_reducible refine(a6 a w1).mono ?_);rw[← pJ.o];rintro e w2 ⟨rfl,e2⟩))
         | (go_at_call 149;refine(a6 b _).mono ?_;rw[← ue.o];rintro e w3 ⟨rfl,e3⟩)
         | (go_at_call 153;((with_reducible refine(b6 a.natAbs w3 L1.out).mono ?_);rintro e w4 ⟨va,rfl,e4,ma⟩;obtain⟨aa,an,ac,rfl⟩:=ma.slice))
         | (go_at_call 153;((with_reducible refine(b6 b.natAbs w4 L2.out).mono ?_);rintro e w5 ⟨vb,rfl,e5,mb⟩;obtain⟨ba,bn,bc,rfl⟩:=mb.slice;have jj:=(((ml.trans e2).trans e3).trans e4).trans e5))
         | (go_at_call 220;refine(iS a.natAbs b.natAbs _ _ _ (ma.ext e5) mb mC.o FA.out FB.out).mono ?_;rintro e w6 ⟨vq,vr,rfl,e6,mq,mr⟩;obtain⟨qa,qn,qc,rfl⟩:=mq.slice;obtain⟨ra,rn,rc,rfl⟩:=mr.slice;have oD:=jj.trans e6)
         | (go_at_call 151;((with_reducible refine(dy _ (a.natAbs / b.natAbs) _ w6 mq (FA.out.mono (Nat.div_le_self _ _)) (g.ext oD)).mono ?_);rintro e wa ⟨rfl,ea⟩))
         | (go_at_call 151;refine(dy false (a.natAbs % b.natAbs) _ _ (mr.ext ea) (FA.out.mono (Nat.mod_le _ _)) (g.ext (oD.trans ea))).mono ?_;rintro e wb ⟨rfl,eb⟩))
   go_ret2;exact⟨kl (by have:=HS.o.1;revert this;cases sb <;> exact id) HS.o.2,(oD.trans ea).trans eb⟩
  ·have H8:=ai h8;clear h8;go_enter func148,ntmps148;go_wp2_with (first
         | (go_at_call 219;((with_reducible refine(b8 a w H9.o).mono ?_);rintro e w0 ⟨rfl,e0⟩))
         | (go_at_call 219;refine cto (b8 b _ H8.o) fun w1 e1=>?_;have ml:=e0.trans e1)
         | (go_at_call 149;((with_reducible refine(a6 a w1).mono ?_);rw[← pJ.o];rintro e w2 ⟨rfl,e2⟩))
         | (go_at_call 149;refine(a6 b _).mono ?_;rw[← ue.o];rintro e w3 ⟨rfl,e3⟩)
         | (go_at_call 153;((with_reducible refine(b6 a.natAbs w3 L1.out).mono ?_);rintro e w4 ⟨va,rfl,e4,ma⟩;obtain⟨aa,an,ac,rfl⟩:=ma.slice))
         | (go_at_call 153;((with_reducible refine(b6 b.natAbs w4 L2.out).mono ?_);rintro e w5 ⟨vb,rfl,e5,mb⟩;obtain⟨ba,bn,bc,rfl⟩:=mb.slice;have jj:=(((ml.trans e2).trans e3).trans e4).trans e5))
         | (go_at_call 220;refine(iS a.natAbs b.natAbs _ _ _ (ma.ext e5) mb mC.o FA.out FB.out).mono ?_;rintro e w6 ⟨vq,vr,rfl,e6,mq,mr⟩;obtain⟨qa,qn,qc,rfl⟩:=mq.slice;obtain⟨ra,rn,rc,rfl⟩:=mr.slice;have oD:=jj.trans e6)
         | (go_at_call 151;((with_reducible refine(dy _ (a.natAbs / b.natAbs) _ w6 mq (FA.out.mono (Nat.div_le_self _ _)) (g.ext oD)).mono ?_);rintro e wa ⟨rfl,ea⟩))
         | (go_at_call 151;refine(dy false (a.natAbs % b.natAbs) _ _ (mr.ext ea) (FA.out.mono (Nat.mod_le _ _)) (g.ext (oD.trans ea))).mono ?_;rintro e wb ⟨rfl,eb⟩))
   go_ret2;exact⟨kl (by have:=HS.o.1;revert this;cases sb <;> exact id) HS.o.2,(oD.trans ea).trans eb⟩
set_option maxHeartbeats 4000000 in
theorem Bc(a b:Int){k m:Nat}(w:World)(g:Gd w)(ha:IB k a)(hb:IB m b)(hk:k<=9000)(hm:m<=9000)(fp:b≠0)(h:¬ ((Lib.decDigits a.natAbs).length<=17/\(Lib.decDigits b.natAbs).length<=17))(iM:true=decide (a<0))(yz:Hid (a.natAbs % b.natAbs=0))(HS:Hid (jg (!(decide (a<0) == decide (b<0))) (a.natAbs / b.natAbs)=a / b/\jg false (a.natAbs % b.natAbs)=a % b)):Calls prog 148 #[.string (zs a),.string (zs b)] w (aZ w (.tuple #[.string (zs (a / b)),.string (zs (a % b))])):=by
 have L1:Hid ((Lib.decDigits a.natAbs).length<=20000):=ai (Nat.le_trans (ha.jN hk) af);have L2:Hid ((Lib.decDigits b.natAbs).length<=20000):=ai (Nat.le_trans (hb.jN hm) af);have FA:=ai (ha.x7 ae);have FB:=ai (hb.Wm ae);have mC:Hid (0<b.natAbs):=ai ae;obtain⟨sb,k8⟩:∃ sb,sb=decide (b<0):=⟨_,rfl⟩
 rw[← iM,← k8] at HS;have pJ:=ai iM;have ue:=ai k8;clear iM k8 ha hb fp;by_cases h9:(Lib.decDigits a.natAbs).length<=17
 ·have H9:=ai h9;have H8:Hid (¬ (Lib.decDigits b.natAbs).length<=17):=ai (fun e=>h ⟨h9,e⟩);clear h h9;go_enter func148,ntmps148;go_wp2_with (first
        | (go_at_call 219;((with_reducible refine(ck a w H9.o).mono ?_);rintro e w0 ⟨rfl,e0⟩))
        | (go_at_call 219;refine cto (b8 b _ H8.o) fun w1 e1=>?_;have ml:=e0.trans e1)
        | (go_at_call 149;((with_reducible refine(a6 a w1).mono ?_);rw[← pJ.o];rintro e w2 ⟨rfl,e2⟩))
        | (go_at_call 149;refine(a6 b _).mono ?_;rw[← ue.o];rintro e w3 ⟨rfl,e3⟩)
        | (go_at_call 153;((with_reducible refine(b6 a.natAbs w3 L1.out).mono ?_);rintro e w4 ⟨va,rfl,e4,ma⟩;obtain⟨aa,an,ac,rfl⟩:=ma.slice))
        | (go_at_call 153;((with_reducible refine(b6 b.natAbs w4 L2.out).mono ?_);rintro e w5 ⟨vb,rfl,e5,mb⟩;obtain⟨ba,bn,bc,rfl⟩:=mb.slice;have jj:=(((ml.trans e2).trans e3).trans e4).trans e5))
        | (go_at_call 220;refine(iS a.natAbs b.natAbs _ _ _ (ma.ext e5) mb mC.o FA.out FB.out).mono ?_;rintro e w6 ⟨vq,vr,rfl,e6,mq,mr⟩;obtain⟨qa,qn,qc,rfl⟩:=mq.slice;obtain⟨ra,rn,rc,rfl⟩:=mr.slice;have oD:=jj.trans e6;have Uj:rn=0:=mr.fY.2 yz.o;subst Uj)
        | (go_at_call 151;((with_reducible refine(dy _ (a.natAbs / b.natAbs) _ w6 mq (FA.out.mono (Nat.div_le_self _ _)) (g.ext oD)).mono ?_);rintro e wa ⟨rfl,ea⟩))
        | (go_at_call 151;refine(dy false (a.natAbs % b.natAbs) _ _ (mr.ext ea) (FA.out.mono (Nat.mod_le _ _)) (g.ext (oD.trans ea))).mono ?_;rintro e wb ⟨rfl,eb⟩))
  go_ret2;exact⟨kl (by have:=HS.o.1;revert this;cases sb <;> exact id) HS.o.2,(oD.trans ea).trans eb⟩
 ·have H9:=ai h9;clear h h9;by_cases h8:(Lib.decDigits b.natAbs).length<=17
  ·have H8:=ai h8;clear h8;go_enter func148,ntmps148;go_wp2_with (first
         | (go_at_call 219;((with_reducible refine(b8 a w H9.o).mono ?_);rintro e w0 ⟨rfl,e0⟩))
         | (go_at_call 219;refine cto (ck b _ H8.o) fun w1 e1=>?_;have ml:=e0.trans e1)
         | (go_at_call 149;((with_reducible refine(a6 a w1).mono ?_);rw[← pJ.o];rintro e w2 ⟨rfl,e2⟩))
         | (go_at_call 149;refine(a6 b _).mono ?_;rw[← ue.o];rintro e w3 ⟨rfl,e3⟩)
         | (go_at_call 153;((with_reducible refine(b6 a.natAbs w3 L1.out).mono ?_);rintro e w4 ⟨va,rfl,e4,ma⟩;obtain⟨aa,an,ac,rfl⟩:=ma.slice))
         | (go_at_call 153;((with_reducible refine(b6 b.natAbs w4 L2.out).mono ?_);rintro e w5 ⟨vb,rfl,e5,mb⟩;obtain⟨ba,bn,bc,rfl⟩:=mb.slice;have jj:=(((ml.trans e2).trans e3).trans e4).trans e5))
         | (go_at_call 220;refine(iS a.natAbs b.natAbs _ _ _ (ma.ext e5) mb mC.o FA.out FB.out).mono ?_;rintro e w6 ⟨vq,vr,rfl,e6,mq,mr⟩;obtain⟨qa,qn,qc,rfl⟩:=mq.slice;obtain⟨ra,rn,rc,rfl⟩:=mr.slice;have oD:=jj.trans e6;have Uj:rn=0:=mr.fY.2 yz.o;subst Uj)
         | (go_at_call 151;((with_reducible refine(dy _ (a.natAbs / b.natAbs) _ w6 mq (FA.out.mono (Nat.div_le_self _ _)) (g.ext oD)).mono ?_);rintro e wa ⟨rfl,ea⟩))
         | (go_at_call 151;refine(dy false (a.natAbs % b.natAbs) _ _ (mr.ext ea) (FA.out.mono (Nat.mod_le _ _)) (g.ext (oD.trans ea))).mono ?_;rintro e wb ⟨rfl,eb⟩))
   go_ret2;exact⟨kl (by have:=HS.o.1;revert this;cases sb <;> exact id) HS.o.2,(oD.trans ea).trans eb⟩
  ·have H8:=ai h8;clear h8;go_enter func148,ntmps148;go_wp2_with (first
         | (go_at_call 219;((with_reducible refine(b8 a w H9.o).mono ?_);rintro e w0 ⟨rfl,e0⟩))
         | (go_at_call 219;refine cto (b8 b _ H8.o) fun w1 e1=>?_;have ml:=e0.trans e1)
         | (go_at_call 149;((with_reducible refine(a6 a w1).mono ?_);rw[← pJ.o];rintro e w2 ⟨rfl,e2⟩))
         | (go_at_call 149;refine(a6 b _).mono ?_;rw[← ue.o];rintro e w3 ⟨rfl,e3⟩)
         | (go_at_call 153;((with_reducible refine(b6 a.natAbs w3 L1.out).mono ?_);rintro e w4 ⟨va,rfl,e4,ma⟩;obtain⟨aa,an,ac,rfl⟩:=ma.slice))
         | (go_at_call 153;((with_reducible refine(b6 b.natAbs w4 L2.out).mono ?_);rintro e w5 ⟨vb,rfl,e5,mb⟩;obtain⟨ba,bn,bc,rfl⟩:=mb.slice;have jj:=(((ml.trans e2).trans e3).trans e4).trans e5))
         | (go_at_call 220;refine(iS a.natAbs b.natAbs _ _ _ (ma.ext e5) mb mC.o FA.out FB.out).mono ?_;rintro e w6 ⟨vq,vr,rfl,e6,mq,mr⟩;obtain⟨qa,qn,qc,rfl⟩:=mq.slice;obtain⟨ra,rn,rc,rfl⟩:=mr.slice;have oD:=jj.trans e6;have Uj:rn=0:=mr.fY.2 yz.o;subst Uj)
         | (go_at_call 151;((with_reducible refine(dy _ (a.natAbs / b.natAbs) _ w6 mq (FA.out.mono (Nat.div_le_self _ _)) (g.ext oD)).mono ?_);rintro e wa ⟨rfl,ea⟩))
         | (go_at_call 151;refine(dy false (a.natAbs % b.natAbs) _ _ (mr.ext ea) (FA.out.mono (Nat.mod_le _ _)) (g.ext (oD.trans ea))).mono ?_;rintro e wb ⟨rfl,eb⟩))
   go_ret2;exact⟨kl (by have:=HS.o.1;revert this;cases sb <;> exact id) HS.o.2,(oD.trans ea).trans eb⟩
set_option maxHeartbeats 4000000 in
theorem D9(a b:Int){k m:Nat}(w:World)(g:Gd w)(ha:IB k a)(hb:IB m b)(hk:k<=9000)(hm:m<=9000)(fp:b≠0)(h:¬ ((Lib.decDigits a.natAbs).length<=17/\(Lib.decDigits b.natAbs).length<=17))(iM:true=decide (a<0))(yz:Hid (a.natAbs % b.natAbs≠0))(HS:Hid (jg (!(decide (a<0) == decide (b<0))) (a.natAbs / b.natAbs+1)=a / b/\jg false (b.natAbs-a.natAbs % b.natAbs)=a % b)):Calls prog 148 #[.string (zs a),.string (zs b)] w (aZ w (.tuple #[.string (zs (a / b)),.string (zs (a % b))])):=by
 have L1:Hid ((Lib.decDigits a.natAbs).length<=20000):=ai (Nat.le_trans (ha.jN hk) af);have L2:Hid ((Lib.decDigits b.natAbs).length<=20000):=ai (Nat.le_trans (hb.jN hm) af);have FA:=ai (ha.x7 ae);have FB:=ai (hb.Wm ae);have mC:Hid (0<b.natAbs):=ai ae;have FQ:Hid (jX (a.natAbs / b.natAbs+1)):=ai (by
  have h1:IB (max k 1+1) ((a.natAbs / b.natAbs:Nat)+1:Int):=IB.add ⟨by rw[Int.natAbs_natCast];exact Nat.lt_of_le_of_lt (Nat.div_le_self _ _) ha.out⟩ ⟨af⟩;have h2:=h1.x7 ae;exact h2.mono ae)
 have YW:Hid (jX 1):=ai ⟨Nat.one_lt_pow af af⟩;have qO:=ai (Nat.le_of_lt (Nat.mod_lt a.natAbs (show 0<b.natAbs by omega)));obtain⟨sb,k8⟩:∃ sb,sb=decide (b<0):=⟨_,rfl⟩
 rw[← iM,← k8] at HS;have pJ:=ai iM;have ue:=ai k8;clear iM k8 ha hb fp;by_cases h9:(Lib.decDigits a.natAbs).length<=17
 ·have H9:=ai h9;have H8:Hid (¬ (Lib.decDigits b.natAbs).length<=17):=ai (fun e=>h ⟨h9,e⟩);clear h h9;go_enter func148,ntmps148;go_wp2_with (first
        | (go_at_call 219;((with_reducible refine(ck a w H9.o).mono ?_);rintro e w0 ⟨rfl,e0⟩))
        | (go_at_call 219;refine cto (b8 b _ H8.o) fun w1 e1=>?_;have ml:=e0.trans e1)
        | (go_at_call 149;((with_reducible refine(a6 a w1).mono ?_);rw[← pJ.o];rintro e w2 ⟨rfl,e2⟩))
        | (go_at_call 149;refine(a6 b _).mono ?_;rw[← ue.o];rintro e w3 ⟨rfl,e3⟩)
        | (go_at_call 153;((with_reducible refine(b6 a.natAbs w3 L1.out).mono ?_);rintro e w4 ⟨va,rfl,e4,ma⟩;obtain⟨aa,an,ac,rfl⟩:=ma.slice))
        | (go_at_call 153;((with_reducible refine(b6 b.natAbs w4 L2.out).mono ?_);rintro e w5 ⟨vb,rfl,e5,mb⟩;obtain⟨ba,bn,bc,rfl⟩:=mb.slice;have jj:=(((ml.trans e2).trans e3).trans e4).trans e5))
        | (go_at_call 220;refine(iS a.natAbs b.natAbs _ _ _ (ma.ext e5) mb mC.o FA.out FB.out).mono ?_;rintro e w6 ⟨vq,vr,rfl,e6,mq,mr⟩;obtain⟨qa,qn,qc,rfl⟩:=mq.slice;obtain⟨ra,rn,rc,rfl⟩:=mr.slice;have Uj:0<rn:=by rcases Nat.eq_zero_or_pos rn with h|h;(exact absurd (mr.fY.1 h) yz.o);exact h)
        | (go_at_call 221;((with_reducible refine(dh (a.natAbs / b.natAbs) 1 1 _ _ _ (mq.ext ((Ext.refl w6).alloc _)) (Wv w6) ae ae (by have:=Int.natCast_nonneg (a.natAbs / b.natAbs);omega) (FA.out.mono (Nat.div_le_self _ _)) YW.out (by rw[dw];exact FQ.out)).mono ?_);rw[dw];rintro e w7 ⟨v7,rfl,e7,m7⟩;obtain⟨xa,xn,xc,rfl⟩:=m7.slice;have k6:=((Ext.refl w6).alloc (.cells #[.int .i64 1] 3)).trans e7))
        | (go_at_call 153;refine(b6 b.natAbs _ L2.out).mono ?_;rintro e w8 ⟨v8,rfl,e8,m8⟩;obtain⟨ya,yn,yc,rfl⟩:=m8.slice)
        | (go_at_call 221;refine(dh b.natAbs (a.natAbs % b.natAbs) (-1) _ _ _ m8 ((mr.ext k6).ext e8) ae ae (by have:=qO.o;omega) FB.out.r (FB.out.r.mono qO.o) (by rw[bQ qO.o];exact FB.out.r.mono (Nat.sub_le _ _))).mono ?_;rw[bQ qO.o];rintro e w9 ⟨v9,rfl,e9,m9⟩;obtain⟨za,zn,zc,rfl⟩:=m9.slice;have oD:=((jj.trans e6).trans k6).trans (e8.trans e9))
        | (go_at_call 151;((with_reducible refine(dy _ (a.natAbs / b.natAbs+1) _ w9 ((m7.ext e8).ext e9) FQ.out (g.ext oD)).mono ?_);rintro e wa ⟨rfl,ea⟩))
        | (go_at_call 151;refine(dy false (b.natAbs-a.natAbs % b.natAbs) _ _ (m9.ext ea) (FB.out.r.mono (Nat.sub_le _ _)) (g.ext (oD.trans ea))).mono ?_;rintro e wb ⟨rfl,eb⟩))
  go_ret2;exact⟨kl (by have:=HS.o.1;revert this;cases sb <;> exact id) HS.o.2,(oD.trans ea).trans eb⟩
 ·have H9:=ai h9;clear h h9;by_cases h8:(Lib.decDigits b.natAbs).length<=17
  ·have H8:=ai h8;clear h8;go_enter func148,ntmps148;go_wp2_with (first
         | (go_at_call 219;((with_reducible refine(b8 a w H9.o).mono ?_);rintro e w0 ⟨rfl,e0⟩))
         | (go_at_call 219;refine cto (ck b _ H8.o) fun w1 e1=>?_;have ml:=e0.trans e1)
         | (go_at_call 149;((with_reducible refine(a6 a w1).mono ?_);rw[← pJ.o];rintro e w2 ⟨rfl,e2⟩))
         | (go_at_call 149;refine(a6 b _).mono ?_;rw[← ue.o];rintro e w3 ⟨rfl,e3⟩)
         | (go_at_call 153;((with_reducible refine(b6 a.natAbs w3 L1.out).mono ?_);rintro e w4 ⟨va,rfl,e4,ma⟩;obtain⟨aa,an,ac,rfl⟩:=ma.slice))
         | (go_at_call 153;((with_reducible refine(b6 b.natAbs w4 L2.out).mono ?_);rintro e w5 ⟨vb,rfl,e5,mb⟩;obtain⟨ba,bn,bc,rfl⟩:=mb.slice;have jj:=(((ml.trans e2).trans e3).trans e4).trans e5))
         | (go_at_call 220;refine(iS a.natAbs b.natAbs _ _ _ (ma.ext e5) mb mC.o FA.out FB.out).mono ?_;rintro e w6 ⟨vq,vr,rfl,e6,mq,mr⟩;obtain⟨qa,qn,qc,rfl⟩:=mq.slice;obtain⟨ra,rn,rc,rfl⟩:=mr.slice;have Uj:0<rn:=by rcases Nat.eq_zero_or_pos rn with h|h;(exact absurd (mr.fY.1 h) yz.o);exact h)
         | (go_at_call 221;((with_reducible refine(dh (a.natAbs / b.natAbs) 1 1 _ _ _ (mq.ext ((Ext.refl w6).alloc _)) (Wv w6) ae ae (by have:=Int.natCast_nonneg (a.natAbs / b.natAbs);omega) (FA.out.mono (Nat.div_le_self _ _)) YW.out (by rw[dw];exact FQ.out)).mono ?_);rw[dw];rintro e w7 ⟨v7,rfl,e7,m7⟩;obtain⟨xa,xn,xc,rfl⟩:=m7.slice;have k6:=((Ext.refl w6).alloc (.cells #[.int .i64 1] 3)).trans e7))
         | (go_at_call 153;refine(b6 b.natAbs _ L2.out).mono ?_;rintro e w8 ⟨v8,rfl,e8,m8⟩;obtain⟨ya,yn,yc,rfl⟩:=m8.slice)
         | (go_at_call 221;refine(dh b.natAbs (a.natAbs % b.natAbs) (-1) _ _ _ m8 ((mr.ext k6).ext e8) ae ae (by have:=qO.o;omega) FB.out.r (FB.out.r.mono qO.o) (by rw[bQ qO.o];exact FB.out.r.mono (Nat.sub_le _ _))).mono ?_;rw[bQ qO.o];rintro e w9 ⟨v9,rfl,e9,m9⟩;obtain⟨za,zn,zc,rfl⟩:=m9.slice;have oD:=((jj.trans e6).trans k6).trans (e8.trans e9))
         | (go_at_call 151;((with_reducible refine(dy _ (a.natAbs / b.natAbs+1) _ w9 ((m7.ext e8).ext e9) FQ.out (g.ext oD)).mono ?_);rintro e wa ⟨rfl,ea⟩))
         | (go_at_call 151;refine(dy false (b.natAbs-a.natAbs % b.natAbs) _ _ (m9.ext ea) (FB.out.r.mono (Nat.sub_le _ _)) (g.ext (oD.trans ea))).mono ?_;rintro e wb ⟨rfl,eb⟩))
   go_ret2;exact⟨kl (by have:=HS.o.1;revert this;cases sb <;> exact id) HS.o.2,(oD.trans ea).trans eb⟩
  ·have H8:=ai h8;clear h8;go_enter func148,ntmps148;go_wp2_with (first
         | (go_at_call 219;((with_reducible refine(b8 a w H9.o).mono ?_);rintro e w0 ⟨rfl,e0⟩))
         | (go_at_call 219;refine cto (b8 b _ H8.o) fun w1 e1=>?_;have ml:=e0.trans e1)
         | (go_at_call 149;((with_reducible refine(a6 a w1).mono ?_);rw[← pJ.o];rintro e w2 ⟨rfl,e2⟩))
         | (go_at_call 149;refine(a6 b _).mono ?_;rw[← ue.o];rintro e w3 ⟨rfl,e3⟩)
         | (go_at_call 153;((with_reducible refine(b6 a.natAbs w3 L1.out).mono ?_);rintro e w4 ⟨va,rfl,e4,ma⟩;obtain⟨aa,an,ac,rfl⟩:=ma.slice))
         | (go_at_call 153;((with_reducible refine(b6 b.natAbs w4 L2.out).mono ?_);rintro e w5 ⟨vb,rfl,e5,mb⟩;obtain⟨ba,bn,bc,rfl⟩:=mb.slice;have jj:=(((ml.trans e2).trans e3).trans e4).trans e5))
         | (go_at_call 220;refine(iS a.natAbs b.natAbs _ _ _ (ma.ext e5) mb mC.o FA.out FB.out).mono ?_;rintro e w6 ⟨vq,vr,rfl,e6,mq,mr⟩;obtain⟨qa,qn,qc,rfl⟩:=mq.slice;obtain⟨ra,rn,rc,rfl⟩:=mr.slice;have Uj:0<rn:=by rcases Nat.eq_zero_or_pos rn with h|h;(exact absurd (mr.fY.1 h) yz.o);exact h)
         | (go_at_call 221;((with_reducible refine(dh (a.natAbs / b.natAbs) 1 1 _ _ _ (mq.ext ((Ext.refl w6).alloc _)) (Wv w6) ae ae (by have:=Int.natCast_nonneg (a.natAbs / b.natAbs);omega) (FA.out.mono (Nat.div_le_self _ _)) YW.out (by rw[dw];exact FQ.out)).mono ?_);rw[dw];rintro e w7 ⟨v7,rfl,e7,m7⟩;obtain⟨xa,xn,xc,rfl⟩:=m7.slice;have k6:=((Ext.refl w6).alloc (.cells #[.int .i64 1] 3)).trans e7))
         | (go_at_call 153;refine(b6 b.natAbs _ L2.out).mono ?_;rintro e w8 ⟨v8,rfl,e8,m8⟩;obtain⟨ya,yn,yc,rfl⟩:=m8.slice)
         | (go_at_call 221;refine(dh b.natAbs (a.natAbs % b.natAbs) (-1) _ _ _ m8 ((mr.ext k6).ext e8) ae ae (by have:=qO.o;omega) FB.out.r (FB.out.r.mono qO.o) (by rw[bQ qO.o];exact FB.out.r.mono (Nat.sub_le _ _))).mono ?_;rw[bQ qO.o];rintro e w9 ⟨v9,rfl,e9,m9⟩;obtain⟨za,zn,zc,rfl⟩:=m9.slice;have oD:=((jj.trans e6).trans k6).trans (e8.trans e9))
         | (go_at_call 151;((with_reducible refine(dy _ (a.natAbs / b.natAbs+1) _ w9 ((m7.ext e8).ext e9) FQ.out (g.ext oD)).mono ?_);rintro e wa ⟨rfl,ea⟩))
         | (go_at_call 151;refine(dy false (b.natAbs-a.natAbs % b.natAbs) _ _ (m9.ext ea) (FB.out.r.mono (Nat.sub_le _ _)) (g.ext (oD.trans ea))).mono ?_;rintro e wb ⟨rfl,eb⟩))
   go_ret2;exact⟨kl (by have:=HS.o.1;revert this;cases sb <;> exact id) HS.o.2,(oD.trans ea).trans eb⟩
theorem Lh(a b:Int){k m:Nat}(w:World)(g:Gd w)(ha:IB k a)(hb:IB m b)(hk:k<=9000)(hm:m<=9000)(fp:b≠0):Calls prog 148 #[.string (zs a),.string (zs b)] w (aZ w (.tuple #[.string (zs (a / b)),.string (zs (a % b))])):=by
 by_cases hs:(Lib.decDigits a.natAbs).length<=17/\(Lib.decDigits b.natAbs).length<=17
 ·exact yk a b w g hs.1 hs.2 fp
 ·by_cases h:a<0
  ·by_cases h0:a.natAbs % b.natAbs=0
   ·exact Bc a b w g ha hb hk hm fp hs (decide_eq_true h).symm (ai h0) (ai (pC a b fp (Or.inr h0)))
   ·exact D9 a b w g ha hb hk hm fp hs (decide_eq_true h).symm (ai h0) (ai (zr a b fp h h0))
  ·exact D8 a b w g ha hb hk hm fp hs (decide_eq_false h).symm (ai (pC a b fp (Or.inl ae)))
theorem OQ(a b:Int){k m:Nat}(w:World)(g:Gd w)(ha:IB k a)(hb:IB m b)(hk:k<=9000)(hm:m<=9000):Calls prog 147 #[.string (zs a),.string (zs b)] w (aZ w (.string (zs (Int.gcd a b)))):=by
 have HA:Hid (IB 9000 (a.natAbs:Int)):=ai (IB.mono ⟨by simpa using ha.out⟩ hk);have HB:Hid (IB 9000 (b.natAbs:Int)):=ai (IB.mono ⟨by simpa using hb.out⟩ hm);have HG:=ai g;clear ha hb g;go_enter func147,ntmps147;go_wp2_with (first
  | (go_at_call 218;((with_reducible refine(OU a w).mono ?_);rintro e w1 ⟨rfl,e1⟩))
  | (go_at_call 218;refine cto (OU b _) fun w2 e2=>?_))
 go_loopg [0,1] b.natAbs (fun gk x y W=>∃ (X Y:Nat),x = .string (zs (X:Int))/\y = .string (zs (Y:Int))/\Y<=gk/\Hid (Nat.gcd X Y=Int.gcd a b/\IB 9000 (X:Int)/\IB 9000 (Y:Int))/\Ext w W)
 case atStart=>exact⟨a.natAbs,b.natAbs,rfl,rfl,Nat.le_refl _,ai ⟨rfl,HA.o,HB.o⟩,e1.trans e2⟩
 case round =>
  obtain⟨X,Y,rfl,rfl,hgk,jL,hx⟩:=hrel;by_cases h0:Y=0
  ·have z1:=Im (n:=(Y:Int)) ae;have z2:=sD (n:=(Y:Int)) ae;have E:Hid ((X:Int)=Int.gcd a b):=ai (by rw[← jL.out.1,h0,Nat.gcd_zero_right]);clear h0;go_wp2;go_ret;exact⟨cF E.out,hx⟩
  ·have z1:=Ce (n:=(Y:Int)) ae;have z2:=ki (n:=(Y:Int)) ae;have SN:X % Y<Y:=Nat.mod_lt _ ae;have Um:X % Y<gk:=ae;have HM:=ai Um;have H0:Hid ((Y:Int)≠0):=ai ae;have HC:Hid ((X:Int) % (Y:Int)=((X % Y:Nat):Int)):=ai (by simp);have NX:Hid (Nat.gcd Y (X % Y)=Int.gcd a b/\IB 9000 (Y:Int)/\IB 9000 ((X % Y:Nat):Int)):=ai ⟨by rw[← jL.out.1,Nat.gcd_comm,← Nat.gcd_rec,Nat.gcd_comm],jL.out.2.2,jL.out.2.2.of_le (by rw[Int.natAbs_natCast,Int.natAbs_natCast];exact Nat.le_of_lt SN)⟩;clear h0 SN Um;go_wp2_with (go_at_call 148;refine(Lh (X:Int) (Y:Int) _ (HG.o.ext hx) jL.out.2.1 jL.out.2.2 af af H0.o).mono ?_;rw[HC.o];rintro e w3 ⟨rfl,e3⟩);go_roundg (X % Y)
   case rel=>exact⟨Y,X % Y,rfl,rfl,Nat.le_refl _,NX,hx.trans e3⟩
   case measure=>exact HM.o
theorem DA(s:ByteArray)(w:World)(h:(47:UInt8) ∉ s.data.toList):Calls prog 186 #[.string s,.int .u8 47] w fun e w'=>e = .returned (.int .i64 (-1))/\w=w' :=
 (strings_IndexByte s 47 w).mono fun _ _ ⟨e,h2⟩=>⟨by rw[e,← indexByte_none h];rfl,h2.symm⟩
theorem N7(s:ByteArray)(x y:List UInt8)(w:World)(hs:s.data.toList=x ++ 47 :: y)(h:(47:UInt8) ∉ x):Calls prog 186 #[.string s,.int .u8 47] w fun e w'=>e = .returned (.int .i64 x.length)/\w=w' :=
 (strings_IndexByte s 47 w).mono fun _ _ ⟨e,h2⟩=>⟨by rw[e,← mY (y:=y) h,← hs];rfl,h2.symm⟩
theorem Li(s:ByteArray)(w:World)(h:(47:UInt8) ∉ s.data.toList):Calls prog 185 #[.string s] w fun e w'=>e = .returned (.tuple #[.string s,.string ⟨#[49]⟩])/\Ext w w':=by
 have H:=ai h;clear h;go_enter func185,ntmps185;go_wp2_with (go_at_call 186;refine(DA s _ H.o).mono ?_;rintro e w' ⟨rfl,rfl⟩);go_ret2;exact⟨rfl,Ext.refl _⟩
theorem Tc (s:ByteArray) (x y:List UInt8) (w:World) (hs:s.data.toList=x ++ 47 :: y) (h:(47:UInt8) ∉ x) (hl:s.size<=1000000) :
    Calls prog 185 #[.string s] w fun e w'=>e = .returned (.tuple #[.string ⟨x.toArray⟩,.string ⟨y.toArray⟩])/\Ext w w':=by
 have hi:=fun w=>N7 s x y w hs h
 have gh:x.length+1<=s.size:=by
  have:s.size=s.data.toList.length:=by rw[Array.length_toList];rfl
  rw[this,hs];simp
 have nU:=El x y;have Ov:=zu x y;rw[show(⟨(x ++ 47 :: y).toArray⟩:ByteArray)=s by rw[← hs]] at nU Ov;obtain⟨n,hn⟩:∃ n,n=x.length:=⟨_,rfl⟩
 rw[← hn] at hi gh nU Ov;have HI:=ai hi;have HL:=ai nU;have HR:=ai Ov;clear hi h hs hn nU Ov;have qgi:(n:Int)+1<=(s.size:Int):=ae;have qgh:(n:Int)<=(s.size:Int):=ae;go_enter func185,ntmps185;go_wp2_with (go_at_call 186;refine(HI.o _).mono ?_;rintro e w' ⟨rfl,rfl⟩);go_region
 all_goals
  go_wp2;go_ret2;exact⟨by rw[← HL.o,← HR.o];rfl,(Ext.refl _).drew⟩
set_option maxHeartbeats 1000000 in
theorem tL (s x y : ByteArray) (w : World) (lx : x.size <= 1000000) (_ly : y.size <= 1000000) (hc : ∀ w, Calls prog 185 #[.string s] w fun e w' => e = .returned (.tuple #[.string x, .string y]) /\ Ext w w') (hx : ¬ dz x.data.toList) :
    Calls prog 114 #[.string s] w (aZ w (.bool false)):=by
 have HX:=ai hx;clear hx;go_enter func114,ntmps114;go_wp2_with (first
  | (go_at_call 185;refine cto (hc _) fun w1 e1=>?_)
  | (go_at_call 145;((with_reducible refine(fD x false w1 lx ⟨fun h=>absurd h HX.o,fun _=>rfl⟩).mono ?_);rintro e w2 ⟨rfl,e2⟩)))
 go_ret;exact⟨rfl,e1.trans e2⟩
set_option maxHeartbeats 1000000 in
theorem DX (s x y : ByteArray) (w : World) (lx : x.size <= 1000000) (ly : y.size <= 1000000) (hc : ∀ w, Calls prog 185 #[.string s] w fun e w' => e = .returned (.tuple #[.string x, .string y]) /\ Ext w w') (hx : dz x.data.toList) (hy : ¬ dz y.data.toList) :
    Calls prog 114 #[.string s] w (aZ w (.bool false)):=by
 have HX:=ai hx;have HY:=ai hy;clear hx hy;go_enter func114,ntmps114;go_wp2_with (first
  | (go_at_call 185;refine cto (hc _) fun w1 e1=>?_)
  | (go_at_call 145;((with_reducible refine(fD x true w1 lx ⟨fun _=>rfl,fun h=>absurd HX.o h⟩).mono ?_);rintro e w2 ⟨rfl,e2⟩))
  | (go_at_call 145;refine cto (fD y false w2 ly ⟨fun h=>absurd h HY.o,fun _=>rfl⟩) fun w3 e3=>?_))
 go_ret;exact⟨rfl,(e1.trans e2).trans e3⟩
set_option maxHeartbeats 1000000 in
theorem yj (s x y : ByteArray) (w : World) (lx : x.size <= 1000000) (ly : y.size <= 1000000) (hc : ∀ w, Calls prog 185 #[.string s] w fun e w' => e = .returned (.tuple #[.string x, .string y]) /\ Ext w w') (hx : dz x.data.toList) (hy : dz y.data.toList) (hi : ∀ w, Calls prog 186 #[.string s, .int .u8 47] w fun e w' => e = .returned (.int .i64 (-1)) /\ w = w') :
    Calls prog 114 #[.string s] w (aZ w (.bool true)):=by
 have HX:=ai hx;have HY:=ai hy;clear hx hy;go_enter func114,ntmps114;go_wp2_with (first
  | (go_at_call 185;refine cto (hc _) fun w1 e1=>?_)
  | (go_at_call 145;((with_reducible refine(fD x true w1 lx ⟨fun _=>rfl,fun h=>absurd HX.o h⟩).mono ?_);rintro e w2 ⟨rfl,e2⟩))
  | (go_at_call 145;refine cto (fD y true w2 ly ⟨fun _=>rfl,fun h=>absurd HY.o h⟩) fun w3 e3=>?_)
  | (go_at_call 186;refine(hi _).mono ?_;rintro e w4 ⟨rfl,rfl⟩))
 go_ret;exact⟨rfl,(e1.trans e2).trans e3⟩
set_option maxHeartbeats 1000000 in
theorem DW (s : ByteArray) (a b : Int) (n : Nat) (v : Bool) (w : World) (g : Gd w) (lx : (zs a).size <= 1000000) (ly : (zs b).size <= 1000000) (hc : ∀ w, Calls prog 185 #[.string s] w fun e w' => e = .returned (.tuple #[.string (zs a), .string (zs b)]) /\ Ext w w')
    (hi:∀ w,Calls prog 186 #[.string s,.int .u8 47] w fun e w'=>e = .returned (.int .i64 (n:Int))/\w=w')
    (ha:(Lib.decDigits a.natAbs).length<=200) (hb:(Lib.decDigits b.natAbs).length<=200)
    (hv:(1<b/\a≠0/\Int.gcd a b=1->v=true)/\(¬ (1<b/\a≠0/\Int.gcd a b=1)->v=false)) :
    Calls prog 114 #[.string s] w (aZ w (.bool v)):=by
 have HA:=ai (IB.AA ha);have HB:=ai (IB.AA hb);have RA:Hid (dz (zs a).data.toList):=ai (by rw[dA];exact ru.2 ha);have RB:Hid (dz (zs b).data.toList):=ai (by rw[dA];exact ru.2 hb);have one:zs 1=⟨#[49]⟩:=j3;have Cb:Hid (∀ w,Gd w->Calls prog 146 #[.string (zs b),.string ⟨#[49]⟩] w (aZ w (.int .i64 (ib b 1)))):=ai (fun w g=>by have:=GZ b 1 w g HB.o (m:=1) ⟨af⟩ af af;rw[one] at this;exact this);clear one ha hb;have dX:(0:Int)<=n:=ae;have hn1:¬ (n:Int)<0:=ae;obtain⟨c,GG⟩:∃ c,c=ib b 1:=⟨_,rfl⟩
 have BU:=ai GG;by_cases h1:1<b
 ·have I5:0<c:=by rw[GG,nc h1];omega
  by_cases h2:a=0
  ·have pw:=hv.2 (fun h=>h.2.1 h2);have HV:=ai pw;have z1:=sD h2;have z2:=Im h2;clear hv pw GG h1 h2;go_enter func114,ntmps114;go_wp2_with (first
    | (go_at_call 185;refine cto (hc _) fun w1 e1=>?_)
    | (go_at_call 145;((with_reducible refine(fD (zs a) true w1 lx ⟨fun _=>rfl,fun h=>absurd RA.out h⟩).mono ?_);rintro e w2 ⟨rfl,e2⟩))
    | (go_at_call 145;refine cto (fD (zs b) true w2 ly ⟨fun _=>rfl,fun h=>absurd RB.out h⟩) fun w3 e3=>?_)
    | (go_at_call 186;refine(hi _).mono ?_;rintro e w4 ⟨rfl,rfl⟩)
    | (go_at_call 146;refine(Cb.o _ (g.ext ((e1.trans e2).trans e3))).mono ?_;rw[← BU.o];rintro e w5 ⟨rfl,e5⟩))
   go_ret;exact⟨by rw[HV.o];rfl,((e1.trans e2).trans e3).trans e5⟩
  ·have z1:=ki h2;have z2:=Ce h2;obtain⟨G,hG⟩:∃ G:Nat,G=Int.gcd a b:=⟨_,rfl⟩
   have HG:=ai hG;by_cases h3:(G:Int)=1
   ·have pw:=hv.1 ⟨h1,h2,ae⟩;have HV:=ai pw;have z3:=zQ h3;have z4:=zP h3;clear hv pw GG h1 h2 h3 hG;go_enter func114,ntmps114;go_wp2_with (first
     | (go_at_call 185;refine cto (hc _) fun w1 e1=>?_)
     | (go_at_call 145;((with_reducible refine(fD (zs a) true w1 lx ⟨fun _=>rfl,fun h=>absurd RA.out h⟩).mono ?_);rintro e w2 ⟨rfl,e2⟩))
     | (go_at_call 145;refine cto (fD (zs b) true w2 ly ⟨fun _=>rfl,fun h=>absurd RB.out h⟩) fun w3 e3=>?_)
     | (go_at_call 186;refine(hi _).mono ?_;rintro e w4 ⟨rfl,rfl⟩)
     | (go_at_call 146;refine(Cb.o _ (g.ext ((e1.trans e2).trans e3))).mono ?_;rw[← BU.o];rintro e w5 ⟨rfl,e5⟩)
     | (go_at_call 147;refine(OQ a b _ (g.ext (((e1.trans e2).trans e3).trans e5)) HA.o HB.o af af).mono ?_;rw[← HG.o];rintro e w6 ⟨rfl,e6⟩))
    go_ret;exact⟨by rw[HV.o];rfl,(((e1.trans e2).trans e3).trans e5).trans e6⟩
   ·have pw:=hv.2 (fun h=>h3 (by have:=h.2.2;omega));have HV:=ai pw;have z3:=uj h3;have z4:=uS h3;clear hv pw GG h1 h2 h3 hG;go_enter func114,ntmps114;go_wp2_with (first
     | (go_at_call 185;refine cto (hc _) fun w1 e1=>?_)
     | (go_at_call 145;((with_reducible refine(fD (zs a) true w1 lx ⟨fun _=>rfl,fun h=>absurd RA.out h⟩).mono ?_);rintro e w2 ⟨rfl,e2⟩))
     | (go_at_call 145;refine cto (fD (zs b) true w2 ly ⟨fun _=>rfl,fun h=>absurd RB.out h⟩) fun w3 e3=>?_)
     | (go_at_call 186;refine(hi _).mono ?_;rintro e w4 ⟨rfl,rfl⟩)
     | (go_at_call 146;refine(Cb.o _ (g.ext ((e1.trans e2).trans e3))).mono ?_;rw[← BU.o];rintro e w5 ⟨rfl,e5⟩)
     | (go_at_call 147;refine(OQ a b _ (g.ext (((e1.trans e2).trans e3).trans e5)) HA.o HB.o af af).mono ?_;rw[← HG.o];rintro e w6 ⟨rfl,e6⟩))
    go_ret;exact⟨by rw[HV.o];rfl,(((e1.trans e2).trans e3).trans e5).trans e6⟩
 ·have I5:¬ 0<c:=by
   rw[GG];by_cases h:b=1
   ·subst h;rw[uG];omega
   ·rw[mZ ae];omega
  have pw:=hv.2 (fun h=>h1 h.1);have HV:=ai pw;clear hv pw GG h1;go_enter func114,ntmps114;go_wp2_with (first
   | (go_at_call 185;refine cto (hc _) fun w1 e1=>?_)
   | (go_at_call 145;((with_reducible refine(fD (zs a) true w1 lx ⟨fun _=>rfl,fun h=>absurd RA.out h⟩).mono ?_);rintro e w2 ⟨rfl,e2⟩))
   | (go_at_call 145;refine cto (fD (zs b) true w2 ly ⟨fun _=>rfl,fun h=>absurd RB.out h⟩) fun w3 e3=>?_)
   | (go_at_call 186;refine(hi _).mono ?_;rintro e w4 ⟨rfl,rfl⟩)
   | (go_at_call 146;refine(Cb.o _ (g.ext ((e1.trans e2).trans e3))).mono ?_;rw[← BU.o];rintro e w5 ⟨rfl,e5⟩))
  go_ret;exact⟨by rw[HV.o];rfl,((e1.trans e2).trans e3).trans e5⟩
theorem ze (s:ByteArray) (w:World) (g:Gd w) (v:Bool) (hl:s.size<=1000000) (hv:(nC s.data.toList->v=true)/\(¬ nC s.data.toList->v=false)) :
    Calls prog 114 #[.string s] w (aZ w (.bool v)):=by
 have qgg:s.size=s.data.toList.length:=by rw[Array.length_toList];rfl
 rcases tC s.data.toList with hn|⟨x,y,hs,hx⟩
 ·have hc:=fun w=>Li s w hn
  have r1:dz (⟨#[49]⟩:ByteArray).data.toList:=⟨1,by rw[← j3,dA],by rw[show(1:Int).natAbs=1 from rfl,sd];decide⟩
  by_cases h:dz s.data.toList
  ·rw[hv.1 ((lk hn).2 h)];exact yj s s ⟨#[49]⟩ w hl af hc h r1 (fun w=>DA s w hn)
  ·rw[hv.2 (fun e=>h ((lk hn).1 e))];exact tL s s _ w hl af hc h
 ·have hc:=fun w=>Tc s x y w hs hx hl
  have hi:=fun w=>N7 s x y w hs hx
  have hq:=yN hs hx;have hlen:x.length+y.length<s.size:=by rw[qgg,hs,List.length_append,List.length_cons];omega
  have lx:(⟨x.toArray⟩:ByteArray).size<=1000000:=by rw[iC];simp only;omega
  have ly:(⟨y.toArray⟩:ByteArray).size<=1000000:=by rw[iC];simp only;omega
  by_cases h1:dz x
  ·by_cases h2:dz y
   ·obtain⟨a,rfl,ha⟩:=h1;obtain⟨b,rfl,hb⟩:=h2;refine DW s a b _ v w g lx ly hc hi ha hb ⟨fun⟨k1,k2,k3⟩=>hv.1 (hq.2 ⟨a,b.natAbs,rfl,?_,ha,hb,ae,k2,?_⟩),fun hh=>hv.2 (fun e=>hh ?_)⟩
    ·rw[show((b.natAbs:Nat):Int)=b by omega]
    ·rw[show((b.natAbs:Nat):Int)=b by omega];exact k3
    ·obtain⟨a',b',e1,e2,_,_,k1,k2,k3⟩:=hq.1 e;have:=mH e1;have:=mH e2
     subst_vars
     exact⟨ae,k2,k3⟩
   ·rw[hv.2 (fun e=>by obtain⟨a,b,e1,e2,_,h4,_⟩:=hq.1 e;exact h2 ⟨b,e2,by simpa using h4⟩)];exact DX s ⟨x.toArray⟩ ⟨y.toArray⟩ w lx ly hc (by simpa using h1) (by simpa using h2)
  ·rw[hv.2 (fun e=>by obtain⟨a,b,e1,e2,h3,_⟩:=hq.1 e;exact h1 ⟨a,e1,h3⟩)];exact tL s ⟨x.toArray⟩ ⟨y.toArray⟩ w lx ly hc (by simpa using h1)
