/- Part 25. -/
import Derived.Test.YtmahadmefplbnaaGreatDoorQTDB
import Derived.Test.YtmahadmefplbnaaGreatDoorQTD24
import Derived.Laws.AppendOwnNone
set_option maxRecDepth 100000
set_option maxHeartbeats 2000000
open Go.Proofs.Tryz
namespace Go.Proofs.YtmahadmefplbnaaGreatDoor
open Go Go.RowKit
theorem kh {P:Program} {W:World} (t ty e:TypeId) (i:TypeInfo) (ht:P.underlying t=some (.slice e)) (hi:P.info? e=some i) (g cap:Nat) (ad:Option Addr) :
    (Builtin.append_ #[t,t] ty #[.slice (some ⟨g,0,none⟩) 0 0,.slice ad 0 cap]).run P W = .ok (.slice (some ⟨g,0,none⟩) 0 0) W:=by
 cases ad
 ·simp[Builtin.append_,run_underlying ht,sizeOf,typeInfo,hi,Builtin.lenOf,Builtin.firstCells,storeCells]
 ·simp[Builtin.append_,run_underlying ht,sizeOf,typeInfo,hi,Builtin.lenOf,Builtin.firstCells,storeCells,loadCells,loadCellsFrom]
theorem jd {P:Program} {w:World} {ops:Array Oper} {rest:List Oper} {o:Oper} {a:Act} {Q:Exit->Act->World->Prop} (hgd:o.guard=none) (s x:Operand) (t:TypeId)
    (ho:o.op = .call { callee:=.builtin .append,args:=#[s,x],argTypes:=#[t,t] })
    (e:TypeId) (i:TypeInfo) (ht:P.underlying t=some (.slice e)) (hi:P.info? e=some i) (g cap:Nat) (ad:Option Addr)
    (hs:a.eval s = .slice (some ⟨g,0,none⟩) 0 0) (hx:a.eval x = .slice ad 0 cap)
    (h:wpList P ops Q rest (a.put o.dst (.slice (some ⟨g,0,none⟩) 0 0)) w):wpList P ops Q (o :: rest) a w:=by
 refine wpList_plain hgd fun K hK=>?_
 have hrun:=kh (P:=P) (W:=w) t o.type e i ht hi g cap ad;unfold Oper.wp;simp[execOp,ho,resolve,invoke,builtin,hs,hx,hrun,Result.andThen];exact hK _ _ h
theorem kH:∀ {xs:List Int} {j:Nat} {d:Int},j<xs.length->iA (xs.set j (xs.getD j 0+d))=iA xs+10000 ^ j*d
 | x :: t,0,d,_=>by simp[iA];omega
 | x :: t,j+1,d,h=>by
  have ih:=kH (xs:=t) (j:=j) (d:=d) (by simpa using h);simp only[List.set_cons_succ,iA,List.getD_cons_succ,ih];rw[Int.mul_add,Int.pow_succ,Int.add_assoc,Int.mul_comm (10000 ^ j) 10000,Int.mul_assoc]
structure j5(P Q:List Nat)(k:Int)(i:Nat)(O:List Int):Prop where
 lo:i<=O.length
 hi:O.length<=P.length+i
 val:iA O=(mv 10000 P:Int)+k*mv 10000 (Q.take i)
 all:∀ y ∈ O,-200000000<=y/\y<=200000000
 rest:∀ j,i<=j->0<=O.getD j 0/\O.getD j 0<=9999
theorem j5.start{P Q:List Nat}{k:Int}(h:aC 10000 P):j5 P Q k 0 (P.map Int.ofNat):=by
 refine⟨Nat.zero_le _,by simp,by rw[AZ,List.take_zero];show _=_+k*((0:Nat):Int);simp,fun y hy=>?_,fun j _=>?_⟩
 ·obtain⟨x,hx,rfl⟩:=List.mem_map.1 hy;have:=h x hx;exact⟨by show _<=(x:Int);omega,by show(x:Int)<=_;omega⟩
 ·by_cases hj:j<P.length
  ·have:=h P[j] (List.getElem_mem _);rw[ia (by simpa using hj),List.getElem_map];exact⟨Int.natCast_nonneg _,by show(P[j]:Int)<=_;omega⟩
  ·simp[List.getElem?_eq_none (Nat.le_of_not_lt hj)]
theorem j5.pad{P Q:List Nat}{k:Int}{i:Nat}{O:List Int}(h:j5 P Q k i O)(hl:O.length<=i):iA (O ++ [0])=iA O/\(∀ y ∈ O ++ [(0:Int)],-200000000<=y/\y<=200000000)/\(∀ j,i<=j->0<=(O ++ [(0:Int)]).getD j 0/\(O ++ [(0:Int)]).getD j 0<=9999):=by
 refine⟨by rw[q5,Int.mul_zero,Int.add_zero],fun y hy=>?_,fun j hj=>?_⟩
 ·rcases List.mem_append.1 hy with hy|hy
  ·exact h.all y hy
  ·simp only[List.mem_singleton] at hy;subst hy;omega
 ·have hjl:O.length<=j:=ae;rw[List.getD_eq_getElem?_getD,List.getElem?_append_right hjl];rcases Nat.eq_zero_or_pos (j-O.length) with e|e
  ·rw[e];simp
  ·rw[List.getElem?_eq_none (by simp;omega)];simp
theorem j5.step {P Q:List Nat} {k:Int} {i:Nat} {O:List Int} {y:Nat} (h2:iA O=(mv 10000 P:Int)+k*mv 10000 (Q.take i)) (ha:∀ y ∈ O,-200000000<=y/\y<=200000000) (hr:∀ j,i<=j->0<=O.getD j 0/\O.getD j 0<=9999)
    (hh:O.length<=P.length+i+1) (hl:i<O.length) (hi:i<Q.length) (hy:y=Q[i]?.getD 0) (hy1:y<10000) (hk1:-9999<=k) (hk2:k<=9999):j5 P Q k (i+1) (O.set i (O.getD i 0+k*y)):=by
 have hky:-100000000<=k*y/\k*y<=100000000:=by
  have h1:(k*(y:Int)).natAbs<=10000*10000:=by rw[Int.natAbs_mul,Int.natAbs_natCast];exact Nat.mul_le_mul ae ae
  omega
 have hri:=hr i (Nat.le_refl _);refine⟨by rw[List.length_set];omega,by rw[List.length_set];omega,?_,fun z hz=>?_,fun j hj=>?_⟩
 ·rw[kH hl,h2,dP 10000 Q i hi,show Q[i]=y by rw[hy];simp[hi],Int.natCast_add,Int.natCast_mul,Int.natCast_pow,Int.mul_add,← Int.add_assoc]
  congr 1
  show(10000:Int) ^ i*(k*y)=k*((10000:Int) ^ i*y);rw[Int.mul_left_comm]
 ·rcases List.mem_or_eq_of_mem_set hz with hz|hz
  ·exact ha z hz
  ·rw[hz];omega
 ·rw[List.getD_eq_getElem?_getD,List.getElem?_set_ne ae,← List.getD_eq_getElem?_getD];exact hr j ae
theorem mT {w:World} {ad:Option Addr} {n c:Nat} {P:List Nat} (h:Holds .i64 w (.slice ad n c) P) (hn:0<n):∃ (b off:Nat),ad=some ⟨b,off,none⟩/\n=P.length /\
    ∀ j u,(P.map fun(x:Nat)=>Value.int .i64 x)[j]?=some u->w.cell? ((⟨b,off,none⟩:Addr).add j)=some u:=by
 obtain⟨ad',cap,b,off,hv,h1,h2,h3,h4⟩:=h;simp only[Value.slice.injEq] at hv;obtain⟨rfl,rfl,rfl⟩:=hv;refine⟨b,off,(h3 hn).1,rfl,fun j u hu=>?_⟩;have hj:j<P.length:=by have:=(List.getElem?_eq_some_iff.1 hu).1;simpa using this
 rw[Lib.add_plain,h4 j hj];rw[List.getElem?_map,List.getElem?_eq_getElem hj] at hu;rw[← hu];simp[hj]
def nB(w wr:World)(v:Value)(O:List Int):Prop:=wr.ownsRow w.heap.size 3 1 v O.length (O.map (Value.int .i64))/\Ext w wr
theorem nB.slice{w wr:World}{v:Value}{O:List Int}(h:nB w wr v O):∃ ad cap,v = .slice ad O.length cap:=by
 rcases h.1.2 with⟨rfl,h0⟩|⟨g,cap,cur,rfl,_⟩
 ·exact⟨none,0,by rw[h0]⟩
 ·exact⟨_,cap,rfl⟩
theorem nB.at' {w wr:World} {v:Value} {O:List Int} (h:nB w wr v O) (h0:0<O.length):∃ g cap,v = .slice (some ⟨g,0,none⟩) O.length cap/\w.heap.size<=g /\
    (∀ i,i<O.length->wr.cell? ⟨g,i,none⟩=some (.int .i64 (O.getD i 0)))/\(∀ i,wr.frozen? ⟨g,i,none⟩=false) /\
    ∀ i x,nB w (wr.setCell ⟨g,i,none⟩ (.int .i64 x)) v (O.set i x):=by
 have hown:=h.1;rcases h.1.2 with⟨rfl,h1⟩|⟨g,cap,cur,rfl,hg,_⟩
 ·omega
 ·refine⟨g,cap,rfl,hg,fun i hi=>?_,fun i=>hown.frozenAt i,fun i x=>?_⟩
  ·rw[hown.cellAt i ae];simp[hi]
  ·have:=hown.stored i (.int .i64 x);refine⟨?_,h.2.setCell hg _⟩;rw[List.length_set,List.map_set];exact this.1
set_option maxHeartbeats 4000000 in
theorem dA (a b:Nat) (k:Int) (va vb:Value) (w:World) (ha:cK w va a) (hb:cK w vb b) (hk1:-9999<=k) (hk2:k<=9999) (h0:0<=(a:Int)+k*b) (fa:gu a) (fb:gu b) (fc:gu ((a:Int)+k*b).toNat) :
    Calls prog 221 #[va,vb,.int .i64 k,.int .i64 0] w (zD w ((a:Int)+k*b).toNat):=by
 obtain⟨i0,hi,hz0,hz1,hz2⟩:=info_parts lz;obtain⟨ad,n,cn,rfl⟩:=ha.slice;obtain⟨P,hP,cP,rfl⟩:=ha;obtain⟨Q,hQ,cQ,rfl⟩:=hb;have hn:n=P.length:=by obtain⟨_,_,_,_,hv,_⟩:=hP;simp only[Value.slice.injEq] at hv;exact hv.2.1
 have hP2:=fa.len cP rfl;have hQ2:=fb.len cQ rfl;obtain⟨m,hm⟩:∃ m,m=Q.length:=⟨_,rfl⟩
 obtain⟨adQ,capQ,kQ,oQ,rfl,h1Q,hcQ,hbQ,hCQ⟩:=hQ;rw[← hm] at hQ2 h1Q hbQ hCQ ⊢;have HP:=aj hP;have HM:=aj hm;have H3:=aj hbQ;have H4:=aj hCQ;have BP:=aj cP.lt;have BQ:=aj cQ.lt;have H0:=aj h0;have HF:=aj fc;have HNP:=aj hn;clear hP hm hbQ hCQ cP cQ h0 fa fb fc;by_cases hn0:n=0
 ·subst hn0;have hPn:P=[]:=List.length_eq_zero_iff.1 hn.symm;have hown0:=(World.ownsRow_lit (base:=w.heap.size) (e:=3) (size:=1) w #[] 0 (Nat.le_refl _) (by unfold maxLen;omega) rfl)
  have HO0:Hid (nB w (w.alloc (.cells #[] 3)) (.slice (some ⟨w.heap.size,0,none⟩) 0 0) (P.map Int.ofNat)):=aj (by subst hPn;exact⟨hown0,(Ext.refl w).alloc _⟩);clear hn hPn hown0;go_enter func221,ntmps221;go_wp2_with (at_builtin;refine jd rfl _ _ 85 rfl 3 i0 underlying85 hi w.heap.size cn ad rfl rfl ?_);go_loopw [9,10] (fun out i W=>∃ (x:Nat) (O:List Int),i = .int .i64 x/\x<=m/\nB w W out O/\Hid (j5 P Q k x O)) (fun _ i _=>m-(intOf i).toNat)
  case atStart=>exact⟨0,P.map Int.ofNat,rfl,Nat.zero_le _,HO0.o,aj (j5.start BP.out)⟩
  case round =>
   obtain⟨x,O,rfl,hx,hout,hinv⟩:=hrel;obtain⟨oa,oc,rfl⟩:=hout.slice;have hOl:O.length<=10000:=by have:=hinv.out.hi;omega
   have HO1:=aj hout;clear hout;by_cases hxm:x<m
   ·have hxm':(x:Int)<(m:Int):=ae;obtain⟨y,hy⟩:∃ y,y=Q[x]?.getD 0:=⟨_,rfl⟩
    have hylt:y<10000:=by rw[hy];exact aK af BQ.out x
    have HY:=aj hy;clear hy;go_wp2;go_loopw [9] (fun out W=>∃ O':List Int,nB w W out O'/\x<=O'.length/\O'.length<=10001/\Hid (O'.length<=P.length+x+1/\(O'.length<=x->j5 P Q k x O')/\iA O'=(mv 10000 P:Int)+k*mv 10000 (Q.take x)/\(∀ y ∈ O',-200000000<=y/\y<=200000000)/\(∀ j,x<=j->0<=O'.getD j 0/\O'.getD j 0<=9999)))
     (fun out _=>match out with | .slice _ l _=>x+1-l|_=>0)
    case atStart=>exact⟨O,HO1.o,hinv.out.lo,ae,aj ⟨by have:=hinv.out.hi;omega,fun _=>hinv.out,hinv.out.val,hinv.out.all,hinv.out.rest⟩⟩
    case round =>
     obtain⟨O',hout,hlo,hhi,hin⟩:=hrel;obtain⟨pa,pc,rfl⟩:=hout.slice;have HO2:=aj hout;by_cases hle:O'.length<=x
     ·have hle':(O'.length:Int)<=(x:Int):=ae;have hpd:=(hin.out.2.1 hle).pad hle;have HPD:=aj hpd;clear hpd hout;go_wp2_with (at_builtin;refine wpList_append_own (wr.alloc (.cells #[.int .i64 0] 3)) rfl _ _ 85 rfl w.heap.size 3 i0 (.int .i64 0) 1 8 underlying85 hi hz0 hz1 hz2 rfl af _ O'.length _ rfl (HO2.o.1.alloc _) ⟨wr.heap.size,0,none⟩ 1 1 [.int .i64 0] rfl rfl (jo wr 0 _) (by intro u hu;simp at hu;subst hu;rfl) (by unfold maxLen;omega) ae (by have:=HO2.o.2.size;simp;omega) ?_;intro v' w1 hown1 hgrow1 hv1);go_roundw
      case rel =>
       refine⟨O' ++ [0],⟨?_,(HO2.o.2.alloc _).grown hgrow1 (fun g hg=>df HO2.o.1 g hg)⟩,by simp;omega,by simp;omega,aj ⟨by have:=hin.out.1;simp;omega,fun h=>by simp at h;omega,by rw[HPD.o.1];exact hin.out.2.2.1,HPD.o.2.1,HPD.o.2.2⟩⟩;rw[List.length_append,List.map_append];exact hown1
      case measure =>
       have hlen:∃ ga gc,v' = .slice ga (O'.length+1) gc:=by
        rcases hown1.2 with⟨_,h1⟩|⟨g,cap,cur,h1,_⟩
        ·omega
        ·exact⟨_,_,h1⟩
       obtain⟨ga,gc,rfl⟩:=hlen;show x+1-(O'.length+1)<x+1-O'.length;omega
     ·have hle':¬ (O'.length:Int)<=(x:Int):=ae;obtain⟨g,cap,hvv,hg,hcells,hfr,hset⟩:=hout.at' ae;simp only[Value.slice.injEq,true_and] at hvv;obtain⟨rfl,rfl⟩:=hvv;obtain⟨o,ho⟩:∃ o,o=O'.getD x 0:=⟨_,rfl⟩
      have hob:=hin.out.2.2.2.2 x (Nat.le_refl _);rw[← ho] at hob;obtain⟨ho1,ho2⟩:=hob;have hcell1:wr.cell? ⟨g,x,none⟩=some (.int .i64 o):=by rw[ho];exact hcells x ae
      have hcell2:wr.cell? ⟨kQ,oQ+x,none⟩=some (.int .i64 (y:Int)):=by
       rw[HY.o];exact(hout.2.cell (p:=⟨kQ,oQ+x,none⟩) (H3.o ae).2).trans (H4.o x hxm)
      have hfree:=hfr x;have hix2:=aQ 85 3 underlying85 k5 (cap:=capQ) (fun h=>(H3.o h).1) x hxm;have hJ:=j5.step hin.out.2.2.1 hin.out.2.2.2.1 hin.out.2.2.2.2 hin.out.1 ae (by rw[← HM.o];exact hxm) HY.o hylt hk1 hk2;rw[← ho] at hJ;have HJ:=aj hJ;have HSET:=aj (hset x (o+k*y));have hky:-100000000<=k*(y:Int)/\k*(y:Int)<=100000000:=by
       have h1:(k*(y:Int)).natAbs<=10000*10000:=by rw[Int.natAbs_mul,Int.natAbs_natCast];exact Nat.mul_le_mul ae ae
       omega
      obtain⟨hk3,hk4⟩:=hky;have sw1:IntKind.i64.wrap (x:Int)=(x:Int):=IntWalk.i64_in _ ae;have sw2:IntKind.i64.wrap (k*(y:Int))=k*(y:Int):=IntWalk.i64_in _ ae;have sw3:IntKind.i64.wrap (o+k*(y:Int))=o+k*(y:Int):=IntWalk.i64_in _ ae;have i1:(0:Int)<=(x:Int):=ae;have i2:(x:Int)<(O'.length:Int):=ae;have i3:x<O'.length:=ae;clear ho hcells hfr hset hJ hout hle;go_wp2;go_region_law (fail)
      all_goals
       go_wp2;go_roundw
       case rel=>first|exact⟨x+1,_,by go_num,ae,⟨HSET.o.1.drew,HSET.o.2.drew⟩,HJ⟩|((repeat apply Exists.intro);exact⟨⟨x+1,_,by go_num,ae,by have:=HSET.o;rw[List.length_set] at *;exact⟨this.1.drew,this.2.drew⟩,HJ⟩,rfl⟩)
       case measure=>simp[intOf];omega
   ·obtain rfl:m=x:=ae;have hval:=hinv.out.val;rw[HM.o,List.take_length] at hval;have hcar:=uF O (.slice oa O.length oc) wr (gv.bX HO1.o.1) (fun z hz=>by have:=hinv.out.all z hz;omega) ae (by rw[hval];exact H0.o) (by rw[hval];exact HF.o);rw[hval] at hcar;have HC:=aj hcar;clear hcar hval;go_wp2_with (go_at_call 224;refine HC.o.mono ?_;rintro e w' ⟨v',rfl,e1,hm⟩);go_ret;exact⟨v',rfl,HO1.o.2.trans e1,hm⟩
 ·have hn1:0<n:=ae;obtain⟨bP,oP,rfl,hnP,hnews⟩:=mT (HP.o.ext ((Ext.refl w).alloc (.cells #[] 3))) hn1;have hown0:=(World.ownsRow_lit (base:=w.heap.size) (e:=3) (size:=1) w #[] 0 (Nat.le_refl _) (by unfold maxLen;omega) rfl)
  have HW:=aj hnews;have HO00:=aj hown0;have hn5:n<=5000:=ae;clear hnews hown0 hnP hn;go_enter func221,ntmps221;go_wp2_with (at_builtin;refine wpList_append_own (w.alloc (.cells #[] 3)) rfl _ _ 85 rfl w.heap.size 3 i0 (.int .i64 0) 1 8 underlying85 hi hz0 hz1 hz2 rfl af _ 0 _ rfl HO00.o ⟨bP,oP,none⟩ n cn (P.map fun(x:Nat)=>Value.int .i64 x) rfl (by rw[List.length_map,← HNP.o];simp) HW.o (by intro u hu;obtain⟨x,_,rfl⟩:=List.mem_map.1 hu;rfl) (by unfold maxLen;omega) ae (by simp) ?_;intro v0 wr0 hown1 hgrow1 hv1);have HO0:Hid (nB w wr0 v0 (P.map Int.ofNat)):=aj (by
   refine⟨?_,((Ext.refl w).alloc _).grown hgrow1 (fun g hg=>df HO00.o g hg)⟩;have h1:=hown1;rw[List.length_map,List.map_map,← HNP.o];have h2:wr0.ownsRow w.heap.size 3 1 v0 n (P.map fun(x:Nat)=>Value.int .i64 x):=by simpa using h1
   exact h2)
  clear hown1 hgrow1 hv1;go_loopw [9,10] (fun out i W=>∃ (x:Nat) (O:List Int),i = .int .i64 x/\x<=m/\nB w W out O/\Hid (j5 P Q k x O)) (fun _ i _=>m-(intOf i).toNat)
  case atStart=>exact⟨0,P.map Int.ofNat,rfl,Nat.zero_le _,HO0.o,aj (j5.start BP.out)⟩
  case round =>
   obtain⟨x,O,rfl,hx,hout,hinv⟩:=hrel;obtain⟨oa,oc,rfl⟩:=hout.slice;have hOl:O.length<=10000:=by have:=hinv.out.hi;omega
   have HO1:=aj hout;clear hout;by_cases hxm:x<m
   ·have hxm':(x:Int)<(m:Int):=ae;obtain⟨y,hy⟩:∃ y,y=Q[x]?.getD 0:=⟨_,rfl⟩
    have hylt:y<10000:=by rw[hy];exact aK af BQ.out x
    have HY:=aj hy;clear hy;go_wp2;go_loopw [9] (fun out W=>∃ O':List Int,nB w W out O'/\x<=O'.length/\O'.length<=10001/\Hid (O'.length<=P.length+x+1/\(O'.length<=x->j5 P Q k x O')/\iA O'=(mv 10000 P:Int)+k*mv 10000 (Q.take x)/\(∀ y ∈ O',-200000000<=y/\y<=200000000)/\(∀ j,x<=j->0<=O'.getD j 0/\O'.getD j 0<=9999)))
     (fun out _=>match out with | .slice _ l _=>x+1-l|_=>0)
    case atStart=>exact⟨O,HO1.o,hinv.out.lo,ae,aj ⟨by have:=hinv.out.hi;omega,fun _=>hinv.out,hinv.out.val,hinv.out.all,hinv.out.rest⟩⟩
    case round =>
     obtain⟨O',hout,hlo,hhi,hin⟩:=hrel;obtain⟨pa,pc,rfl⟩:=hout.slice;have HO2:=aj hout;by_cases hle:O'.length<=x
     ·have hle':(O'.length:Int)<=(x:Int):=ae;have hpd:=(hin.out.2.1 hle).pad hle;have HPD:=aj hpd;clear hpd hout;go_wp2_with (at_builtin;refine wpList_append_own (wr.alloc (.cells #[.int .i64 0] 3)) rfl _ _ 85 rfl w.heap.size 3 i0 (.int .i64 0) 1 8 underlying85 hi hz0 hz1 hz2 rfl af _ O'.length _ rfl (HO2.o.1.alloc _) ⟨wr.heap.size,0,none⟩ 1 1 [.int .i64 0] rfl rfl (jo wr 0 _) (by intro u hu;simp at hu;subst hu;rfl) (by unfold maxLen;omega) ae (by have:=HO2.o.2.size;simp;omega) ?_;intro v' w1 hown1 hgrow1 hv1);go_roundw
      case rel =>
       refine⟨O' ++ [0],⟨?_,(HO2.o.2.alloc _).grown hgrow1 (fun g hg=>df HO2.o.1 g hg)⟩,by simp;omega,by simp;omega,aj ⟨by have:=hin.out.1;simp;omega,fun h=>by simp at h;omega,by rw[HPD.o.1];exact hin.out.2.2.1,HPD.o.2.1,HPD.o.2.2⟩⟩;rw[List.length_append,List.map_append];exact hown1
      case measure =>
       have hlen:∃ ga gc,v' = .slice ga (O'.length+1) gc:=by
        rcases hown1.2 with⟨_,h1⟩|⟨g,cap,cur,h1,_⟩
        ·omega
        ·exact⟨_,_,h1⟩
       obtain⟨ga,gc,rfl⟩:=hlen;show x+1-(O'.length+1)<x+1-O'.length;omega
     ·have hle':¬ (O'.length:Int)<=(x:Int):=ae;obtain⟨g,cap,hvv,hg,hcells,hfr,hset⟩:=hout.at' ae;simp only[Value.slice.injEq,true_and] at hvv;obtain⟨rfl,rfl⟩:=hvv;obtain⟨o,ho⟩:∃ o,o=O'.getD x 0:=⟨_,rfl⟩
      have hob:=hin.out.2.2.2.2 x (Nat.le_refl _);rw[← ho] at hob;obtain⟨ho1,ho2⟩:=hob;have hcell1:wr.cell? ⟨g,x,none⟩=some (.int .i64 o):=by rw[ho];exact hcells x ae
      have hcell2:wr.cell? ⟨kQ,oQ+x,none⟩=some (.int .i64 (y:Int)):=by
       rw[HY.o];exact(hout.2.cell (p:=⟨kQ,oQ+x,none⟩) (H3.o ae).2).trans (H4.o x hxm)
      have hfree:=hfr x;have hix2:=aQ 85 3 underlying85 k5 (cap:=capQ) (fun h=>(H3.o h).1) x hxm;have hJ:=j5.step hin.out.2.2.1 hin.out.2.2.2.1 hin.out.2.2.2.2 hin.out.1 ae (by rw[← HM.o];exact hxm) HY.o hylt hk1 hk2;rw[← ho] at hJ;have HJ:=aj hJ;have HSET:=aj (hset x (o+k*y));have hky:-100000000<=k*(y:Int)/\k*(y:Int)<=100000000:=by
       have h1:(k*(y:Int)).natAbs<=10000*10000:=by rw[Int.natAbs_mul,Int.natAbs_natCast];exact Nat.mul_le_mul ae ae
       omega
      obtain⟨hk3,hk4⟩:=hky;have sw1:IntKind.i64.wrap (x:Int)=(x:Int):=IntWalk.i64_in _ ae;have sw2:IntKind.i64.wrap (k*(y:Int))=k*(y:Int):=IntWalk.i64_in _ ae;have sw3:IntKind.i64.wrap (o+k*(y:Int))=o+k*(y:Int):=IntWalk.i64_in _ ae;have i1:(0:Int)<=(x:Int):=ae;have i2:(x:Int)<(O'.length:Int):=ae;have i3:x<O'.length:=ae;clear ho hcells hfr hset hJ hout hle;go_wp2;go_region_law (fail)
      all_goals
       go_wp2;go_roundw
       case rel=>first|exact⟨x+1,_,by go_num,ae,⟨HSET.o.1.drew,HSET.o.2.drew⟩,HJ⟩|((repeat apply Exists.intro);exact⟨⟨x+1,_,by go_num,ae,by have:=HSET.o;rw[List.length_set] at *;exact⟨this.1.drew,this.2.drew⟩,HJ⟩,rfl⟩)
       case measure=>simp[intOf];omega
   ·obtain rfl:m=x:=ae;have hval:=hinv.out.val;rw[HM.o,List.take_length] at hval;have hcar:=uF O (.slice oa O.length oc) wr (gv.bX HO1.o.1) (fun z hz=>by have:=hinv.out.all z hz;omega) ae (by rw[hval];exact H0.o) (by rw[hval];exact HF.o);rw[hval] at hcar;have HC:=aj hcar;clear hcar hval;go_wp2_with (go_at_call 224;refine HC.o.mono ?_;rintro e w' ⟨v',rfl,e1,hm⟩);go_ret;exact⟨v',rfl,HO1.o.2.trans e1,hm⟩
theorem jI {P:Program} {W:World} (t ty e:TypeId) (i:TypeInfo) (ht:P.underlying t=some (.slice e)) (hi:P.info? e=some i) (g n c cap:Nat) (hn:n<=c) (ad:Option Addr) :
    (Builtin.append_ #[t,t] ty #[.slice (some ⟨g,0,none⟩) n c,.slice ad 0 cap]).run P W = .ok (.slice (some ⟨g,0,none⟩) n c) W:=by
 cases ad
 ·simp[Builtin.append_,run_underlying ht,sizeOf,typeInfo,hi,Builtin.lenOf,Builtin.firstCells,storeCells,hn]
 ·simp[Builtin.append_,run_underlying ht,sizeOf,typeInfo,hi,Builtin.lenOf,Builtin.firstCells,storeCells,loadCells,loadCellsFrom,hn]
theorem ij {P:Program} {w:World} {ops:Array Oper} {rest:List Oper} {o:Oper} {a:Act} {Q:Exit->Act->World->Prop} (hgd:o.guard=none) (s x:Operand) (t:TypeId)
    (ho:o.op = .call { callee:=.builtin .append,args:=#[s,x],argTypes:=#[t,t] })
    (e:TypeId) (i:TypeInfo) (ht:P.underlying t=some (.slice e)) (hi:P.info? e=some i) (g n c cap:Nat) (hn:n<=c) (ad:Option Addr)
    (hs:a.eval s = .slice (some ⟨g,0,none⟩) n c) (hx:a.eval x = .slice ad 0 cap)
    (h:wpList P ops Q rest (a.put o.dst (.slice (some ⟨g,0,none⟩) n c)) w):wpList P ops Q (o :: rest) a w:=by
 refine wpList_plain hgd fun K hK=>?_
 have hrun:=jI (P:=P) (W:=w) t o.type e i ht hi g n c cap hn ad;unfold Oper.wp;simp[execOp,ho,resolve,invoke,builtin,hs,hx,hrun,Result.andThen];exact hK _ _ h
theorem cK.apart{W:World}{B o k c n g i:Nat}(h:cK W (.slice (some ⟨B,o,none⟩) k c) n)(hB:g≠B)(u:Value):cK (W.setCell ⟨g,i,none⟩ u) (.slice (some ⟨B,o,none⟩) k c) n:=by
 obtain⟨l,⟨ad,cap,b,off,hv,h1,h2,h3,h4⟩,hc,hm⟩:=h;refine⟨l,⟨ad,cap,b,off,hv,h1,h2,fun h0=>⟨(h3 h0).1,by simp;exact(h3 h0).2⟩,fun j hj=>?_⟩,hc,hm⟩;have hb:=(h3 ae).1;cases hv;cases hb;rw[World.cell?_setCell_other _ _ _ _ (by intro e;cases e;exact hB rfl)];exact h4 j hj
theorem cK.xC{w W:World}{v:Value}{n g i:Nat}(h:cK w v n)(e:Ext w W)(hg:w.heap.size<=g)(u:Value):cK (W.setCell ⟨g,i,none⟩ u) v n:=h.ext (e.setCell hg u)
theorem je.ext{w wr wr':World}{n:Nat}{xs:List Nat}(h:je w wr n xs)(e:Ext wr wr'):je w wr' n xs:=⟨h.1,qQ h.2.1 e,h.2.2.trans e⟩
structure zN(w W:World)(v:Value)(x:Nat)(R:List Nat):Prop where
 out:∃ g c,v = .slice (some ⟨g,0,none⟩) (R.length+1) c/\w.heap.size<g/\Holds .i64 W v (x :: R)
theorem wy(w W:World)(x:Nat)(h:w.heap.size<W.heap.size):zN w (W.alloc (.cells #[.int .i64 (x:Int)] 3)) (.slice (some ⟨W.heap.size,0,none⟩) 1 1) x [] :=
 ⟨_,_,rfl,h,Holds.one W .i64 x _⟩
theorem tk{w W W1:World}{v:Value}{x n:Nat}{R:List Nat}(hn:R.length=n)(h:w.heap.size<W.heap.size)(hown:W1.ownsRow W.heap.size 3 1 v (1+n) (#[Value.int .i64 (x:Int)].toList ++ R.map fun(x:Nat)=>Value.int .i64 x)):zN w W1 v x R:=by
 have h1:W1.ownsRow W.heap.size 3 1 v (1+n) ((x :: R).map fun(x:Nat)=>Value.int .i64 x):=by simpa using hown
 have hh:=Holds.bX h1;rcases h1.2 with⟨_,h0⟩|⟨g,cap,cur,rfl,hg,_⟩
 ·omega
 ·exact⟨g,cap,by rw[hn,Nat.add_comm],ae,hh⟩
theorem jO{l h m b t:Nat}(hm:m=(l+h+1) / 2)(hlt:l<h):(t<m*b->m-1<h/\t<(m-1+1)*b/\l<=m-1)/\(¬ t<m*b->m*b<=t/\m<=h/\l<m):=by
 refine⟨fun h1=>⟨ae,by rw[show m-1+1=m by omega];exact h1,ae⟩,fun h1=>⟨ae,ae,ae⟩⟩
theorem tM{l b t:Nat}(hl:l*b<=t)(hh:t<(l+1)*b):t / b=l/\(t:Int)+-(l:Int)*(b:Int)=((t % b:Nat):Int):=by
 have hb:0<b:=by
  rcases Nat.eq_zero_or_pos b with h|h
  ·subst h;omega
  ·exact h
 have e:t / b=l:=by
  apply Nat.le_antisymm
  ·rw[← Nat.lt_succ_iff];exact(Nat.div_lt_iff_lt_mul hb).2 hh
  ·exact(Nat.le_div_iff_mul_le hb).2 hl
 refine⟨e,?_⟩;have h1:=Nat.div_add_mod t b;rw[e] at h1;have h2:(t:Int)=(b:Int)*(l:Int)+((t % b:Nat):Int):=by rw[← Int.natCast_mul];omega
 rw[Int.neg_mul,Int.mul_comm (l:Int)];omega
def DR:Nat:=4990
structure wC(n:Nat):Prop where
 out:n<10000 ^ DR
theorem wC.r{n:Nat}(h:wC n):gu n:=⟨Nat.lt_of_lt_of_le h.out (Nat.pow_le_pow_right af af)⟩
theorem wC.mul{n x:Nat}(h:wC n)(hx:x<=n*10000):gu x:=⟨by
 have h1:n*10000<10000 ^ (DR+1):=by rw[Nat.pow_succ];exact Nat.mul_lt_mul_of_pos_right h.out af
 exact Nat.lt_of_lt_of_le (Nat.lt_of_le_of_lt hx h1) (Nat.pow_le_pow_right af af)⟩
theorem IB.BW{k:Nat}{a:Int}(h:IB k a)(hk:k<=18000):wC a.natAbs :=
 ⟨Nat.lt_of_lt_of_le h.out (by rw[show(10000:Nat)=10 ^ 4 by decide,← Nat.pow_mul];exact Nat.pow_le_pow_right af (Nat.le_trans hk af))⟩
def wG(w:World)(q r:Nat)(e:Ending)(w':World):Prop:=∃ vq vr,e = .returned (.tuple #[vq,vr])/\Ext w w'/\cK w' vq q/\cK w' vr r
set_option maxHeartbeats 8000000 in
theorem dR (a b:Nat) (va vb:Value) (w:World) (ha:cK w va a) (hb:cK w vb b) (hb0:0<b) (fa:gu a) (fb:wC b) :
    Calls prog 220 #[va,vb] w (wG w (a / b) (a % b)):=by
 obtain⟨i0,hi,hz0,hz1,hz2⟩:=info_parts lz;obtain⟨L,hL,cL,rfl⟩:=ha;have hL2:=fa.len cL rfl;obtain⟨bd,bn,bc,rfl⟩:=hb.slice;obtain⟨n,hn⟩:∃ n,n=L.length:=⟨_,rfl⟩
 obtain⟨adL,capL,kL,oL,rfl,h1L,hcL,hbL,hCL⟩:=hL;rw[← hn] at hL2 h1L hbL hCL ⊢;have HN:=aj hn;have H1:=aj hbL;have H2:=aj hCL;have BL:=aj cL.lt;have HB:=aj hb;have HB0:=aj hb0;have HF:=aj fb;clear hn hbL hCL cL hb hb0 fa fb;go_enter func220,ntmps220;go_wp2_with (at_make;refine wpList_make_full _ rfl _ _ 85 rfl w.heap.size 3 i0 (.int .i64 0) 1 underlying85 hi hz0 hz1 _ _ _ _ n rfl rfl ae ae (by rw[hz2];omega) (by unfold maxLen;omega) (Nat.le_refl _) ?_;intro w0 hown0 hgrow0);rw[sK] at hown0;go_loopw [7,8] (fun rest i wr=>∃ (j r:Nat) (qs:List Nat),j<=n/\i = .int .i64 ((j:Int)-1)/\je w wr n qs/\cK wr rest r/\Hid (dH 10000 b L qs j r))
  (fun _ i _=>(intOf i+1).toNat)
 case atStart =>
  exact⟨n,0,List.replicate n 0,Nat.le_refl _,rfl,⟨by simp,hown0,(Below.refl _ _).grown hgrow0 (Nat.le_refl _) (fun k h=>by cases h)⟩,cK.zero _,aj (by rw[HN.o];exact dH.start af HB0.o)⟩
 case round =>
  obtain⟨j,r,qs,hj,rfl,hown,hrest,hinv⟩:=hrel;obtain⟨ra,rl,rc,rfl⟩:=hrest.slice;have hsz:w.heap.size<wr.heap.size:=by
   rcases hown.2.1.2 with⟨h',_⟩|⟨g',cap',cur,h',_,hh,_⟩
   ·simp at h'
   ·simp only[Value.slice.injEq,Option.some.injEq,Addr.mk.injEq,and_true,true_and] at h';have:=(Array.getElem?_eq_some_iff.1 hh).1;omega
  have HOWN:=aj hown;have HR:=aj hrest;by_cases hj0:0<j
  ·obtain⟨i,rfl⟩:∃ i,j=i+1:=⟨j-1,ae⟩
   have ei:((i+1:Nat):Int)-1=(i:Int):=ae;rw[ei];have hin:i<n:=ae;obtain⟨x,hx⟩:∃ x,x=L[i]?.getD 0:=⟨_,rfl⟩
   have hxlt:x<10000:=by rw[hx];exact aK af BL.out i
   have hcell1:wr.cell? ⟨kL,oL+i,none⟩=some (.int .i64 (x:Int)):=by
    rw[hx];exact(hown.2.2.cell (p:=⟨kL,oL+i,none⟩) (H1.o ae).2).trans (H2.o i hin)
   have hix1:=aQ 85 3 underlying85 k5 (cap:=capL) (fun h=>(H1.o h).1) i hin;have hst:=hinv.out.step (by rw[← HN.o];exact hin) BL.out HB0.o;rw[← hx] at hst;have hrem:=hinv.out.rem;obtain⟨t,ht⟩:∃ t,t=r*10000+x:=⟨_,rfl⟩
   rw[← ht] at hst;have htb:t<b*10000:=by rw[ht];have:=Nat.mul_le_mul_right 10000 (show r+1<=b from hrem);omega
   have HST:=aj hst;have HT:=aj ht;have HTB:=aj htb;clear ei hst hrem ht htb hx hown;have HRF:Hid (gu t):=aj (HF.o.mul (Nat.le_of_lt HTB.o));obtain⟨R,hRH,hRC,hRV⟩:=hrest;have hRl:rl=R.length:=by obtain⟨_,_,_,_,hv,_⟩:=hRH;simp only[Value.slice.injEq] at hv;exact hv.2.1
   have hR5:R.length<=5000:=by
    have fr:gu r:=HRF.o.mono (by rw[HT.o];omega);exact fr.len hRC hRV
   have HRC:=aj hRC;have HRV:=aj hRV;have HRH:=aj hRH;clear hRH hRC hRV;by_cases hr0:rl=0
   ·subst hr0;have hRn:R=[]:=List.length_eq_zero_iff.1 hRl.symm;subst hRn;clear hRl hR5;have HA:=aj (wy w wr x hsz);go_upto_region 7 with(first
     | (at_builtin;refine ij rfl _ _ 85 rfl 3 i0 underlying85 hi wr.heap.size 1 1 rc (Nat.le_refl _) ra rfl rfl ?_;obtain⟨W1,hW1⟩:∃ W1,wr.alloc (.cells #[.int .i64 (x:Int)] 3)=W1:=⟨_,rfl⟩;rw[hW1];have ex:Ext wr W1:=(by rw[← hW1];exact(Ext.refl _).alloc _);have HA1:Hid (zN w W1 (.slice (some ⟨wr.heap.size,0,none⟩) 1 1) x []):=(aj (by rw[← hW1];exact HA.o));clear hW1)
     | (go_at_call 222;refine(oI _ _ _ HA1.o.out.choose_spec.choose_spec.2.2 (by intro z hz;simp at hz;omega)).mono ?_;rintro e w' ⟨v2,rfl,rfl,hm2,ad2,n2,k2,cap2,e1,rfl⟩))
    have hg:w.heap.size<wr.heap.size:=hsz;have hmt:cK W1 (.slice (some ⟨wr.heap.size,0,none⟩) k2 1) t:=by
     have:mv 10000 [x]=t:=by
      rw[HT.o];show x+10000*mv 10000 []=_;rw[HRV.o];omega
     rw[← this];exact hm2
    have HMT:=aj hmt;have HO2:=aj (HOWN.o.ext ex);have HBW:=aj ((HB.o.ext HOWN.o.2.2).ext ex);clear hm2 hmt ex;go_wp2;go_loopw [9,10] (fun lo hh W=>∃ (l h:Nat),lo = .int .i64 l/\hh = .int .i64 h/\l<=h/\h<=9999/\Hid (l*b<=t/\t<(h+1)*b)/\Ext W1 W) (fun lo hh _=>(intOf hh).toNat-(intOf lo).toNat)
    case atStart=>exact⟨0,9999,rfl,rfl,ae,ae,aj ⟨ae,by have:=HTB.o;omega⟩,Ext.refl _⟩
    case round =>
     obtain⟨l,h,rfl,rfl,hlh,hh9,hbs,hxw⟩:=hrel;by_cases hlt:l<h
     ·obtain⟨m,hm⟩:∃ m,m=(l+h+1) / 2:=⟨_,rfl⟩
      have hmi:((l:Int)+(h:Int)+1) / 2=(m:Int):=ae;have hm9:m<=9999:=ae;have hm1:1<=m:=ae;have PB:=aj (jO (b:=b) (t:=t) hm hlt);have hmb:m*b<=b*10000:=by rw[Nat.mul_comm];exact Nat.mul_le_mul_left _ ae
      have hjn:=dA 0 b (m:Int) (.slice none 0 0) (.slice bd bn bc) wr (cK.zero _) (HBW.o.ext hxw) ae ae (by rw[← Int.natCast_mul];omega) ⟨Nat.pow_pos af⟩ HF.o.r (by rw[show((0:Nat):Int)+(m:Int)*(b:Int)=((m*b:Nat):Int) by rw[← Int.natCast_mul];omega,Int.toNat_natCast];exact HF.o.mul hmb);rw[show((0:Nat):Int)+(m:Int)*(b:Int)=((m*b:Nat):Int) by rw[← Int.natCast_mul];omega,Int.toNat_natCast] at hjn;have HJ:=aj hjn;clear hjn hmb hm;by_cases htm:t<m*b
      ·have hdt:decide (t<m*b)=true:=decide_eq_true htm;obtain⟨k1,k2',k3⟩:=PB.out.1 htm;have K2:=aj k2';have HDT:=aj hdt;clear hdt htm k2';go_wp2_with (first
        | (go_at_call 221;refine HJ.o.mono ?_;rintro e w5 ⟨vj,rfl,e5,mj⟩;obtain⟨ja,jn,jc,rfl⟩:=mj.slice)
        | (go_at_call 260;refine(pG t (m*b) _ _ _ ((HMT.o.ext hxw).ext e5) mj).mono ?_;rw[HDT.o];rintro e w6 ⟨rfl,e6⟩))
       go_roundw
       case rel=>exact⟨l,m-1,rfl,by go_num,ae,ae,aj ⟨hbs.out.1,K2.out⟩,(hxw.trans e5).trans e6⟩
       case measure=>simp[intOf];omega
      ·have hdt:decide (t<m*b)=false:=decide_eq_false htm;obtain⟨k1,k2',k3⟩:=PB.out.2 htm;have K1:=aj k1;have HDT:=aj hdt;clear hdt htm k1;go_wp2_with (first
        | (go_at_call 221;refine HJ.o.mono ?_;rintro e w5 ⟨vj,rfl,e5,mj⟩;obtain⟨ja,jn,jc,rfl⟩:=mj.slice)
        | (go_at_call 260;refine(pG t (m*b) _ _ _ ((HMT.o.ext hxw).ext e5) mj).mono ?_;rw[HDT.o];rintro e w6 ⟨rfl,e6⟩))
       go_roundw
       case rel=>exact⟨m,h,rfl,rfl,ae,ae,aj ⟨K1.out,hbs.out.2⟩,(hxw.trans e5).trans e6⟩
       case measure=>simp[intOf];omega
     ·obtain rfl:l=h:=ae;obtain⟨hq,hrr⟩:=tM hbs.out.1 hbs.out.2;have hO3:=HO2.o.ext hxw;have hcello:=hO3.cell i hin;have hfree:=hO3.free i;have HSET:=aj (hO3.set i l);have HMS:=aj ((HMT.o.ext hxw).apart (g:=w.heap.size) (i:=i) (Nat.ne_of_lt hg) (.int .i64 (l:Int)));have HBS:=aj (HB.o.xC (W:=wr) (g:=w.heap.size) (i:=i) hO3.2.2 (Nat.le_refl _) (.int .i64 (l:Int)));have hjn:=dA t b (-(l:Int)) _ _ _ HMS.o HBS.o ae ae (by rw[hrr];omega) HRF.o HF.o.r (by rw[hrr,Int.toNat_natCast];exact HRF.o.mono (Nat.mod_le _ _));rw[hrr,Int.toNat_natCast] at hjn;have HJ:=aj hjn;have HQ:=aj hq;clear hjn hq hrr hO3;go_wp2_with (go_at_call 221;refine HJ.o.mono ?_;rintro e w5 ⟨vj,rfl,e5,mj⟩;obtain⟨ja,jn,jc,rfl⟩:=mj.slice);go_roundw
      case rel=>exact⟨i,t % b,qs.set i l,ae,by go_num,HSET.o.ext e5,mj,aj (by have:=HST.o;rw[HQ.o] at this;exact this)⟩
      case measure=>simp[intOf]
   ·have hrl0:0<rl:=ae;obtain⟨bR,oR,rfl,hnR,hnews⟩:=mT (HRH.o.ext ((Ext.refl wr).alloc (.cells #[.int .i64 (x:Int)] 3))) hrl0;have hown1:=World.ownsRow_lit (base:=wr.heap.size) (e:=3) (size:=1) wr #[.int .i64 (x:Int)] 1 (Nat.le_refl _) (by unfold maxLen;omega) rfl;have HW:=aj hnews;have HO1:=aj hown1;have HRL:=aj hRl;have hrl5:rl<=5000:=ae;clear hnews hown1 hRl hnR hr0;go_upto_region 7 with(first
     | (at_builtin;refine wpList_append_own (wr.alloc (.cells #[.int .i64 (x:Int)] 3)) rfl _ _ 85 rfl wr.heap.size 3 i0 (.int .i64 0) 1 8 underlying85 hi hz0 hz1 hz2 rfl af _ 1 _ rfl HO1.o ⟨bR,oR,none⟩ rl rc (R.map fun(x:Nat)=>Value.int .i64 x) rfl (by rw[List.length_map,← HRL.o];simp) HW.o (by intro u hu;obtain⟨x,_,rfl⟩:=List.mem_map.1 hu;rfl) (by unfold maxLen;omega) ae (by simp) ?_;intro v1 W1 hown2 hgrow2 hv2;have ex:Ext wr W1:=(((Ext.refl wr).alloc _).grown hgrow2 (fun g hg=>df HO1.o g hg));have HA1:=aj (tk HRL.o.symm hsz hown2);clear hown2 hgrow2 hv2)
     | (go_at_call 222;refine(oI _ _ _ HA1.o.out.choose_spec.choose_spec.2.2 (by intro z hz;rcases List.mem_cons.1 hz with rfl|hz;(exact hxlt);exact HRC.o.lt z hz)).mono ?_;rintro e w' ⟨v2,rfl,rfl,hm2,ad2,n2,k2,cap2,e1,rfl⟩))
    obtain⟨g,c,e2,hg,_⟩:=HA1.o.out;rw[e1] at e2;simp only[Value.slice.injEq] at e2;obtain⟨rfl,rfl,rfl⟩:=e2;clear e1;have hmt:cK W1 (.slice (some ⟨g,0,none⟩) k2 cap2) t:=by
     have:mv 10000 (x :: R)=t:=by
      rw[HT.o];show x+10000*mv 10000 R=_;rw[HRV.o];omega
     rw[← this];exact hm2
    have HMT:=aj hmt;have HO2:=aj (HOWN.o.ext ex);have HBW:=aj ((HB.o.ext HOWN.o.2.2).ext ex);clear hm2 hmt ex;go_wp2;go_loopw [9,10] (fun lo hh W=>∃ (l h:Nat),lo = .int .i64 l/\hh = .int .i64 h/\l<=h/\h<=9999/\Hid (l*b<=t/\t<(h+1)*b)/\Ext W1 W) (fun lo hh _=>(intOf hh).toNat-(intOf lo).toNat)
    case atStart=>exact⟨0,9999,rfl,rfl,ae,ae,aj ⟨ae,by have:=HTB.o;omega⟩,Ext.refl _⟩
    case round =>
     obtain⟨l,h,rfl,rfl,hlh,hh9,hbs,hxw⟩:=hrel;by_cases hlt:l<h
     ·obtain⟨m,hm⟩:∃ m,m=(l+h+1) / 2:=⟨_,rfl⟩
      have hmi:((l:Int)+(h:Int)+1) / 2=(m:Int):=ae;have hm9:m<=9999:=ae;have hm1:1<=m:=ae;have PB:=aj (jO (b:=b) (t:=t) hm hlt);have hmb:m*b<=b*10000:=by rw[Nat.mul_comm];exact Nat.mul_le_mul_left _ ae
      have hjn:=dA 0 b (m:Int) (.slice none 0 0) (.slice bd bn bc) wr (cK.zero _) (HBW.o.ext hxw) ae ae (by rw[← Int.natCast_mul];omega) ⟨Nat.pow_pos af⟩ HF.o.r (by rw[show((0:Nat):Int)+(m:Int)*(b:Int)=((m*b:Nat):Int) by rw[← Int.natCast_mul];omega,Int.toNat_natCast];exact HF.o.mul hmb);rw[show((0:Nat):Int)+(m:Int)*(b:Int)=((m*b:Nat):Int) by rw[← Int.natCast_mul];omega,Int.toNat_natCast] at hjn;have HJ:=aj hjn;clear hjn hmb hm;by_cases htm:t<m*b
      ·have hdt:decide (t<m*b)=true:=decide_eq_true htm;obtain⟨k1,k2',k3⟩:=PB.out.1 htm;have K2:=aj k2';have HDT:=aj hdt;clear hdt htm k2';go_wp2_with (first
        | (go_at_call 221;refine HJ.o.mono ?_;rintro e w5 ⟨vj,rfl,e5,mj⟩;obtain⟨ja,jn,jc,rfl⟩:=mj.slice)
        | (go_at_call 260;refine(pG t (m*b) _ _ _ ((HMT.o.ext hxw).ext e5) mj).mono ?_;rw[HDT.o];rintro e w6 ⟨rfl,e6⟩))
       go_roundw
       case rel=>exact⟨l,m-1,rfl,by go_num,ae,ae,aj ⟨hbs.out.1,K2.out⟩,(hxw.trans e5).trans e6⟩
       case measure=>simp[intOf];omega
      ·have hdt:decide (t<m*b)=false:=decide_eq_false htm;obtain⟨k1,k2',k3⟩:=PB.out.2 htm;have K1:=aj k1;have HDT:=aj hdt;clear hdt htm k1;go_wp2_with (first
        | (go_at_call 221;refine HJ.o.mono ?_;rintro e w5 ⟨vj,rfl,e5,mj⟩;obtain⟨ja,jn,jc,rfl⟩:=mj.slice)
        | (go_at_call 260;refine(pG t (m*b) _ _ _ ((HMT.o.ext hxw).ext e5) mj).mono ?_;rw[HDT.o];rintro e w6 ⟨rfl,e6⟩))
       go_roundw
       case rel=>exact⟨m,h,rfl,rfl,ae,ae,aj ⟨K1.out,hbs.out.2⟩,(hxw.trans e5).trans e6⟩
       case measure=>simp[intOf];omega
     ·obtain rfl:l=h:=ae;obtain⟨hq,hrr⟩:=tM hbs.out.1 hbs.out.2;have hO3:=HO2.o.ext hxw;have hcello:=hO3.cell i hin;have hfree:=hO3.free i;have HSET:=aj (hO3.set i l);have HMS:=aj ((HMT.o.ext hxw).apart (g:=w.heap.size) (i:=i) (Nat.ne_of_lt hg) (.int .i64 (l:Int)));have HBS:=aj (HB.o.xC (W:=wr) (g:=w.heap.size) (i:=i) hO3.2.2 (Nat.le_refl _) (.int .i64 (l:Int)));have hjn:=dA t b (-(l:Int)) _ _ _ HMS.o HBS.o ae ae (by rw[hrr];omega) HRF.o HF.o.r (by rw[hrr,Int.toNat_natCast];exact HRF.o.mono (Nat.mod_le _ _));rw[hrr,Int.toNat_natCast] at hjn;have HJ:=aj hjn;have HQ:=aj hq;clear hjn hq hrr hO3;go_wp2_with (go_at_call 221;refine HJ.o.mono ?_;rintro e w5 ⟨vj,rfl,e5,mj⟩;obtain⟨ja,jn,jc,rfl⟩:=mj.slice);go_roundw
      case rel=>exact⟨i,t % b,qs.set i l,ae,by go_num,HSET.o.ext e5,mj,aj (by have:=HST.o;rw[HQ.o] at this;exact this)⟩
      case measure=>simp[intOf]
  ·obtain rfl:j=0:=ae;obtain⟨eq,er⟩:=hinv.out.done;have HH:=aj (Holds.bX HOWN.o.2.1);have HEQ:=aj eq;have HER:=aj er;clear eq er hown hrest;go_wp2_with (go_at_call 222;refine(oI qs _ _ HH.o hinv.out.lt).mono ?_;rintro e w' ⟨v',rfl,rfl,hm,ad2,n2,k2,cap2,_,rfl⟩);go_ret2;exact⟨_,_,rfl,HOWN.o.2.2,by rw[HEQ.o] at hm;exact hm,by rw[← HER.o];exact HR.o⟩
theorem IB.iX{k:Nat}{a:Int}(h:IB k a)(hk:k<=9000):(Lib.decDigits a.natAbs).length<=9001:=by
 have:=bB (u:=a.natAbs) (k:=k+1) ae (Nat.lt_of_lt_of_le h.out (Nat.pow_le_pow_right af ae));omega
theorem dJ(a b:Nat):((a:Int)+1*(b:Int)).toNat=a+b:=ae
theorem dm{a b:Nat}(h:b<=a):((a:Int)+-1*(b:Int)).toNat=a-b:=ae
theorem mY{a b q r:Int}(hb:b≠0)(e:a=b*q+r)(h0:0<=r)(h1:r<b.natAbs):a / b=q/\a % b=r:=by
 rcases Int.lt_or_lt_of_ne hb with hb'|hb'
 ·exact(Int.ediv_emod_unique' (a:=a) (b:=b) (r:=r) (q:=q) hb').2 ⟨by rw[e,Int.add_comm],h0,ae⟩
 ·exact(Int.ediv_emod_unique (a:=a) (b:=b) (r:=r) (q:=q) hb').2 ⟨by rw[e,Int.add_comm],h0,ae⟩
theorem rX(a b:Int)(hb:b≠0):(0<=a.tmod b/\a.tdiv b=a / b/\a.tmod b=a % b)∨(a.tmod b<0/\a.tmod b+max b (-b)=a % b/\(a-(a.tmod b+max b (-b))).tdiv b=a / b):=by
 have h:=Int.mul_tdiv_add_tmod a b;have hl:(a.tmod b).natAbs<b.natAbs:=by rw[Int.natAbs_tmod];exact Nat.mod_lt _ ae
 rcases Int.lt_or_le (a.tmod b) 0 with hn|hn
 ·refine Or.inr ⟨hn,?_⟩;rcases Int.lt_or_lt_of_ne hb with hb'|hb'
  ·have hm:max b (-b)=-b:=ae;rw[hm];obtain⟨e1,e2⟩:=mY (a:=a) (b:=b) (q:=a.tdiv b+1) (r:=a.tmod b+-b) hb (by rw[Int.mul_add,Int.mul_one];omega) ae ae;refine⟨e2.symm,?_⟩;rw[e1,show a-(a.tmod b+-b)=b*(a.tdiv b+1) by rw[Int.mul_add,Int.mul_one];omega,Int.mul_tdiv_cancel_left _ hb]
  ·have hm:max b (-b)=b:=ae;rw[hm];obtain⟨e1,e2⟩:=mY (a:=a) (b:=b) (q:=a.tdiv b-1) (r:=a.tmod b+b) hb (by rw[Int.mul_sub,Int.mul_one];omega) ae ae;refine⟨e2.symm,?_⟩;rw[e1,show a-(a.tmod b+b)=b*(a.tdiv b-1) by rw[Int.mul_sub,Int.mul_one];omega,Int.mul_tdiv_cancel_left _ hb]
 ·obtain⟨e1,e2⟩:=mY (a:=a) (b:=b) (q:=a.tdiv b) (r:=a.tmod b) hb ae hn ae;exact Or.inl ⟨hn,e1.symm,e2.symm⟩
theorem zR{n:Int}(h:n=0):((zs n).toList != [48])=false:=by rw[dI,oU.2 h];rfl
theorem wR{n:Int}(h:n≠0):((zs n).toList != [48])=true:=by rw[dI];simpa using fun e=>h (oU.1 e)
theorem fj{a b c d:Int}(h:a=b)(k:c=d):Ending.returned (.tuple #[.string (zs a),.string (zs c)]) = .returned (.tuple #[.string (zs b),.string (zs d)]):=by rw[h,k]
set_option maxHeartbeats 1000000 in
theorem nK(a b:Int)(w:World)(g:Gd w)(ha:(Lib.decDigits a.natAbs).length<=17)(hb:(Lib.decDigits b.natAbs).length<=17)(hb0:b≠0):Calls prog 148 #[.string (zs a),.string (zs b)] w (aR w (.tuple #[.string (zs (a / b)),.string (zs (a % b))])):=by
 have h1:a.natAbs<100000000000000000:=bN ha;have h2:b.natAbs<100000000000000000:=bN hb;have HA:=aj ha;have HB:=aj hb;have hcs:=rX a b hb0;have q1:(a.tdiv b).natAbs<=100000000000000000:=by rw[Int.natAbs_tdiv];exact Nat.le_trans (Nat.div_le_self _ _) (Nat.le_of_lt h1)
 have q2:(a / b).natAbs<=100000000000000000:=Nat.le_trans (Int.natAbs_ediv_le_natAbs _ _) (Nat.le_of_lt h1);have r1:(a.tmod b).natAbs<100000000000000000:=by
  have:(a.tmod b).natAbs<b.natAbs:=by rw[Int.natAbs_tmod];exact Nat.mod_lt _ ae
  omega
 have r2:=Int.emod_nonneg a hb0;have r3:a % b<100000000000000000:=by have:=Int.emod_lt a hb0;omega
 have a1:-100000000000000000<=a:=ae;have a2:a<=100000000000000000:=ae;have b1:-100000000000000000<=b:=ae;have b2:b<=100000000000000000:=ae;have hne:¬ b=0:=hb0;obtain⟨Q,hQ⟩:∃ Q,Q=a / b:=⟨_,rfl⟩
 obtain⟨R,hR⟩:∃ R,R=a % b:=⟨_,rfl⟩
 rw[← hQ] at q2 hcs ⊢;rw[← hR] at r2 r3 hcs ⊢;have Q1:-100000000000000000<=Q:=ae;have Q2:Q<=100000000000000000:=ae;clear hQ hR h1 h2 ha hb q2 hb0;rcases hcs with⟨c1,c2,c3⟩|⟨c1,c2,c3⟩
 ·have w1:IntKind.i64.wrap (a.tdiv b)=Q:=by rw[c2];exact IntWalk.i64_in _ ae
  clear q1 r1;rw[c3] at c1;go_enter func148,ntmps148;go_upto_region 4 with(first
   | (go_at_call 219;((with_reducible refine(cU a w HA.o).mono ?_);rintro e w1 ⟨rfl,e1⟩))
   | (go_at_call 219;refine cto (cU b _ HB.o) fun w2 e2=>?_))
  go_region
  all_goals
   go_wp2_with (first
    | (go_at_call 119;((with_reducible refine(mV Q ae ae w2.drew (g.ext (e1.trans e2).drew)).mono ?_);rintro e w3 ⟨rfl,e3⟩))
    | (go_at_call 119;refine cto (mV R ae ae _ (g.ext ((e1.trans e2).drew.trans e3))) fun w4 e4=>?_))
   go_ret2;exact⟨rfl,((e1.trans e2).drew.trans e3).trans e4⟩
 ·obtain⟨T,hT⟩:∃ T,a.tmod b=T:=⟨_,rfl⟩
  obtain⟨D,hD⟩:∃ D,a.tdiv b=D:=⟨_,rfl⟩
  rw[hD] at q1;rw[hT] at c1 c2 c3 r1;have w1:IntKind.i64.wrap D=D:=IntWalk.i64_in _ ae;have w2:IntKind.i64.wrap (a.tdiv b)=D:=by rw[hD];exact w1
  rw[c2] at c3;go_enter func148,ntmps148;go_upto_region 4 with(first
   | (go_at_call 219;((with_reducible refine(cU a w HA.o).mono ?_);rintro e w1 ⟨rfl,e1⟩))
   | (go_at_call 219;refine cto (cU b _ HB.o) fun w2 e2=>?_))
  go_region
  all_goals
   go_wp2_with (first
    | (go_at_call 119;((with_reducible refine(mV Q ae ae w2.drew (g.ext (e1.trans e2).drew)).mono ?_);rintro e w3 ⟨rfl,e3⟩))
    | (go_at_call 119;refine cto (mV R ae ae _ (g.ext ((e1.trans e2).drew.trans e3))) fun w4 e4=>?_))
   go_ret2;exact⟨rfl,((e1.trans e2).drew.trans e3).trans e4⟩
theorem B5(W:World):cK (W.alloc (.cells #[.int .i64 1] 3)) (.slice (some ⟨W.heap.size,0,none⟩) 1 1) 1 :=
 ⟨[1],Holds.one W .i64 1 _,⟨by intro x hx;simp at hx;omega,by simp⟩,cS _ _⟩
set_option maxHeartbeats 4000000 in
theorem ru(a b:Int){k m:Nat}(w:World)(g:Gd w)(ha:IB k a)(hb:IB m b)(hk:k<=9000)(hm:m<=9000)(hb0:b≠0)(h:¬ ((Lib.decDigits a.natAbs).length<=17/\(Lib.decDigits b.natAbs).length<=17))(hsa:false=decide (a<0))(HS:Hid (eI (!(decide (a<0) == decide (b<0))) (a.natAbs / b.natAbs)=a / b/\eI false (a.natAbs % b.natAbs)=a % b)):Calls prog 148 #[.string (zs a),.string (zs b)] w (aR w (.tuple #[.string (zs (a / b)),.string (zs (a % b))])):=by
 have L1:Hid ((Lib.decDigits a.natAbs).length<=20000):=aj (Nat.le_trans (ha.iX hk) af);have L2:Hid ((Lib.decDigits b.natAbs).length<=20000):=aj (Nat.le_trans (hb.iX hm) af);have FA:=aj (ha.Aj ae);have FB:=aj (hb.BW ae);have HBN:Hid (0<b.natAbs):=aj ae;obtain⟨sb,hsb⟩:∃ sb,sb=decide (b<0):=⟨_,rfl⟩
 rw[← hsa,← hsb] at HS;have HSA:=aj hsa;have HSB:=aj hsb;clear hsa hsb ha hb hb0;by_cases h9:(Lib.decDigits a.natAbs).length<=17
 ·have H9:=aj h9;have H8:Hid (¬ (Lib.decDigits b.natAbs).length<=17):=aj (fun e=>h ⟨h9,e⟩);clear h h9;go_enter func148,ntmps148;go_wp2_with (first
        | (go_at_call 219;((with_reducible refine(cU a w H9.o).mono ?_);rintro e w0 ⟨rfl,e0⟩))
        | (go_at_call 219;refine cto (cJ b _ H8.o) fun w1 e1=>?_;have e01:=e0.trans e1)
        | (go_at_call 149;((with_reducible refine(bu a w1).mono ?_);rw[← HSA.o];rintro e w2 ⟨rfl,e2⟩))
        | (go_at_call 149;refine(bu b _).mono ?_;rw[← HSB.o];rintro e w3 ⟨rfl,e3⟩)
        | (go_at_call 153;((with_reducible refine(cj a.natAbs w3 L1.out).mono ?_);rintro e w4 ⟨va,rfl,e4,ma⟩;obtain⟨aa,an,ac,rfl⟩:=ma.slice))
        | (go_at_call 153;((with_reducible refine(cj b.natAbs w4 L2.out).mono ?_);rintro e w5 ⟨vb,rfl,e5,mb⟩;obtain⟨ba,bn,bc,rfl⟩:=mb.slice;have e15:=(((e01.trans e2).trans e3).trans e4).trans e5))
        | (go_at_call 220;refine(dR a.natAbs b.natAbs _ _ _ (ma.ext e5) mb HBN.o FA.out FB.out).mono ?_;rintro e w6 ⟨vq,vr,rfl,e6,mq,mr⟩;obtain⟨qa,qn,qc,rfl⟩:=mq.slice;obtain⟨ra,rn,rc,rfl⟩:=mr.slice;have ezz:=e15.trans e6)
        | (go_at_call 151;((with_reducible refine(cV _ (a.natAbs / b.natAbs) _ w6 mq (FA.out.mono (Nat.div_le_self _ _)) (g.ext ezz)).mono ?_);rintro e wa ⟨rfl,ea⟩))
        | (go_at_call 151;refine(cV false (a.natAbs % b.natAbs) _ _ (mr.ext ea) (FA.out.mono (Nat.mod_le _ _)) (g.ext (ezz.trans ea))).mono ?_;rintro e wb ⟨rfl,eb⟩))
  go_ret2;exact⟨fj (by have:=HS.o.1;revert this;cases sb <;> exact id) HS.o.2,(ezz.trans ea).trans eb⟩
 ·have H9:=aj h9;clear h h9;by_cases h8:(Lib.decDigits b.natAbs).length<=17
  ·have H8:=aj h8;clear h8;go_enter func148,ntmps148;go_wp2_with (first
         | (go_at_call 219;((with_reducible refine(cJ a w H9.o).mono ?_);rintro e w0 ⟨rfl,e0⟩))
         | (go_at_call 219;refine cto (cU b _ H8.o) fun w1 e1=>?_;have e01:=e0.trans e1)
         | (go_at_call 149;((with_reducible refine(bu a w1).mono ?_);rw[← HSA.o];rintro e w2 ⟨rfl,e2⟩))
         | (go_at_call 149;refine(bu b _).mono ?_;rw[← HSB.o];rintro e w3 ⟨rfl,e3⟩)
         | (go_at_call 153;((with_reducible refine(cj a.natAbs w3 L1.out).mono ?_);rintro e w4 ⟨va,rfl,e4,ma⟩;obtain⟨aa,an,ac,rfl⟩:=ma.slice))
         | (go_at_call 153;((with_reducible refine(cj b.natAbs w4 L2.out).mono ?_);rintro e w5 ⟨vb,rfl,e5,mb⟩;obtain⟨ba,bn,bc,rfl⟩:=mb.slice;have e15:=(((e01.trans e2).trans e3).trans e4).trans e5))
         | (go_at_call 220;refine(dR a.natAbs b.natAbs _ _ _ (ma.ext e5) mb HBN.o FA.out FB.out).mono ?_;rintro e w6 ⟨vq,vr,rfl,e6,mq,mr⟩;obtain⟨qa,qn,qc,rfl⟩:=mq.slice;obtain⟨ra,rn,rc,rfl⟩:=mr.slice;have ezz:=e15.trans e6)
         | (go_at_call 151;((with_reducible refine(cV _ (a.natAbs / b.natAbs) _ w6 mq (FA.out.mono (Nat.div_le_self _ _)) (g.ext ezz)).mono ?_);rintro e wa ⟨rfl,ea⟩))
         | (go_at_call 151;refine(cV false (a.natAbs % b.natAbs) _ _ (mr.ext ea) (FA.out.mono (Nat.mod_le _ _)) (g.ext (ezz.trans ea))).mono ?_;rintro e wb ⟨rfl,eb⟩))
   go_ret2;exact⟨fj (by have:=HS.o.1;revert this;cases sb <;> exact id) HS.o.2,(ezz.trans ea).trans eb⟩
  ·have H8:=aj h8;clear h8;go_enter func148,ntmps148;go_wp2_with (first
         | (go_at_call 219;((with_reducible refine(cJ a w H9.o).mono ?_);rintro e w0 ⟨rfl,e0⟩))
         | (go_at_call 219;refine cto (cJ b _ H8.o) fun w1 e1=>?_;have e01:=e0.trans e1)
         | (go_at_call 149;((with_reducible refine(bu a w1).mono ?_);rw[← HSA.o];rintro e w2 ⟨rfl,e2⟩))
         | (go_at_call 149;refine(bu b _).mono ?_;rw[← HSB.o];rintro e w3 ⟨rfl,e3⟩)
         | (go_at_call 153;((with_reducible refine(cj a.natAbs w3 L1.out).mono ?_);rintro e w4 ⟨va,rfl,e4,ma⟩;obtain⟨aa,an,ac,rfl⟩:=ma.slice))
         | (go_at_call 153;((with_reducible refine(cj b.natAbs w4 L2.out).mono ?_);rintro e w5 ⟨vb,rfl,e5,mb⟩;obtain⟨ba,bn,bc,rfl⟩:=mb.slice;have e15:=(((e01.trans e2).trans e3).trans e4).trans e5))
         | (go_at_call 220;refine(dR a.natAbs b.natAbs _ _ _ (ma.ext e5) mb HBN.o FA.out FB.out).mono ?_;rintro e w6 ⟨vq,vr,rfl,e6,mq,mr⟩;obtain⟨qa,qn,qc,rfl⟩:=mq.slice;obtain⟨ra,rn,rc,rfl⟩:=mr.slice;have ezz:=e15.trans e6)
         | (go_at_call 151;((with_reducible refine(cV _ (a.natAbs / b.natAbs) _ w6 mq (FA.out.mono (Nat.div_le_self _ _)) (g.ext ezz)).mono ?_);rintro e wa ⟨rfl,ea⟩))
         | (go_at_call 151;refine(cV false (a.natAbs % b.natAbs) _ _ (mr.ext ea) (FA.out.mono (Nat.mod_le _ _)) (g.ext (ezz.trans ea))).mono ?_;rintro e wb ⟨rfl,eb⟩))
   go_ret2;exact⟨fj (by have:=HS.o.1;revert this;cases sb <;> exact id) HS.o.2,(ezz.trans ea).trans eb⟩
set_option maxHeartbeats 4000000 in
theorem pR(a b:Int){k m:Nat}(w:World)(g:Gd w)(ha:IB k a)(hb:IB m b)(hk:k<=9000)(hm:m<=9000)(hb0:b≠0)(h:¬ ((Lib.decDigits a.natAbs).length<=17/\(Lib.decDigits b.natAbs).length<=17))(hsa:true=decide (a<0))(HM0:Hid (a.natAbs % b.natAbs=0))(HS:Hid (eI (!(decide (a<0) == decide (b<0))) (a.natAbs / b.natAbs)=a / b/\eI false (a.natAbs % b.natAbs)=a % b)):Calls prog 148 #[.string (zs a),.string (zs b)] w (aR w (.tuple #[.string (zs (a / b)),.string (zs (a % b))])):=by
 have L1:Hid ((Lib.decDigits a.natAbs).length<=20000):=aj (Nat.le_trans (ha.iX hk) af);have L2:Hid ((Lib.decDigits b.natAbs).length<=20000):=aj (Nat.le_trans (hb.iX hm) af);have FA:=aj (ha.Aj ae);have FB:=aj (hb.BW ae);have HBN:Hid (0<b.natAbs):=aj ae;obtain⟨sb,hsb⟩:∃ sb,sb=decide (b<0):=⟨_,rfl⟩
 rw[← hsa,← hsb] at HS;have HSA:=aj hsa;have HSB:=aj hsb;clear hsa hsb ha hb hb0;by_cases h9:(Lib.decDigits a.natAbs).length<=17
 ·have H9:=aj h9;have H8:Hid (¬ (Lib.decDigits b.natAbs).length<=17):=aj (fun e=>h ⟨h9,e⟩);clear h h9;go_enter func148,ntmps148;go_wp2_with (first
        | (go_at_call 219;((with_reducible refine(cU a w H9.o).mono ?_);rintro e w0 ⟨rfl,e0⟩))
        | (go_at_call 219;refine cto (cJ b _ H8.o) fun w1 e1=>?_;have e01:=e0.trans e1)
        | (go_at_call 149;((with_reducible refine(bu a w1).mono ?_);rw[← HSA.o];rintro e w2 ⟨rfl,e2⟩))
        | (go_at_call 149;refine(bu b _).mono ?_;rw[← HSB.o];rintro e w3 ⟨rfl,e3⟩)
        | (go_at_call 153;((with_reducible refine(cj a.natAbs w3 L1.out).mono ?_);rintro e w4 ⟨va,rfl,e4,ma⟩;obtain⟨aa,an,ac,rfl⟩:=ma.slice))
        | (go_at_call 153;((with_reducible refine(cj b.natAbs w4 L2.out).mono ?_);rintro e w5 ⟨vb,rfl,e5,mb⟩;obtain⟨ba,bn,bc,rfl⟩:=mb.slice;have e15:=(((e01.trans e2).trans e3).trans e4).trans e5))
        | (go_at_call 220;refine(dR a.natAbs b.natAbs _ _ _ (ma.ext e5) mb HBN.o FA.out FB.out).mono ?_;rintro e w6 ⟨vq,vr,rfl,e6,mq,mr⟩;obtain⟨qa,qn,qc,rfl⟩:=mq.slice;obtain⟨ra,rn,rc,rfl⟩:=mr.slice;have ezz:=e15.trans e6;have hrn:rn=0:=mr.cF.2 HM0.o;subst hrn)
        | (go_at_call 151;((with_reducible refine(cV _ (a.natAbs / b.natAbs) _ w6 mq (FA.out.mono (Nat.div_le_self _ _)) (g.ext ezz)).mono ?_);rintro e wa ⟨rfl,ea⟩))
        | (go_at_call 151;refine(cV false (a.natAbs % b.natAbs) _ _ (mr.ext ea) (FA.out.mono (Nat.mod_le _ _)) (g.ext (ezz.trans ea))).mono ?_;rintro e wb ⟨rfl,eb⟩))
  go_ret2;exact⟨fj (by have:=HS.o.1;revert this;cases sb <;> exact id) HS.o.2,(ezz.trans ea).trans eb⟩
 ·have H9:=aj h9;clear h h9;by_cases h8:(Lib.decDigits b.natAbs).length<=17
  ·have H8:=aj h8;clear h8;go_enter func148,ntmps148;go_wp2_with (first
         | (go_at_call 219;((with_reducible refine(cJ a w H9.o).mono ?_);rintro e w0 ⟨rfl,e0⟩))
         | (go_at_call 219;refine cto (cU b _ H8.o) fun w1 e1=>?_;have e01:=e0.trans e1)
         | (go_at_call 149;((with_reducible refine(bu a w1).mono ?_);rw[← HSA.o];rintro e w2 ⟨rfl,e2⟩))
         | (go_at_call 149;refine(bu b _).mono ?_;rw[← HSB.o];rintro e w3 ⟨rfl,e3⟩)
         | (go_at_call 153;((with_reducible refine(cj a.natAbs w3 L1.out).mono ?_);rintro e w4 ⟨va,rfl,e4,ma⟩;obtain⟨aa,an,ac,rfl⟩:=ma.slice))
         | (go_at_call 153;((with_reducible refine(cj b.natAbs w4 L2.out).mono ?_);rintro e w5 ⟨vb,rfl,e5,mb⟩;obtain⟨ba,bn,bc,rfl⟩:=mb.slice;have e15:=(((e01.trans e2).trans e3).trans e4).trans e5))
         | (go_at_call 220;refine(dR a.natAbs b.natAbs _ _ _ (ma.ext e5) mb HBN.o FA.out FB.out).mono ?_;rintro e w6 ⟨vq,vr,rfl,e6,mq,mr⟩;obtain⟨qa,qn,qc,rfl⟩:=mq.slice;obtain⟨ra,rn,rc,rfl⟩:=mr.slice;have ezz:=e15.trans e6;have hrn:rn=0:=mr.cF.2 HM0.o;subst hrn)
         | (go_at_call 151;((with_reducible refine(cV _ (a.natAbs / b.natAbs) _ w6 mq (FA.out.mono (Nat.div_le_self _ _)) (g.ext ezz)).mono ?_);rintro e wa ⟨rfl,ea⟩))
         | (go_at_call 151;refine(cV false (a.natAbs % b.natAbs) _ _ (mr.ext ea) (FA.out.mono (Nat.mod_le _ _)) (g.ext (ezz.trans ea))).mono ?_;rintro e wb ⟨rfl,eb⟩))
   go_ret2;exact⟨fj (by have:=HS.o.1;revert this;cases sb <;> exact id) HS.o.2,(ezz.trans ea).trans eb⟩
  ·have H8:=aj h8;clear h8;go_enter func148,ntmps148;go_wp2_with (first
         | (go_at_call 219;((with_reducible refine(cJ a w H9.o).mono ?_);rintro e w0 ⟨rfl,e0⟩))
         | (go_at_call 219;refine cto (cJ b _ H8.o) fun w1 e1=>?_;have e01:=e0.trans e1)
         | (go_at_call 149;((with_reducible refine(bu a w1).mono ?_);rw[← HSA.o];rintro e w2 ⟨rfl,e2⟩))
         | (go_at_call 149;refine(bu b _).mono ?_;rw[← HSB.o];rintro e w3 ⟨rfl,e3⟩)
         | (go_at_call 153;((with_reducible refine(cj a.natAbs w3 L1.out).mono ?_);rintro e w4 ⟨va,rfl,e4,ma⟩;obtain⟨aa,an,ac,rfl⟩:=ma.slice))
         | (go_at_call 153;((with_reducible refine(cj b.natAbs w4 L2.out).mono ?_);rintro e w5 ⟨vb,rfl,e5,mb⟩;obtain⟨ba,bn,bc,rfl⟩:=mb.slice;have e15:=(((e01.trans e2).trans e3).trans e4).trans e5))
         | (go_at_call 220;refine(dR a.natAbs b.natAbs _ _ _ (ma.ext e5) mb HBN.o FA.out FB.out).mono ?_;rintro e w6 ⟨vq,vr,rfl,e6,mq,mr⟩;obtain⟨qa,qn,qc,rfl⟩:=mq.slice;obtain⟨ra,rn,rc,rfl⟩:=mr.slice;have ezz:=e15.trans e6;have hrn:rn=0:=mr.cF.2 HM0.o;subst hrn)
         | (go_at_call 151;((with_reducible refine(cV _ (a.natAbs / b.natAbs) _ w6 mq (FA.out.mono (Nat.div_le_self _ _)) (g.ext ezz)).mono ?_);rintro e wa ⟨rfl,ea⟩))
         | (go_at_call 151;refine(cV false (a.natAbs % b.natAbs) _ _ (mr.ext ea) (FA.out.mono (Nat.mod_le _ _)) (g.ext (ezz.trans ea))).mono ?_;rintro e wb ⟨rfl,eb⟩))
   go_ret2;exact⟨fj (by have:=HS.o.1;revert this;cases sb <;> exact id) HS.o.2,(ezz.trans ea).trans eb⟩
set_option maxHeartbeats 4000000 in
theorem rv(a b:Int){k m:Nat}(w:World)(g:Gd w)(ha:IB k a)(hb:IB m b)(hk:k<=9000)(hm:m<=9000)(hb0:b≠0)(h:¬ ((Lib.decDigits a.natAbs).length<=17/\(Lib.decDigits b.natAbs).length<=17))(hsa:true=decide (a<0))(HM0:Hid (a.natAbs % b.natAbs≠0))(HS:Hid (eI (!(decide (a<0) == decide (b<0))) (a.natAbs / b.natAbs+1)=a / b/\eI false (b.natAbs-a.natAbs % b.natAbs)=a % b)):Calls prog 148 #[.string (zs a),.string (zs b)] w (aR w (.tuple #[.string (zs (a / b)),.string (zs (a % b))])):=by
 have L1:Hid ((Lib.decDigits a.natAbs).length<=20000):=aj (Nat.le_trans (ha.iX hk) af);have L2:Hid ((Lib.decDigits b.natAbs).length<=20000):=aj (Nat.le_trans (hb.iX hm) af);have FA:=aj (ha.Aj ae);have FB:=aj (hb.BW ae);have HBN:Hid (0<b.natAbs):=aj ae;have FQ:Hid (gu (a.natAbs / b.natAbs+1)):=aj (by
  have h1:IB (max k 1+1) ((a.natAbs / b.natAbs:Nat)+1:Int):=IB.add ⟨by rw[Int.natAbs_natCast];exact Nat.lt_of_le_of_lt (Nat.div_le_self _ _) ha.out⟩ ⟨af⟩;have h2:=h1.Aj ae;exact h2.mono ae)
 have RONE:Hid (gu 1):=aj ⟨Nat.one_lt_pow af af⟩;have HLE:=aj (Nat.le_of_lt (Nat.mod_lt a.natAbs (show 0<b.natAbs by omega)));obtain⟨sb,hsb⟩:∃ sb,sb=decide (b<0):=⟨_,rfl⟩
 rw[← hsa,← hsb] at HS;have HSA:=aj hsa;have HSB:=aj hsb;clear hsa hsb ha hb hb0;by_cases h9:(Lib.decDigits a.natAbs).length<=17
 ·have H9:=aj h9;have H8:Hid (¬ (Lib.decDigits b.natAbs).length<=17):=aj (fun e=>h ⟨h9,e⟩);clear h h9;go_enter func148,ntmps148;go_wp2_with (first
        | (go_at_call 219;((with_reducible refine(cU a w H9.o).mono ?_);rintro e w0 ⟨rfl,e0⟩))
        | (go_at_call 219;refine cto (cJ b _ H8.o) fun w1 e1=>?_;have e01:=e0.trans e1)
        | (go_at_call 149;((with_reducible refine(bu a w1).mono ?_);rw[← HSA.o];rintro e w2 ⟨rfl,e2⟩))
        | (go_at_call 149;refine(bu b _).mono ?_;rw[← HSB.o];rintro e w3 ⟨rfl,e3⟩)
        | (go_at_call 153;((with_reducible refine(cj a.natAbs w3 L1.out).mono ?_);rintro e w4 ⟨va,rfl,e4,ma⟩;obtain⟨aa,an,ac,rfl⟩:=ma.slice))
        | (go_at_call 153;((with_reducible refine(cj b.natAbs w4 L2.out).mono ?_);rintro e w5 ⟨vb,rfl,e5,mb⟩;obtain⟨ba,bn,bc,rfl⟩:=mb.slice;have e15:=(((e01.trans e2).trans e3).trans e4).trans e5))
        | (go_at_call 220;refine(dR a.natAbs b.natAbs _ _ _ (ma.ext e5) mb HBN.o FA.out FB.out).mono ?_;rintro e w6 ⟨vq,vr,rfl,e6,mq,mr⟩;obtain⟨qa,qn,qc,rfl⟩:=mq.slice;obtain⟨ra,rn,rc,rfl⟩:=mr.slice;have hrn:0<rn:=by rcases Nat.eq_zero_or_pos rn with h|h;(exact absurd (mr.cF.1 h) HM0.o);exact h)
        | (go_at_call 221;((with_reducible refine(dA (a.natAbs / b.natAbs) 1 1 _ _ _ (mq.ext ((Ext.refl w6).alloc _)) (B5 w6) ae ae (by have:=Int.natCast_nonneg (a.natAbs / b.natAbs);omega) (FA.out.mono (Nat.div_le_self _ _)) RONE.out (by rw[dJ];exact FQ.out)).mono ?_);rw[dJ];rintro e w7 ⟨v7,rfl,e7,m7⟩;obtain⟨xa,xn,xc,rfl⟩:=m7.slice;have e17:=((Ext.refl w6).alloc (.cells #[.int .i64 1] 3)).trans e7))
        | (go_at_call 153;refine(cj b.natAbs _ L2.out).mono ?_;rintro e w8 ⟨v8,rfl,e8,m8⟩;obtain⟨ya,yn,yc,rfl⟩:=m8.slice)
        | (go_at_call 221;refine(dA b.natAbs (a.natAbs % b.natAbs) (-1) _ _ _ m8 ((mr.ext e17).ext e8) ae ae (by have:=HLE.o;omega) FB.out.r (FB.out.r.mono HLE.o) (by rw[dm HLE.o];exact FB.out.r.mono (Nat.sub_le _ _))).mono ?_;rw[dm HLE.o];rintro e w9 ⟨v9,rfl,e9,m9⟩;obtain⟨za,zn,zc,rfl⟩:=m9.slice;have ezz:=((e15.trans e6).trans e17).trans (e8.trans e9))
        | (go_at_call 151;((with_reducible refine(cV _ (a.natAbs / b.natAbs+1) _ w9 ((m7.ext e8).ext e9) FQ.out (g.ext ezz)).mono ?_);rintro e wa ⟨rfl,ea⟩))
        | (go_at_call 151;refine(cV false (b.natAbs-a.natAbs % b.natAbs) _ _ (m9.ext ea) (FB.out.r.mono (Nat.sub_le _ _)) (g.ext (ezz.trans ea))).mono ?_;rintro e wb ⟨rfl,eb⟩))
  go_ret2;exact⟨fj (by have:=HS.o.1;revert this;cases sb <;> exact id) HS.o.2,(ezz.trans ea).trans eb⟩
 ·have H9:=aj h9;clear h h9;by_cases h8:(Lib.decDigits b.natAbs).length<=17
  ·have H8:=aj h8;clear h8;go_enter func148,ntmps148;go_wp2_with (first
         | (go_at_call 219;((with_reducible refine(cJ a w H9.o).mono ?_);rintro e w0 ⟨rfl,e0⟩))
         | (go_at_call 219;refine cto (cU b _ H8.o) fun w1 e1=>?_;have e01:=e0.trans e1)
         | (go_at_call 149;((with_reducible refine(bu a w1).mono ?_);rw[← HSA.o];rintro e w2 ⟨rfl,e2⟩))
         | (go_at_call 149;refine(bu b _).mono ?_;rw[← HSB.o];rintro e w3 ⟨rfl,e3⟩)
         | (go_at_call 153;((with_reducible refine(cj a.natAbs w3 L1.out).mono ?_);rintro e w4 ⟨va,rfl,e4,ma⟩;obtain⟨aa,an,ac,rfl⟩:=ma.slice))
         | (go_at_call 153;((with_reducible refine(cj b.natAbs w4 L2.out).mono ?_);rintro e w5 ⟨vb,rfl,e5,mb⟩;obtain⟨ba,bn,bc,rfl⟩:=mb.slice;have e15:=(((e01.trans e2).trans e3).trans e4).trans e5))
         | (go_at_call 220;refine(dR a.natAbs b.natAbs _ _ _ (ma.ext e5) mb HBN.o FA.out FB.out).mono ?_;rintro e w6 ⟨vq,vr,rfl,e6,mq,mr⟩;obtain⟨qa,qn,qc,rfl⟩:=mq.slice;obtain⟨ra,rn,rc,rfl⟩:=mr.slice;have hrn:0<rn:=by rcases Nat.eq_zero_or_pos rn with h|h;(exact absurd (mr.cF.1 h) HM0.o);exact h)
         | (go_at_call 221;((with_reducible refine(dA (a.natAbs / b.natAbs) 1 1 _ _ _ (mq.ext ((Ext.refl w6).alloc _)) (B5 w6) ae ae (by have:=Int.natCast_nonneg (a.natAbs / b.natAbs);omega) (FA.out.mono (Nat.div_le_self _ _)) RONE.out (by rw[dJ];exact FQ.out)).mono ?_);rw[dJ];rintro e w7 ⟨v7,rfl,e7,m7⟩;obtain⟨xa,xn,xc,rfl⟩:=m7.slice;have e17:=((Ext.refl w6).alloc (.cells #[.int .i64 1] 3)).trans e7))
         | (go_at_call 153;refine(cj b.natAbs _ L2.out).mono ?_;rintro e w8 ⟨v8,rfl,e8,m8⟩;obtain⟨ya,yn,yc,rfl⟩:=m8.slice)
         | (go_at_call 221;refine(dA b.natAbs (a.natAbs % b.natAbs) (-1) _ _ _ m8 ((mr.ext e17).ext e8) ae ae (by have:=HLE.o;omega) FB.out.r (FB.out.r.mono HLE.o) (by rw[dm HLE.o];exact FB.out.r.mono (Nat.sub_le _ _))).mono ?_;rw[dm HLE.o];rintro e w9 ⟨v9,rfl,e9,m9⟩;obtain⟨za,zn,zc,rfl⟩:=m9.slice;have ezz:=((e15.trans e6).trans e17).trans (e8.trans e9))
         | (go_at_call 151;((with_reducible refine(cV _ (a.natAbs / b.natAbs+1) _ w9 ((m7.ext e8).ext e9) FQ.out (g.ext ezz)).mono ?_);rintro e wa ⟨rfl,ea⟩))
         | (go_at_call 151;refine(cV false (b.natAbs-a.natAbs % b.natAbs) _ _ (m9.ext ea) (FB.out.r.mono (Nat.sub_le _ _)) (g.ext (ezz.trans ea))).mono ?_;rintro e wb ⟨rfl,eb⟩))
   go_ret2;exact⟨fj (by have:=HS.o.1;revert this;cases sb <;> exact id) HS.o.2,(ezz.trans ea).trans eb⟩
  ·have H8:=aj h8;clear h8;go_enter func148,ntmps148;go_wp2_with (first
         | (go_at_call 219;((with_reducible refine(cJ a w H9.o).mono ?_);rintro e w0 ⟨rfl,e0⟩))
         | (go_at_call 219;refine cto (cJ b _ H8.o) fun w1 e1=>?_;have e01:=e0.trans e1)
         | (go_at_call 149;((with_reducible refine(bu a w1).mono ?_);rw[← HSA.o];rintro e w2 ⟨rfl,e2⟩))
         | (go_at_call 149;refine(bu b _).mono ?_;rw[← HSB.o];rintro e w3 ⟨rfl,e3⟩)
         | (go_at_call 153;((with_reducible refine(cj a.natAbs w3 L1.out).mono ?_);rintro e w4 ⟨va,rfl,e4,ma⟩;obtain⟨aa,an,ac,rfl⟩:=ma.slice))
         | (go_at_call 153;((with_reducible refine(cj b.natAbs w4 L2.out).mono ?_);rintro e w5 ⟨vb,rfl,e5,mb⟩;obtain⟨ba,bn,bc,rfl⟩:=mb.slice;have e15:=(((e01.trans e2).trans e3).trans e4).trans e5))
         | (go_at_call 220;refine(dR a.natAbs b.natAbs _ _ _ (ma.ext e5) mb HBN.o FA.out FB.out).mono ?_;rintro e w6 ⟨vq,vr,rfl,e6,mq,mr⟩;obtain⟨qa,qn,qc,rfl⟩:=mq.slice;obtain⟨ra,rn,rc,rfl⟩:=mr.slice;have hrn:0<rn:=by rcases Nat.eq_zero_or_pos rn with h|h;(exact absurd (mr.cF.1 h) HM0.o);exact h)
         | (go_at_call 221;((with_reducible refine(dA (a.natAbs / b.natAbs) 1 1 _ _ _ (mq.ext ((Ext.refl w6).alloc _)) (B5 w6) ae ae (by have:=Int.natCast_nonneg (a.natAbs / b.natAbs);omega) (FA.out.mono (Nat.div_le_self _ _)) RONE.out (by rw[dJ];exact FQ.out)).mono ?_);rw[dJ];rintro e w7 ⟨v7,rfl,e7,m7⟩;obtain⟨xa,xn,xc,rfl⟩:=m7.slice;have e17:=((Ext.refl w6).alloc (.cells #[.int .i64 1] 3)).trans e7))
         | (go_at_call 153;refine(cj b.natAbs _ L2.out).mono ?_;rintro e w8 ⟨v8,rfl,e8,m8⟩;obtain⟨ya,yn,yc,rfl⟩:=m8.slice)
         | (go_at_call 221;refine(dA b.natAbs (a.natAbs % b.natAbs) (-1) _ _ _ m8 ((mr.ext e17).ext e8) ae ae (by have:=HLE.o;omega) FB.out.r (FB.out.r.mono HLE.o) (by rw[dm HLE.o];exact FB.out.r.mono (Nat.sub_le _ _))).mono ?_;rw[dm HLE.o];rintro e w9 ⟨v9,rfl,e9,m9⟩;obtain⟨za,zn,zc,rfl⟩:=m9.slice;have ezz:=((e15.trans e6).trans e17).trans (e8.trans e9))
         | (go_at_call 151;((with_reducible refine(cV _ (a.natAbs / b.natAbs+1) _ w9 ((m7.ext e8).ext e9) FQ.out (g.ext ezz)).mono ?_);rintro e wa ⟨rfl,ea⟩))
         | (go_at_call 151;refine(cV false (b.natAbs-a.natAbs % b.natAbs) _ _ (m9.ext ea) (FB.out.r.mono (Nat.sub_le _ _)) (g.ext (ezz.trans ea))).mono ?_;rintro e wb ⟨rfl,eb⟩))
   go_ret2;exact⟨fj (by have:=HS.o.1;revert this;cases sb <;> exact id) HS.o.2,(ezz.trans ea).trans eb⟩
theorem gD(a b:Int){k m:Nat}(w:World)(g:Gd w)(ha:IB k a)(hb:IB m b)(hk:k<=9000)(hm:m<=9000)(hb0:b≠0):Calls prog 148 #[.string (zs a),.string (zs b)] w (aR w (.tuple #[.string (zs (a / b)),.string (zs (a % b))])):=by
 by_cases hs:(Lib.decDigits a.natAbs).length<=17/\(Lib.decDigits b.natAbs).length<=17
 ·exact nK a b w g hs.1 hs.2 hb0
 ·by_cases h:a<0
  ·by_cases h0:a.natAbs % b.natAbs=0
   ·exact pR a b w g ha hb hk hm hb0 hs (decide_eq_true h).symm (aj h0) (aj (iW a b hb0 (Or.inr h0)))
   ·exact rv a b w g ha hb hk hm hb0 hs (decide_eq_true h).symm (aj h0) (aj (oG a b hb0 h h0))
  ·exact ru a b w g ha hb hk hm hb0 hs (decide_eq_false h).symm (aj (iW a b hb0 (Or.inl ae)))
theorem y8(a b:Int){k m:Nat}(w:World)(g:Gd w)(ha:IB k a)(hb:IB m b)(hk:k<=9000)(hm:m<=9000):Calls prog 147 #[.string (zs a),.string (zs b)] w (aR w (.string (zs (Int.gcd a b)))):=by
 have HA:Hid (IB 9000 (a.natAbs:Int)):=aj (IB.mono ⟨by simpa using ha.out⟩ hk);have HB:Hid (IB 9000 (b.natAbs:Int)):=aj (IB.mono ⟨by simpa using hb.out⟩ hm);have HG:=aj g;clear ha hb g;go_enter func147,ntmps147;go_wp2_with (first
  | (go_at_call 218;((with_reducible refine(y9 a w).mono ?_);rintro e w1 ⟨rfl,e1⟩))
  | (go_at_call 218;refine cto (y9 b _) fun w2 e2=>?_))
 go_loopg [0,1] b.natAbs (fun gk x y W=>∃ (X Y:Nat),x = .string (zs (X:Int))/\y = .string (zs (Y:Int))/\Y<=gk/\Hid (Nat.gcd X Y=Int.gcd a b/\IB 9000 (X:Int)/\IB 9000 (Y:Int))/\Ext w W)
 case atStart=>exact⟨a.natAbs,b.natAbs,rfl,rfl,Nat.le_refl _,aj ⟨rfl,HA.o,HB.o⟩,e1.trans e2⟩
 case round =>
  obtain⟨X,Y,rfl,rfl,hgk,hin,hx⟩:=hrel;by_cases h0:Y=0
  ·have z1:=zR (n:=(Y:Int)) ae;have z2:=rV (n:=(Y:Int)) ae;have E:Hid ((X:Int)=Int.gcd a b):=aj (by rw[← hin.out.1,h0,Nat.gcd_zero_right]);clear h0;go_wp2;go_ret;exact⟨cW E.out,hx⟩
  ·have z1:=wR (n:=(Y:Int)) ae;have z2:=iK (n:=(Y:Int)) ae;have hmod:X % Y<Y:=Nat.mod_lt _ ae;have hmod':X % Y<gk:=ae;have HM:=aj hmod';have H0:Hid ((Y:Int)≠0):=aj ae;have HC:Hid ((X:Int) % (Y:Int)=((X % Y:Nat):Int)):=aj (by simp);have NX:Hid (Nat.gcd Y (X % Y)=Int.gcd a b/\IB 9000 (Y:Int)/\IB 9000 ((X % Y:Nat):Int)):=aj ⟨by rw[← hin.out.1,Nat.gcd_comm,← Nat.gcd_rec,Nat.gcd_comm],hin.out.2.2,hin.out.2.2.of_le (by rw[Int.natAbs_natCast,Int.natAbs_natCast];exact Nat.le_of_lt hmod)⟩;clear h0 hmod hmod';go_wp2_with (go_at_call 148;refine(gD (X:Int) (Y:Int) _ (HG.o.ext hx) hin.out.2.1 hin.out.2.2 af af H0.o).mono ?_;rw[HC.o];rintro e w3 ⟨rfl,e3⟩);go_roundg (X % Y)
   case rel=>exact⟨Y,X % Y,rfl,rfl,Nat.le_refl _,NX,hx.trans e3⟩
   case measure=>exact HM.o
end Go.Proofs.YtmahadmefplbnaaGreatDoor
