/- Part 23. -/
import Derived.Test.YtmahadmefplbnaaGreatDoorQVLB
import Derived.Test.YtmahadmefplbnaaGreatDoorQVL22
import Derived.Handy
set_option maxRecDepth 100000
set_option maxHeartbeats 2000000
open Go.Proofs.Tryz
set_option linter.unusedVariables false
namespace Go.Proofs.YtmahadmefplbnaaGreatDoor
open Go Go.RowKit
structure V3 where
 x:Rat
 y:Rat
 z:Rat
deriving DecidableEq
abbrev vv(v:V3):Value:=.agg #[.string (qs v.x),.string (qs v.y),.string (qs v.z)]
structure P2 where
 x:Rat
 y:Rat
deriving DecidableEq
abbrev pv(p:P2):Value:=.agg #[.string (qs p.x),.string (qs p.y)]
structure PB(k:Nat)(p:P2):Prop where
 x:QB k p.x
 y:QB k p.y
def qfz(a b:V3):V3:=⟨a.x+b.x,a.y+b.y,a.z+b.z⟩
def qfw(a b:V3):V3:=⟨a.x-b.x,a.y-b.y,a.z-b.z⟩
structure VB(k:Nat)(v:V3):Prop where
 x:QB k v.x
 y:QB k v.y
 z:QB k v.z
theorem VB.add{k m:Nat}{a b:V3}(h:VB k a)(h2:VB m b):VB (k+m+1) (qfz a b):=⟨h.x.add h2.x,h.y.add h2.y,h.z.add h2.z⟩
theorem VB.sub{k m:Nat}{a b:V3}(h:VB k a)(h2:VB m b):VB (k+m+1) (qfw a b):=⟨h.x.sub h2.x,h.y.sub h2.y,h.z.sub h2.z⟩
theorem AM{w w':World}(e:Ext w w'){b0 o0 b1 o1 b2 o2 b3 o3 b4 o4 b5 o5:Nat}{x0 x1 x2 x3 x4 x5:Value}(h:w.cell? ⟨b0,o0,none⟩=some x0/\w.cell? ⟨b1,o1,none⟩=some x1/\w.cell? ⟨b2,o2,none⟩=some x2/\w.cell? ⟨b3,o3,none⟩=some x3/\w.cell? ⟨b4,o4,none⟩=some x4/\w.cell? ⟨b5,o5,none⟩=some x5):w'.cell? ⟨b0,o0,none⟩=some x0/\w'.cell? ⟨b1,o1,none⟩=some x1/\w'.cell? ⟨b2,o2,none⟩=some x2/\w'.cell? ⟨b3,o3,none⟩=some x3/\w'.cell? ⟨b4,o4,none⟩=some x4/\w'.cell? ⟨b5,o5,none⟩=some x5 :=
 ⟨e.keeps h.1,e.keeps h.2.1,e.keeps h.2.2.1,e.keeps h.2.2.2.1,e.keeps h.2.2.2.2.1,e.keeps h.2.2.2.2.2⟩
theorem vQ:qs (-1)=⟨#[45,49]⟩:=by
 have h:(-1:Rat).num<0:=af;have:=vP (q:=1) af;rw[← this];have e:qs (1:Rat)=zs 1:=by unfold qs zs;rw[ik (by rfl)];rfl
 rw[e,j3];rfl
open Classical in
noncomputable def rq (s:ByteArray):Bool:=decide (nC s.data.toList)
open Classical in
theorem rp{s:ByteArray}:rq s=true ↔ nC s.data.toList:=by unfold rq;exact decide_eq_true_iff
open Classical in
theorem vH{s:ByteArray}:rq s=false ↔ ¬ nC s.data.toList:=by unfold rq;exact decide_eq_false_iff_not
theorem eQ(s:ByteArray)(w:World)(g:Gd w)(hl:s.size<=1000000)(h:rq s=true):Calls prog 102 #[.string s] w (aZ w (.int .i64 0)) :=
 vN s w g 0 hl ⟨fun _=>rfl,fun e=>absurd (rp.1 h) e⟩
theorem ju(s:ByteArray)(w:World)(g:Gd w)(hl:s.size<=1000000)(h:rq s=false):Calls prog 102 #[.string s] w (aZ w (.int .i64 2)) :=
 vN s w g 2 hl ⟨fun e=>absurd e (vH.1 h),fun _=>rfl⟩
noncomputable def fe (l:List ByteArray):Int:=if l.all rq then 0 else 2
theorem all_true{l:List ByteArray}(h:∀ (i:Nat) (hi:i<l.length),rq l[i]=true):l.all rq=true:=by
 rw[List.all_eq_true];intro x hx;obtain⟨i,hi,rfl⟩:=List.getElem_of_mem hx;exact h i hi
theorem all_false{l:List ByteArray}{i:Nat}(hi:i<l.length)(h:rq l[i]=false):l.all rq=false:=by
 rw[List.all_eq_false];exact⟨_,List.getElem_mem hi,by simp[h]⟩
theorem Rz(w:World):(sizeOf 34).run prog w = .ok 1 w:=ag
set_option maxHeartbeats 1000000 in
theorem pj (ss:List ByteArray) (b n cap:Nat) (w:World) (g:Gd w) (hn:ss.length=n) (hn9:n<=100) (hl:∀ (i:Nat) (hi:i<ss.length),(ss[i]).size<=1000000) (hb:b<w.heap.size)
    (hc:∀ (i:Nat) (hi:i<ss.length),w.cell? ⟨b,i,none⟩=some (.string ss[i])) :
    Calls prog 96 #[.slice (some ⟨b,0,none⟩) n cap] w (aZ w (.int .i64 (fe ss))):=by
 have HG:=ai g;have HL:=ai hl;have HC:=ai hc;have HN:=ai hn;have VW:=ai hb;clear g hl hc hn hb;go_enter func96,ntmps96;go_wp2;go_loopw [8] (fun x W=>∃ k:Nat,x = .int .i64 k/\k<=n/\Ext w W/\Hid (∀ (i:Nat) (_:i<k) (hi:i<ss.length),rq ss[i]=true)) (fun x _=>n-(intOf x).toNat)
 case atStart=>exact⟨0,rfl,ae,Ext.refl _,ai (fun i h=>ae)⟩
 case round =>
  obtain⟨k,rfl,hk,hx,HR⟩:=hrel;by_cases y3:k<n
  ·have BX:k<ss.length:=by have:=HN.o;omega
   obtain⟨s,hs⟩:∃ s,s=ss[k]:=⟨_,rfl⟩
   have tI:s.size<=1000000:=by rw[hs];exact HL.o k BX
   have y4:∀ W,Ext w W->W.cell? ⟨b,k,none⟩=some (.string s):=fun W e=>by rw[e.cell VW.o,hs];exact HC.o k BX
   have c1:=y4 _ hx;have hix:=dG 30 34 rfl Rz (ad:=some ⟨b,0,none⟩) (n:=n) (cap:=cap) (fun _=>rfl) k y3;have HS:=ai hs;clear hs y4;cases hq:rq s with
   | true =>
    have HQ:=ai hq;clear hq;go_wp2_with (go_at_call 102;refine cto (eQ s _ (HG.o.ext hx) tI HQ.o) fun w2 e2=>?_);go_roundw
    case rel=>exact⟨k+1,by go_num,ae,hx.trans e2,ai (fun i h hi=>by
     by_cases e:i=k
     ·subst e;rw[← HS.o];exact HQ.o
     ·exact HR.o i ae hi)⟩
    case measure=>simp[intOf];omega
   | false =>
    have HQ:=ai hq;clear hq;go_wp2_with (go_at_call 102;refine cto (ju s _ (HG.o.ext hx) tI HQ.o) fun w2 e2=>?_);go_ret;exact⟨by unfold fe;rw[all_false BX (by rw[← HS.o];exact HQ.o)];rfl,hx.trans e2⟩
  ·obtain rfl:k=n:=ae;go_wp2;go_ret;exact⟨by unfold fe;rw[all_true (fun i hi=>HR.o i (by have:=HN.o;omega) hi)];rfl,hx⟩
def Tx(w:World)(v:Value)(l:List ByteArray):Prop :=
 (l=[]/\v = .slice none 0 0)∨∃ (a:Addr) (cap:Nat),v = .slice (some a) l.length cap/\l.length<=cap/\cap<=maxLen/\∀ i (h:i<l.length),w.cell? (a.add i)=some (.string l[i])
theorem Ju{w:World}{a:Addr}{v:Value}(h:w.cell? a=some v):a.block<w.heap.size:=by
 rcases Nat.lt_or_ge a.block w.heap.size with h'|h'
 ·exact h'
 ·simp[World.cell?,Array.getElem?_eq_none h'] at h
theorem Tx.ext{w w':World}{v:Value}{l:List ByteArray}(h:Tx w v l)(e:Ext w w'):Tx w' v l:=by
 rcases h with h|⟨a,cap,h1,h2,h3,h4⟩
 ·exact Or.inl h
 ·exact Or.inr ⟨a,cap,h1,h2,h3,fun i hi=>(e.cell (Ju (h4 i hi))).trans (h4 i hi)⟩
structure T3 where
 x:ByteArray
 y:ByteArray
 z:ByteArray
abbrev tv(t:T3):Value:=.agg #[.string t.x,.string t.y,.string t.z]
def T3.l(t:T3):List ByteArray:=[t.x,t.y,t.z]
structure TS(t:T3):Prop where
 x:t.x.size<=1000000
 y:t.y.size<=1000000
 z:t.z.size<=1000000
structure T2 where
 x:ByteArray
 y:ByteArray
abbrev tp(t:T2):Value:=.agg #[.string t.x,.string t.y]
def T2.l(t:T2):List ByteArray:=[t.x,t.y]
structure Vl(t:T2):Prop where
 x:t.x.size<=1000000
 y:t.y.size<=1000000
theorem gU{q:Rat}(h:QB 200 q):rq (qs q)=true :=
 rp.2 ⟨q,iO q,dJ af h.num,dJ af h.den⟩
theorem YA{w:World}{b:Nat}{x y z:ByteArray}{t:TypeId}(h:ay w b #[.string x,.string y,.string z] t):∀ (i:Nat) (hi:i<[x,y,z].length),w.cell? ⟨b,i,none⟩=some (.string [x,y,z][i])
 | 0,_=>h.cell 0 rfl
 | 1,_=>h.cell 1 rfl
 | 2,_=>h.cell 2 rfl
theorem YB{w:World}{b:Nat}{x y:ByteArray}{t:TypeId}(h:ay w b #[.string x,.string y] t):∀ (i:Nat) (hi:i<[x,y].length),w.cell? ⟨b,i,none⟩=some (.string [x,y][i])
 | 0,_=>h.cell 0 rfl
 | 1,_=>h.cell 1 rfl
theorem Wg{x y z:ByteArray}(h1:x.size<=1000000)(h2:y.size<=1000000)(h3:z.size<=1000000):∀ (i:Nat) (hi:i<[x,y,z].length),([x,y,z][i]).size<=1000000
 | 0,_=>h1
 | 1,_=>h2
 | 2,_=>h3
theorem Wh{x y:ByteArray}(h1:x.size<=1000000)(h2:y.size<=1000000):∀ (i:Nat) (hi:i<[x,y].length),([x,y][i]).size<=1000000
 | 0,_=>h1
 | 1,_=>h2
theorem gF(t:T3)(w:World)(g:Gd w)(hs:TS t):Calls prog 101 #[tv t] w (aZ w (.int .i64 (fe t.l))):=by
 have HG:=ai g;have HS:=ai hs;clear g hs;go_enter func101,ntmps101;go_wp2_with (go_at_call 96;refine cto (pj [t.x,t.y,t.z] (w.heap.size+1) 3 3 _ (HG.o.ext (((Ext.refl _).alloc _).alloc _)) rfl af (Wg HS.o.x HS.o.y HS.o.z) (by simp) (YA (by have:=ay.new (w.alloc (.cells #[.string t.x,.string t.y,.string t.z] 67)) #[.string t.x,.string t.y,.string t.z] 34;simpa using this))) fun w1 e1=>?_);go_ret;exact⟨rfl,(((Ext.refl _).alloc _).alloc _).trans e1⟩
theorem dN(t:T2)(w:World)(g:Gd w)(hs:Vl t):Calls prog 111 #[tp t] w (aZ w (.int .i64 (fe t.l))):=by
 have HG:=ai g;have HS:=ai hs;clear g hs;go_enter func111,ntmps111;go_wp2_with (go_at_call 96;refine cto (pj [t.x,t.y] (w.heap.size+1) 2 2 _ (HG.o.ext (((Ext.refl _).alloc _).alloc _)) rfl af (Wh HS.o.x HS.o.y) (by simp) (YB (by have:=ay.new (w.alloc (.cells #[.string t.x,.string t.y] 58)) #[.string t.x,.string t.y] 34;simpa using this))) fun w1 e1=>?_);go_ret;exact⟨rfl,(((Ext.refl _).alloc _).alloc _).trans e1⟩
theorem vF (t e:TypeId) (K:Nat) (hu:prog.underlying t=some (.slice e)) (hs:∀ w,(sizeOf e).run prog w = .ok K w) {ad:Option Addr} {n cap b off:Nat} (h:0<n->ad=some ⟨b,off,none⟩) (i:Nat) (hi:i<n) (w:World) :
    (Instr.indexAt t (.slice ad n cap) (.int .i64 (i:Int))).run prog w = .ok (.pointer (some ⟨b,off+i*K,none⟩)) w:=by
 rw[h ae];simp[Instr.indexAt,asIntOf,run_underlying hu,hs,go_sem,hi,Addr.add]
theorem Ry(w:World):(sizeOf 67).run prog w = .ok 3 w:=ag
theorem Wi(w:World):(sizeOf 58).run prog w = .ok 2 w:=ag
noncomputable def zY (l:List T3):Int:=if l.all (fun t=>t.l.all rq) then 0 else 2
noncomputable def KA (l:List T2):Int:=if l.all (fun t=>t.l.all rq) then 0 else 2
theorem vu{l:List ByteArray}(h:l.all rq=true):fe l=0:=by unfold fe;rw[h];rfl
theorem Mn{l:List ByteArray}(h:l.all rq=false):fe l=2:=by unfold fe;rw[h];rfl
theorem zb{α:Type}{f:α->Bool}{l:List α}(h:∀ (i:Nat) (hi:i<l.length),f l[i]=true):l.all f=true:=by
 rw[List.all_eq_true];intro x hx;obtain⟨i,hi,rfl⟩:=List.getElem_of_mem hx;exact h i hi
theorem wW{α:Type}{f:α->Bool}{l:List α}{i:Nat}(hi:i<l.length)(h:f l[i]=false):l.all f=false:=by
 rw[List.all_eq_false];exact⟨_,List.getElem_mem hi,by simp[h]⟩
set_option maxHeartbeats 1000000 in
theorem yF (ts:List T3) (b n cap:Nat) (w:World) (g:Gd w) (hn:ts.length=n) (hn9:n<=100) (hl:∀ (i:Nat) (hi:i<ts.length),TS ts[i]) (hb:b<w.heap.size)
    (hc:∀ (i:Nat) (hi:i<ts.length),w.cell? ⟨b,i*3,none⟩=some (.string (ts[i]).x)/\w.cell? ⟨b,i*3+1,none⟩=some (.string (ts[i]).y)/\w.cell? ⟨b,i*3+2,none⟩=some (.string (ts[i]).z)) :
    Calls prog 95 #[.slice (some ⟨b,0,none⟩) n cap] w (aZ w (.int .i64 (zY ts))):=by
 have HG:=ai g;have HL:=ai hl;have HC:=ai hc;have HN:=ai hn;have VW:=ai hb;clear g hl hc hn hb;go_enter func95,ntmps95;go_wp2;go_loopw [8] (fun x W=>∃ k:Nat,x = .int .i64 k/\k<=n/\Ext w W/\Hid (∀ (i:Nat) (_:i<k) (hi:i<ts.length),ts[i].l.all rq=true)) (fun x _=>n-(intOf x).toNat)
 case atStart=>exact⟨0,rfl,ae,Ext.refl _,ai (fun i h=>ae)⟩
 case round =>
  obtain⟨k,rfl,hk,hx,HR⟩:=hrel;by_cases y3:k<n
  ·have BX:k<ts.length:=by have:=HN.o;omega
   obtain⟨s,hs⟩:∃ s,s=ts[k]:=⟨_,rfl⟩
   have tI:TS s:=by rw[hs];exact HL.o k BX
   obtain⟨d1,d2,d3⟩:=HC.o k BX;rw[← hs] at d1 d2 d3;have c1:=(hx.cell (p:=⟨b,k*3,none⟩) VW.o).trans d1;have c2:=(hx.cell (p:=⟨b,k*3+1,none⟩) VW.o).trans d2;have c3:=(hx.cell (p:=⟨b,k*3+2,none⟩) VW.o).trans d3;have hix:=vF 55 67 3 rfl Ry (ad:=some ⟨b,0,none⟩) (n:=n) (cap:=cap) (fun _=>rfl) k y3;have HS:=ai hs;have Y9:=ai tI;clear hs d1 d2 d3 tI;cases hq:s.l.all rq with
   | true =>
    have HQ:=ai hq;have HT:=ai (vu hq);clear hq;go_wp2_with (go_at_call 101;refine(gF s _ (HG.o.ext (by repeat (first|assumption|apply Ext.alloc|(refine Ext.setCell ?_ (by have:=hx.size;simp;omega) _)))) Y9.o).mono ?_;rw[HT.o];rintro e w2 ⟨rfl,e2⟩);go_roundw
    case rel=>exact⟨k+1,by go_num,ae,(hx.alloc _).trans e2,ai (fun i h hi=>by
     by_cases e:i=k
     ·subst e;rw[← HS.o];exact HQ.o
     ·exact HR.o i ae hi)⟩
    case measure=>simp[intOf];omega
   | false =>
    have HQ:=ai hq;have HT:=ai (Mn hq);clear hq;go_wp2_with (go_at_call 101;refine(gF s _ (HG.o.ext (by repeat (first|assumption|apply Ext.alloc|(refine Ext.setCell ?_ (by have:=hx.size;simp;omega) _)))) Y9.o).mono ?_;rw[HT.o];rintro e w2 ⟨rfl,e2⟩);go_ret;exact⟨by unfold zY;rw[wW BX (by rw[← HS.o];exact HQ.o)];rfl,(hx.alloc _).trans e2⟩
  ·obtain rfl:k=n:=ae;go_wp2;go_ret;exact⟨by unfold zY;rw[zb (fun i hi=>HR.o i (by have:=HN.o;omega) hi)];rfl,hx⟩
set_option maxHeartbeats 1000000 in
theorem Nn (ts:List T2) (b n cap:Nat) (w:World) (g:Gd w) (hn:ts.length=n) (hn9:n<=100) (hl:∀ (i:Nat) (hi:i<ts.length),Vl ts[i]) (hb:b<w.heap.size)
    (hc:∀ (i:Nat) (hi:i<ts.length),w.cell? ⟨b,i*2,none⟩=some (.string (ts[i]).x)/\w.cell? ⟨b,i*2+1,none⟩=some (.string (ts[i]).y)) :
    Calls prog 89 #[.slice (some ⟨b,0,none⟩) n cap] w (aZ w (.int .i64 (KA ts))):=by
 have HG:=ai g;have HL:=ai hl;have HC:=ai hc;have HN:=ai hn;have VW:=ai hb;clear g hl hc hn hb;go_enter func89,ntmps89;go_wp2;go_loopw [8] (fun x W=>∃ k:Nat,x = .int .i64 k/\k<=n/\Ext w W/\Hid (∀ (i:Nat) (_:i<k) (hi:i<ts.length),ts[i].l.all rq=true)) (fun x _=>n-(intOf x).toNat)
 case atStart=>exact⟨0,rfl,ae,Ext.refl _,ai (fun i h=>ae)⟩
 case round =>
  obtain⟨k,rfl,hk,hx,HR⟩:=hrel;by_cases y3:k<n
  ·have BX:k<ts.length:=by have:=HN.o;omega
   obtain⟨s,hs⟩:∃ s,s=ts[k]:=⟨_,rfl⟩
   have tI:Vl s:=by rw[hs];exact HL.o k BX
   obtain⟨d1,d2⟩:=HC.o k BX;rw[← hs] at d1 d2;have c1:=(hx.cell (p:=⟨b,k*2,none⟩) VW.o).trans d1;have c2:=(hx.cell (p:=⟨b,k*2+1,none⟩) VW.o).trans d2;have hix:=vF 220 58 2 rfl Wi (ad:=some ⟨b,0,none⟩) (n:=n) (cap:=cap) (fun _=>rfl) k y3;have HS:=ai hs;have Y9:=ai tI;clear hs d1 d2 tI;cases hq:s.l.all rq with
   | true =>
    have HQ:=ai hq;have HT:=ai (vu hq);clear hq;go_wp2_with (go_at_call 111;refine(dN s _ (HG.o.ext (by repeat (first|assumption|apply Ext.alloc|(refine Ext.setCell ?_ (by have:=hx.size;simp;omega) _)))) Y9.o).mono ?_;rw[HT.o];rintro e w2 ⟨rfl,e2⟩);go_roundw
    case rel=>exact⟨k+1,by go_num,ae,(hx.alloc _).trans e2,ai (fun i h hi=>by
     by_cases e:i=k
     ·subst e;rw[← HS.o];exact HQ.o
     ·exact HR.o i ae hi)⟩
    case measure=>simp[intOf];omega
   | false =>
    have HQ:=ai hq;have HT:=ai (Mn hq);clear hq;go_wp2_with (go_at_call 111;refine(dN s _ (HG.o.ext (by repeat (first|assumption|apply Ext.alloc|(refine Ext.setCell ?_ (by have:=hx.size;simp;omega) _)))) Y9.o).mono ?_;rw[HT.o];rintro e w2 ⟨rfl,e2⟩);go_ret;exact⟨by unfold KA;rw[wW BX (by rw[← HS.o];exact HQ.o)];rfl,(hx.alloc _).trans e2⟩
  ·obtain rfl:k=n:=ae;go_wp2;go_ret;exact⟨by unfold KA;rw[zb (fun i hi=>HR.o i (by have:=HN.o;omega) hi)];rfl,hx⟩
theorem GS(s:ByteArray)(w:World)(g:Gd w)(hl:s.size<=1000000)(h:rq s=true):Calls prog 114 #[.string s] w (aZ w (.bool true)) :=
 ze s w g true hl ⟨fun _=>rfl,fun e=>absurd (rp.1 h) e⟩
theorem Lb(s:ByteArray)(w:World)(g:Gd w)(hl:s.size<=1000000)(h:rq s=false):Calls prog 114 #[.string s] w (aZ w (.bool false)) :=
 ze s w g false hl ⟨fun e=>absurd e (vH.1 h),fun _=>rfl⟩
theorem Tv(n:Int):(zs (n.natAbs:Int)).size=(Lib.decDigits n.natAbs).length:=by rw[gA,fS]
theorem QB.Xq(q:Rat):QB 200 q ↔ (Lib.decDigits q.num.natAbs).length<=200/\(Lib.decDigits q.den).length<=200 :=
 ⟨fun h=>⟨dJ af h.num,dJ af h.den⟩,fun h=>⟨cC h.1,cC h.2⟩⟩
theorem AL(q:Rat)(w:World)(hq:QB 200 q):Calls prog 174 #[.string (qs q)] w (aZ w (.bool false)):=by
 have h:=(QB.Xq q).1 hq;have h1:¬ (200:Int)<((zs (q.num.natAbs:Int)).size:Int):=by rw[Tv];omega
 have h2:¬ (200:Int)<((zs (q.den:Int)).size:Int):=by rw[gA,fS];omega
 have HQ:=ai hq;clear h hq;go_enter func174,ntmps174;go_wp2_with (first
  | (go_at_call 86;refine cto (dC q w HQ.o af) fun w1 e1=>?_)
  | (go_at_call 244;refine(qcS q.num _).mono ?_;rintro e w2 ⟨rfl,rfl⟩))
 go_ret;exact⟨by show Ending.returned (.bool (_ || _))=_;rw[decide_eq_false (show ¬ (200:Int)<((zs (q.num.natAbs:Int)).size:Int) by omega),decide_eq_false (show ¬ (200:Int)<((zs (q.den:Int)).size:Int) by omega)];rfl,e1⟩
theorem Xb(x:T3)(w:World):Calls prog 227 #[tv x] w (aZ w (tv x)):=by
 go_enter func227,ntmps227;go_wp2;refine bodyPost_ret (v:=tv x) (by simp[results,results227,go_sem]) rfl ⟨rfl,((Ext.refl _).alloc _).alloc _⟩
theorem Cr(x:T3)(w:World):Calls prog 175 #[tv x] w (aZ w (tv x)):=by
 go_enter func175,ntmps175;go_wp2;refine bodyPost_ret (v:=tv x) (by simp[results,results175,go_sem]) rfl ⟨rfl,((Ext.refl _).alloc _).alloc _⟩
theorem Xt(x y z:ByteArray)(w:World):(Instr.index 161 (.agg #[.string x,.string y,.string z]) (.int .i64 0)).run prog w = .ok (.string x) w:=ag
theorem Xs(x y z:ByteArray)(w:World):(Instr.index 161 (.agg #[.string x,.string y,.string z]) (.int .i64 1)).run prog w = .ok (.string y) w:=ag
theorem Xr(x y z:ByteArray)(w:World):(Instr.index 161 (.agg #[.string x,.string y,.string z]) (.int .i64 2)).run prog w = .ok (.string z) w:=ag
set_option maxHeartbeats 1000000 in
theorem CS(x y z:Rat)(w:World)(h0:QB 200 x)(h1:QB 200 y)(h2:QB 200 z):Calls prog 97 #[.agg #[.string (qs x),.string (qs y),.string (qs z)]] w (aZ w (.tuple #[.agg #[.string (qs x),.string (qs y),.string (qs z)],.int .i64 0])):=by
 have Hh0:=ai h0;have Hh1:=ai h1;have Hh2:=ai h2;clear h0 h1 h2;have ix0:=Xt (qs x) (qs y) (qs z);have ix1:=Xs (qs x) (qs y) (qs z);have ix2:=Xr (qs x) (qs y) (qs z);go_enter func97,ntmps97;go_wp2;refine wp_loop_rounds 4 ?_;rw[rounds_succ];go_wp2_with (go_at_call 174;refine cto (AL x _ Hh0.o) fun w1 e1=>?_);rw[rounds_succ];go_wp2_with (go_at_call 174;refine cto (AL y _ Hh1.o) fun w2 e2=>?_);rw[rounds_succ];go_wp2_with (go_at_call 174;refine cto (AL z _ Hh2.o) fun w3 e3=>?_;have B:ay w3 w.heap.size #[.string (qs x),.string (qs y),.string (qs z)] 161:=((ay.new w #[.string (qs x),.string (qs y),.string (qs z)] 161).alloc (.cells #[.string ⟨#[]⟩,.string ⟨#[]⟩,.string ⟨#[]⟩] 67)).ext (by repeat (first|assumption|exact Ext.refl _|apply Ext.drew|apply Ext.alloc|(refine Ext.setCell ?_ (by simp only[];omega) _)|(refine Ext.trans ?_ (by assumption))));have d0:=B.cell 0 rfl;have d1:=B.cell 1 rfl;have d2:=B.cell 2 rfl;clear B);rw[rounds_succ];go_wp2_with (go_at_call 175;refine cto (Cr ⟨qs x,qs y,qs z⟩ _) fun w4 e4=>?_;have R:ay w4 (w.heap.size+1) #[.string ⟨#[]⟩,.string ⟨#[]⟩,.string ⟨#[]⟩] 67:=(by have:=ay.new (w.alloc (.cells #[.string (qs x),.string (qs y),.string (qs z)] 161)) #[.string ⟨#[]⟩,.string ⟨#[]⟩,.string ⟨#[]⟩] 67;simpa using this:ay ((w.alloc (.cells #[.string (qs x),.string (qs y),.string (qs z)] 161)).alloc (.cells #[.string ⟨#[]⟩,.string ⟨#[]⟩,.string ⟨#[]⟩] 67)) (w.heap.size+1) #[.string ⟨#[]⟩,.string ⟨#[]⟩,.string ⟨#[]⟩] 67).ext (by repeat (first|assumption|exact Ext.refl _|apply Ext.drew|apply Ext.alloc|(refine Ext.setCell ?_ (by simp only[];omega) _)|(refine Ext.trans ?_ (by assumption))));have c0:=R.cell 0 rfl;have c1:=R.cell 1 rfl;have c2:=R.cell 2 rfl;have f0:=R.free 0;have f1:=R.free 1;have f2:=R.free 2;have HR:=ai R;clear R);clear c0 c1 c2 f0 f1 f2;have R3:=(((HR.o.set 0 (.string (qs x))).set 1 (.string (qs y))).set 2 (.string (qs z)))
 have ex:Ext w (((w4.setCell ⟨w.heap.size+1,0,none⟩ (.string (qs x))).setCell ⟨w.heap.size+1,1,none⟩ (.string (qs y))).setCell ⟨w.heap.size+1,2,none⟩ (.string (qs z))):=((((((((((Ext.refl _).alloc _).alloc _).trans e1).trans e2).trans e3).trans e4).setCell (by simp) _).setCell (by simp) _).setCell (by simp) _)
 have g0:=R3.cell 0 rfl;have g1:=R3.cell 1 rfl;have g2:=R3.cell 2 rfl;clear R3;generalize (((w4.setCell ⟨w.heap.size+1,0,none⟩ (.string (qs x))).setCell ⟨w.heap.size+1,1,none⟩ (.string (qs y))).setCell ⟨w.heap.size+1,2,none⟩ (.string (qs z)))=W' at *;refine bodyPost_ret (v:=.tuple #[.agg #[.string (qs x),.string (qs y),.string (qs z)],.int .i64 0]) (by simp[results,results97,go_sem,g0,g1,g2]) rfl ⟨rfl,ex⟩
theorem ay.Gb{w:World}{k:Nat}{cs:Array Value}{t:TypeId}(hk:k=w.heap.size):ay (w.alloc (.cells cs t)) k cs t:=by subst hk;exact ay.new w cs t
theorem ay.nw{w:World}{k:Nat}(cs:Array Value)(t:TypeId)(hk:k = w.heap.size:=by first|rfl|(simp only[World.size_alloc];done)|(simp only[World.size_alloc];omega)|simp):ay (w.alloc (.cells cs t)) k cs t:=ay.Gb hk
theorem aB{P:World->Prop}{w0:World}(I:World->Prop)(h:I w0)(k:∀ W,I W->P W):P w0:=k w0 h
theorem oI{w:World}{b b2 o o2:Nat}{u:Value}(h:b≠b2):(w.setCell ⟨b2,o2,none⟩ u).cell? ⟨b,o,none⟩=w.cell? ⟨b,o,none⟩:=by
 have:=Below.heap_setCell w ⟨b2,o2,none⟩ u b h;simp only[World.cell?,this]
theorem Bq{w:World}{b o o2:Nat}{u:Value}(h:o≠o2):(w.setCell ⟨b,o2,none⟩ u).cell? ⟨b,o,none⟩=w.cell? ⟨b,o,none⟩:=by
 simp only[World.setCell,World.cell?,Array.getElem?_modify,ite_true];cases hb:w.heap[b]? with
 | none=>rfl
 | some x=>cases x <;> simp[h.symm]
theorem QB.min{k m:Nat}{a b:Rat}(ha:QB k a)(hb:QB m b):QB (max k m) (qaM a b):=by
 unfold qaM;split
 ·exact hb.mono (Nat.le_max_right _ _)
 ·exact ha.mono (Nat.le_max_left _ _)
theorem QB.max{k m:Nat}{a b:Rat}(ha:QB k a)(hb:QB m b):QB (Nat.max k m) (Aq a b):=by
 unfold Aq;split
 ·exact hb.mono (Nat.le_max_right _ _)
 ·exact ha.mono (Nat.le_max_left _ _)
theorem Sy{w w':World}(e:Ext w w'){b0 o0:Nat}{x0:Value}(h:w.cell? ⟨b0,o0,none⟩=some x0):w'.cell? ⟨b0,o0,none⟩=some x0 :=
 e.keeps h
def sH(v:V3)(k:Nat):Rat:=if k=0 then v.x else if k=1 then v.y else v.z
def qu9(r v:V3)(k:Nat):Array Value:=#[.string (qs (if 0<k then r.x else v.x)),.string (qs (if 1<k then r.y else v.y)),.string (qs (if 2<k then r.z else v.z))]
theorem Rg(r v:V3):qu9 r v 0=#[.string (qs v.x),.string (qs v.y),.string (qs v.z)]:=rfl
theorem Rf(r v:V3):qu9 r v 3=#[.string (qs r.x),.string (qs r.y),.string (qs r.z)]:=rfl
theorem Cs{r v:V3}{k:Nat}(h:k<3):(qu9 r v k)[k]?=some (.string (qs (sH v k))):=by
 match k,h with
 | 0,_=>rfl
 | 1,_=>rfl
 | 2,_=>rfl
theorem J7{r v:V3}{k:Nat}(h:k<3){q:Rat}(hq:q=sH r k):(qu9 r v k).setIfInBounds k (.string (qs q))=qu9 r v (k+1):=by
 subst hq
 match k,h with
 | 0,_=>rfl
 | 1,_=>rfl
 | 2,_=>rfl
theorem Fm{v:V3}{k:Nat}(h:k<3):(#[.string (qs v.x),.string (qs v.y),.string (qs v.z)]:Array Value)[k]?=some (.string (qs (sH v k))):=by
 match k,h with
 | 0,_=>rfl
 | 1,_=>rfl
 | 2,_=>rfl
theorem VB.at{n:Nat}{v:V3}(h:VB n v)(k:Nat):QB n (sH v k):=by
 unfold sH;split
 ·exact h.x
 ·split
  ·exact h.y
  ·exact h.z
theorem Fs(w:World)(b:Nat):(Instr.indexAt 161 (.pointer (some ⟨b,0,none⟩)) (.int .i64 0)).run prog w = .ok (.pointer (some ⟨b,0,none⟩)) w:=ag
theorem Fq(w:World)(b:Nat):(Instr.indexAt 161 (.pointer (some ⟨b,0,none⟩)) (.int .i64 1)).run prog w = .ok (.pointer (some ⟨b,1,none⟩)) w:=ag
theorem Fp(w:World)(b:Nat):(Instr.indexAt 161 (.pointer (some ⟨b,0,none⟩)) (.int .i64 2)).run prog w = .ok (.pointer (some ⟨b,2,none⟩)) w:=ag
theorem J9(w:World)(b k:Nat)(h:k<3):(Instr.indexAt 161 (.pointer (some ⟨b,0,none⟩)) (.int .i64 (k:Int))).run prog w = .ok (.pointer (some ⟨b,k,none⟩)) w:=by
 have e:k=0∨k=1∨k=2:=ae;rcases e with rfl|rfl|rfl
 ·exact Fs w b
 ·exact Fq w b
 ·exact Fp w b
theorem NP(x:T3)(w:World):Calls prog 227 #[tv x] w fun e w'=>e = .returned (tv x)/\w'=(w.alloc (.cells #[.string x.x,.string x.y,.string x.z] 67)).alloc (.cells #[.string x.x,.string x.y,.string x.z] 161):=by
 go_enter func227,ntmps227;go_wp2;refine bodyPost_ret (v:=tv x) (by simp[results,results227,go_sem]) rfl ⟨rfl,rfl⟩
theorem Ip(v:V3)(w:World):Calls prog 103 #[vv v] w (aZ w (.bool (decide (v.x=0/\v.y=0/\v.z=0)))):=by
 by_cases hx:v.x=0
 ·by_cases hy:v.y=0
  ·by_cases hz:v.z=0
   ·have h1:=eR hx;have h2:=eR hy;have h3:=eR hz;have H:Hid (decide (v.x=0/\v.y=0/\v.z=0)=true):=ai (by simp[hx,hy,hz]);clear hx hy hz;go_enter func103,ntmps103;go_wp2;go_ret;exact⟨by rw[H.o];rfl,(Ext.refl _).alloc _⟩
   ·have h1:=eR hx;have h2:=eR hy;have h3:=cu hz;have H:Hid (decide (v.x=0/\v.y=0/\v.z=0)=false):=ai (by simp[hz]);clear hx hy hz;go_enter func103,ntmps103;go_wp2;go_ret;exact⟨by rw[H.o];rfl,(Ext.refl _).alloc _⟩
  ·have h1:=eR hx;have h2:=cu hy;have H:Hid (decide (v.x=0/\v.y=0/\v.z=0)=false):=ai (by simp[hy]);clear hx hy;go_enter func103,ntmps103;go_wp2;go_ret;exact⟨by rw[H.o];rfl,(Ext.refl _).alloc _⟩
 ·have h1:=cu hx;have H:Hid (decide (v.x=0/\v.y=0/\v.z=0)=false):=ai (by simp[hx]);clear hx;go_enter func103,ntmps103;go_wp2;go_ret;exact⟨by rw[H.o];rfl,(Ext.refl _).alloc _⟩
theorem VB.mono{k m:Nat}{v:V3}(h:VB k v)(hk:k<=m):VB m v:=⟨h.x.mono hk,h.y.mono hk,h.z.mono hk⟩
theorem PB.mono{k m:Nat}{v:P2}(h:PB k v)(hk:k<=m):PB m v:=⟨h.x.mono hk,h.y.mono hk⟩
theorem VB.ts{v:V3}(h:VB 200 v):TS ⟨qs v.x,qs v.y,qs v.z⟩:=⟨h.x.len af,h.y.len af,h.z.len af⟩
theorem PB.ts{p:P2}(h:PB 200 p):Vl ⟨qs p.x,qs p.y⟩:=⟨h.x.len af,h.y.len af⟩
theorem VB.all{v:V3}(h:VB 200 v):(T3.l ⟨qs v.x,qs v.y,qs v.z⟩).all rq=true:=by simp[T3.l,gU h.x,gU h.y,gU h.z]
theorem PB.all{p:P2}(h:PB 200 p):(T2.l ⟨qs p.x,qs p.y⟩).all rq=true:=by simp[T2.l,gU h.x,gU h.y]
theorem Fk(a:T3)(kb:Nat)(w:World)(g:Gd w)(ha:TS a)(hB:ay w kb #[.string a.x,.string a.y,.string a.z] 67):Calls prog 95 #[.slice (some ⟨kb,0,none⟩) 1 1] w (aZ w (.int .i64 (zY [a]))) :=
 yF [a] kb 1 1 w g rfl af (fun i hi=>match i,hi with|0,_=>ha) hB.lt (fun i hi=>match i,hi with|0,_=>⟨hB.cell 0 rfl,hB.cell 1 rfl,hB.cell 2 rfl⟩)
theorem tz(a:V3)(kb:Nat)(w:World)(g:Gd w)(ha:VB 200 a)(hB:ay w kb #[.string (qs a.x),.string (qs a.y),.string (qs a.z)] 67):Calls prog 95 #[.slice (some ⟨kb,0,none⟩) 1 1] w (aZ w (.int .i64 0)):=by
 have:=Fk ⟨qs a.x,qs a.y,qs a.z⟩ kb w g ha.ts hB;rwa[show zY [⟨qs a.x,qs a.y,qs a.z⟩]=0 by unfold zY;simp only[List.all_cons,List.all_nil,ha.all];rfl] at this
theorem Fj(a b:T3)(kb:Nat)(w:World)(g:Gd w)(ha:TS a)(hb:TS b)(hB:ay w kb #[.string a.x,.string a.y,.string a.z,.string b.x,.string b.y,.string b.z] 67):Calls prog 95 #[.slice (some ⟨kb,0,none⟩) 2 2] w (aZ w (.int .i64 (zY [a,b]))) :=
 yF [a,b] kb 2 2 w g rfl af (fun i hi=>match i,hi with|0,_=>ha|1,_=>hb) hB.lt (fun i hi=>match i,hi with|0,_=>⟨hB.cell 0 rfl,hB.cell 1 rfl,hB.cell 2 rfl⟩|1,_=>⟨hB.cell 3 rfl,hB.cell 4 rfl,hB.cell 5 rfl⟩)
theorem Cq(a b:V3)(kb:Nat)(w:World)(g:Gd w)(ha:VB 200 a)(hb:VB 200 b)(hB:ay w kb #[.string (qs a.x),.string (qs a.y),.string (qs a.z),.string (qs b.x),.string (qs b.y),.string (qs b.z)] 67):Calls prog 95 #[.slice (some ⟨kb,0,none⟩) 2 2] w (aZ w (.int .i64 0)):=by
 have:=Fj ⟨qs a.x,qs a.y,qs a.z⟩ ⟨qs b.x,qs b.y,qs b.z⟩ kb w g ha.ts hb.ts hB;rwa[show zY [⟨qs a.x,qs a.y,qs a.z⟩,⟨qs b.x,qs b.y,qs b.z⟩]=0 by unfold zY;simp only[List.all_cons,List.all_nil,ha.all,hb.all];rfl] at this
theorem Kz(a b c:T2)(kb:Nat)(w:World)(g:Gd w)(ha:Vl a)(hb:Vl b)(hc:Vl c)(hB:ay w kb #[.string a.x,.string a.y,.string b.x,.string b.y,.string c.x,.string c.y] 58):Calls prog 89 #[.slice (some ⟨kb,0,none⟩) 3 3] w (aZ w (.int .i64 (KA [a,b,c]))) :=
 Nn [a,b,c] kb 3 3 w g rfl af (fun i hi=>match i,hi with|0,_=>ha|1,_=>hb|2,_=>hc) hB.lt (fun i hi=>match i,hi with|0,_=>⟨hB.cell 0 rfl,hB.cell 1 rfl⟩|1,_=>⟨hB.cell 2 rfl,hB.cell 3 rfl⟩|2,_=>⟨hB.cell 4 rfl,hB.cell 5 rfl⟩)
theorem F5(a b c:P2)(kb:Nat)(w:World)(g:Gd w)(ha:PB 200 a)(hb:PB 200 b)(hc:PB 200 c)(hB:ay w kb #[.string (qs a.x),.string (qs a.y),.string (qs b.x),.string (qs b.y),.string (qs c.x),.string (qs c.y)] 58):Calls prog 89 #[.slice (some ⟨kb,0,none⟩) 3 3] w (aZ w (.int .i64 0)):=by
 have:=Kz ⟨qs a.x,qs a.y⟩ ⟨qs b.x,qs b.y⟩ ⟨qs c.x,qs c.y⟩ kb w g ha.ts hb.ts hc.ts hB;rwa[show KA [⟨qs a.x,qs a.y⟩,⟨qs b.x,qs b.y⟩,⟨qs c.x,qs c.y⟩]=0 by unfold KA;simp only[List.all_cons,List.all_nil,ha.all,hb.all,hc.all];rfl] at this
theorem Ga(a:ByteArray)(kb:Nat)(w:World)(g:Gd w)(ha:a.size<=1000000)(hB:ay w kb #[.string a] 34):Calls prog 96 #[.slice (some ⟨kb,0,none⟩) 1 1] w (aZ w (.int .i64 (fe [a]))) :=
 pj [a] kb 1 1 w g rfl af (fun i hi=>match i,hi with|0,_=>ha) hB.lt (fun i hi=>match i,hi with|0,_=>hB.cell 0 rfl)
theorem Dq(a:Rat)(kb:Nat)(w:World)(g:Gd w)(ha:QB 200 a)(hB:ay w kb #[.string (qs a)] 34):Calls prog 96 #[.slice (some ⟨kb,0,none⟩) 1 1] w (aZ w (.int .i64 0)):=by
 have:=Ga (qs a) kb w g (ha.len af) hB;rwa[show fe [qs a]=0 from vu (by simp only[List.all_cons,List.all_nil,gU ha];rfl)] at this
theorem F9(a b c:ByteArray)(kb:Nat)(w:World)(g:Gd w)(ha:a.size<=1000000)(hb:b.size<=1000000)(hc:c.size<=1000000)(hB:ay w kb #[.string a,.string b,.string c] 34):Calls prog 96 #[.slice (some ⟨kb,0,none⟩) 3 3] w (aZ w (.int .i64 (fe [a,b,c]))) :=
 pj [a,b,c] kb 3 3 w g rfl af (fun i hi=>match i,hi with|0,_=>ha|1,_=>hb|2,_=>hc) hB.lt (fun i hi=>match i,hi with|0,_=>hB.cell 0 rfl|1,_=>hB.cell 1 rfl|2,_=>hB.cell 2 rfl)
theorem WE(b:Rat){k:Nat}(w:World)(g:Gd w)(hb:QB k b)(hk:k<=3000):Calls prog 115 #[.string ⟨#[48]⟩,.string (qs b)] w (aZ w (.string (qs b))):=by
 have:=fU 0 b w g (⟨af,af⟩:QB 1 0) hb af hk;rwa[df,Rat.zero_add] at this
theorem Ab(x y z:Rat)(cb:Nat){k:Nat}{ty:TypeId}(w:World)(g:Gd w)(hx:QB k x)(hy:QB k y)(hz:QB k z)(nq:ay w cb #[.string (qs x),.string (qs y),.string (qs z)] ty)(hk:k<=1490):Calls prog 183 #[.slice (some ⟨cb,0,none⟩) 3 3] w (aZ w (.string (qs (x+y+z)))):=by
 have HG:=ai g;have zE:=ai hx;have Hs:=ai hy;have HZ0:=ai hz;have Q0:=ai nq;clear g hx hy hz nq;go_enter func183,ntmps183;go_wp2_with fail;refine wp_loop_rounds 4 ?_;rw[rounds_succ];have YH:=Q0.o.cell 0 rfl;go_wp2_with fail;refine cto (WE x _ (HG.o.ext (Ext.refl w)) zE.o ae) fun w1 e1=>?_
 have aD:Hid (Ext w w1):=ai ((Ext.refl w).trans e1);have VV:=ai (ay.ext Q0.o e1);clear e1 YH;go_wp2_with fail;rw[rounds_succ];have qhv:=VV.o.cell 1 rfl;go_wp2_with fail;refine cto (fU x y _ (HG.o.ext aD.o) zE.o Hs.o ae ae) fun w2 e2=>?_
 have aM:=ai (aD.o.trans e2);have qee:=ai (ay.ext VV.o e2);clear e2 qhv;go_wp2_with fail;rw[rounds_succ];have qhu:=qee.o.cell 2 rfl;go_wp2_with fail;refine cto (fU (x+y) z _ (HG.o.ext aM.o) (zE.o.add Hs.o) HZ0.o ae ae) fun w3 e3=>?_
 have bA:=ai (aM.o.trans e3);clear e3 qhu;go_wp2_with fail;rw[rounds_succ];go_wp2;go_ret;exact⟨rfl,bA.o⟩
theorem MH(x y q:Rat)(cb:Nat){k m:Nat}(w:World)(g:Gd w)(hx:QB k x)(hq:QB m q)(nq:ay w cb #[.string (qs q)] 34)(hk:k<=3000)(hm:m<=3000):Calls prog 177 #[.string (qs x),.string (qs y),.pointer (some ⟨cb,0,none⟩)] w (aZ w (.string (qs (x*q)))):=by
 have HG:=ai g;have zE:=ai hx;have HQ:=ai hq;have Q0:=ai nq;clear g hx hq nq;go_enter func177,ntmps177;have YH:=Q0.o.cell 0 rfl;go_wp2_with fail;refine cto (de x q _ (HG.o.ext (Ext.refl w)) zE.o HQ.o ae ae) fun w1 e1=>?_
 have aD:Hid (Ext w w1):=ai ((Ext.refl w).trans e1);clear e1 YH;go_wp2;go_ret;exact⟨rfl,aD.o⟩
set_option maxHeartbeats 4000000 in
theorem G2(a b:V3)(q:Rat)(cb:Nat){k m n:Nat}(w:World)(g:Gd w)(ha:VB k a)(hb:VB m b)(hq:QB n q)(nq:ay w cb #[.string (qs q)] 34)(hk:k<=3000)(hn:n<=3000):Calls prog 176 #[vv a,vv b,.func (.func 177) #[] #[.pointer (some ⟨cb,0,none⟩)]] w (aZ w (vv ⟨a.x*q,a.y*q,a.z*q⟩)):=by
 have HG:=ai g;have HA:=ai ha;have HB:=ai hb;have HQ:=ai hq;have Q0:=ai nq;clear g ha hb hq nq;obtain⟨r,hr⟩:∃ r:V3,r=⟨a.x*q,a.y*q,a.z*q⟩:=⟨_,rfl⟩
 have AX:∀ k:Nat,(sH a k)*q=sH r k:=by intro k;rw[hr];unfold sH;split <;> (try split) <;> rfl
 have yD:=ai AX;have iI:=ai hr;rw[show(⟨a.x*q,a.y*q,a.z*q⟩:V3)=r from hr.symm];clear AX hr;go_enter func176,ntmps176;go_wp2_with fail;refine aB (fun W=>Ext w W/\ay W w.heap.size #[.string (qs a.x),.string (qs a.y),.string (qs a.z)] 67/\ay W (w.heap.size+1) #[.string (qs b.x),.string (qs b.y),.string (qs b.z)] 67/\ay W (w.heap.size+1+1) #[.string ⟨#[]⟩,.string ⟨#[]⟩,.string ⟨#[]⟩] 161) ⟨(((Ext.refl _).alloc _).alloc _).alloc _,((ay.Gb rfl).alloc _).alloc _,(ay.Gb (by first|rfl|simp)).alloc _,ay.Gb (by first|rfl|simp)⟩ ?_;rintro W ⟨ew,b0,b1,b2⟩;have HC:=ai (And.intro (b0.cell 0 rfl) (And.intro (b0.cell 1 rfl) (And.intro (b0.cell 2 rfl) (And.intro (b1.cell 0 rfl) (And.intro (b1.cell 1 rfl) (b1.cell 2 rfl))))));have pV:=ai ew;have HB2:=ai b2;clear b0 b1 b2 ew;go_cut [7,8] from 10 to 13 (fun p q wx=>∃ i j:Nat,p = .pointer (some ⟨i,0,none⟩)/\q = .pointer (some ⟨j,0,none⟩)/\i≠j/\W.heap.size<=i/\W.heap.size<=j/\Ext W wx/\ay wx i #[.string (qs a.x),.string (qs a.y),.string (qs a.z)] 161/\ay wx j #[.string (qs b.x),.string (qs b.y),.string (qs b.z)] 161)
 case first =>
  go_region_held3 (fun w'=>w'.cell? ⟨w.heap.size,0,none⟩=some (.string (qs a.x))/\w'.cell? ⟨w.heap.size,1,none⟩=some (.string (qs a.y))/\w'.cell? ⟨w.heap.size,2,none⟩=some (.string (qs a.z))/\w'.cell? ⟨w.heap.size+1,0,none⟩=some (.string (qs b.x))/\w'.cell? ⟨w.heap.size+1,1,none⟩=some (.string (qs b.y))/\w'.cell? ⟨w.heap.size+1,2,none⟩=some (.string (qs b.z)))
   (exact AM (by repeat (first|exact Ext.refl _|apply Ext.drew|apply Ext.alloc|(refine Ext.setCell ?_ (by simp) _))) HC.o) (first
   | (go_at_call 227;((with_reducible refine(NP ⟨qs a.x,qs a.y,qs a.z⟩ _).mono ?_);rintro e w' ⟨rfl,rfl⟩))
   | (go_at_call 227;refine(NP ⟨qs b.x,qs b.y,qs b.z⟩ _).mono ?_;rintro e w' ⟨rfl,rfl⟩))
  all_goals (go_wp2;go_meet)
  all_goals (refine⟨_,_,rfl,rfl,ae,ae,ae,by(repeat (first|exact Ext.refl _|apply Ext.drew|apply Ext.alloc|(refine Ext.setCell ?_ (by simp) _))),?_,?_⟩)
  all_goals (repeat (first|(refine ay.Gb ?_;first|rfl|(simp only[World.size_alloc];done)|(simp only[World.size_alloc];omega))|apply ay.alloc|apply ay.drew))
 case rest =>
  obtain⟨i,j,rfl,rfl,Gz,hi,hj,hx,B1,B2⟩:=hcut;have HIJ:=ai Gz;have HI:=ai hi;have HJ:=ai hj;have H1:=ai B1;have H2:=ai B2;have HX:=ai hx;clear B1 B2 hx Gz hi hj;go_wp2_with fail;go_loopw [14] (fun x wx=>∃ k:Nat,x = .int .i64 k/\k<=3/\Hid (Ext W wx/\ay wx i (qu9 r a k) 161/\ay wx j #[.string (qs b.x),.string (qs b.y),.string (qs b.z)] 161)) (fun x _=>3-(intOf x).toNat)
  case atStart=>exact⟨0,rfl,ae,ai ⟨HX.o,by rw[Rg];exact H1.o,H2.o⟩⟩
  case round =>
   rename_i wx;obtain⟨k,rfl,hk,HH⟩:=hrel;by_cases Ok:k<3
   ·have hix:∀ (w:World) (b:Nat),(Instr.indexAt 161 (.pointer (some ⟨b,0,none⟩)) (.int .i64 (k:Int))).run prog w = .ok (.pointer (some ⟨b,k,none⟩)) w:=fun w b=>J9 w b k Ok
    have c0:=HH.o.2.1.drew.cell k (Cs Ok);have k0:=HH.o.2.2.drew.cell k (Fm Ok);go_upto_region 5 with fail
    go_region_with (first
     | (go_at_call 177;refine cto (MH (sH a k) (sH b k) q cb _ (HG.o.ext (pV.o.trans HH.o.1.drew)) (HA.o.at k) HQ.o (Q0.o.ext (pV.o.trans HH.o.1.drew)) ae ae) fun w1 e0=>?_;have R:=HH.o.2.1.drew.ext e0;have d0:=R.cell k (Cs Ok);have f0:=R.free k;have HR:=ai R;clear R))
    all_goals
     have HN:Hid (Ext W (w1.setCell ⟨i,k,none⟩ (.string (qs ((sH a k)*q))))/\ay (w1.setCell ⟨i,k,none⟩ (.string (qs ((sH a k)*q)))) i (qu9 r a (k+1)) 161/\ay (w1.setCell ⟨i,k,none⟩ (.string (qs ((sH a k)*q)))) j #[.string (qs b.x),.string (qs b.y),.string (qs b.z)] 161) :=
      ai ⟨(HH.o.1.drew.trans e0).setCell (p:=⟨i,k,none⟩) HI.o _,by rw[← J7 Ok (yD.o k)];exact HR.o.set k _,(HH.o.2.2.drew.ext e0).other (a:=⟨i,k,none⟩) _ (fun h=>HIJ.o h.symm)⟩
     clear c0 d0 f0 k0 HR;go_wp2_with fail;go_roundw
     case rel=>exact⟨k+1,by go_num,ae,HN⟩
     case measure=>simp[intOf];omega
   ·obtain rfl:k=3:=ae;have h3:=HH.o.2.1;rw[Rf] at h3;have c0:=h3.cell 0 rfl;have c1:=h3.cell 1 rfl;have c2:=h3.cell 2 rfl;have RR:=HB2.o.ext HH.o.1;have r0:=RR.cell 0 rfl;have r1:=RR.cell 1 rfl;have r2:=RR.cell 2 rfl;have q0:=RR.free 0;have q1:=RR.free 1;have q2:=RR.free 2;have JD:=ai RR;clear RR h3 Ok;go_wp2;refine aB (fun W'=>Ext w W'/\ay W' (w.heap.size+1+1) #[.string (qs r.x),.string (qs r.y),.string (qs r.z)] 161) ⟨((((pV.o.trans HH.o.1).setCell (by simp only[];omega) _).setCell (by simp only[];omega) _).setCell (by simp only[];omega) _),((JD.o.set 0 _).set 1 _).set 2 _⟩ ?_;clear c0 c1 c2 r0 r1 r2 q0 q1 q2;rintro W' ⟨ex,R3⟩;have g0:=R3.cell 0 rfl;have g1:=R3.cell 1 rfl;have g2:=R3.cell 2 rfl;refine bodyPost_ret (v:=.agg #[.string (qs r.x),.string (qs r.y),.string (qs r.z)]) (by simp[results,results176,go_sem,g0,g1,g2]) rfl ⟨rfl,ex⟩
theorem Q6(v:V3)(w:World)(h:¬ (v.x=0/\v.y=0/\v.z=0)):Calls prog 103 #[vv v] w (aZ w (.bool false)):=by
 have:=Ip v w;rwa[decide_eq_false h] at this
def z3(x y z:Rat):Bool:=decide (x=0/\y=0/\z=0)
theorem Q7(x y z:Rat)(w:World):Calls prog 103 #[.agg #[.string (qs x),.string (qs y),.string (qs z)]] w (aZ w (.bool (z3 x y z))):=Ip ⟨x,y,z⟩ w
theorem re(a b c d:Rat){k m n o:Nat}(w:World)(g:Gd w)(ha:QB k a)(hb:QB m b)(hc:QB n c)(hd:QB o d)(hk:k<=1400)(hm:m<=1400)(hn:n<=1400)(ho:o<=1400):Calls prog 172 #[.string (qs a),.string (qs b),.string (qs c),.string (qs d)] w (aZ w (.string (qs (a*d-b*c)))):=by
 have HA:=ai ha;have HB:=ai hb;have HC:=ai hc;have HD:=ai hd;have HG:=ai g;clear ha hb hc hd g;go_enter func172,ntmps172;go_wp2_with fail;refine cto (de a d _ (HG.o.ext (Ext.refl w)) HA.o HD.o ae ae) fun w1 e1=>?_
 have aD:Hid (Ext w w1):=ai ((Ext.refl w).trans e1);clear e1;go_wp2_with fail;refine cto (de b c _ (HG.o.ext aD.o) HB.o HC.o ae ae) fun w2 e2=>?_
 have aM:=ai (aD.o.trans e2);clear e2;go_wp2_with fail;refine cto (mN (a*d) (b*c) _ (HG.o.ext aM.o) (HA.o.mul HD.o) (HB.o.mul HC.o) ae ae) fun w3 e3=>?_
 have bA:=ai (aM.o.trans e3);clear e3;go_wp2;go_ret;exact⟨rfl,bA.o⟩
theorem J5(a b:V3){k m:Nat}(w:World)(g:Gd w)(ha:VB k a)(hb:VB m b)(hk:k<=900)(hm:m<=900):Calls prog 104 #[.agg #[.string (qs a.x),.string (qs a.y),.string (qs a.z)],.agg #[.string (qs b.x),.string (qs b.y),.string (qs b.z)]] w (aZ w (.agg #[.string (qs (a.y*b.z-a.z*b.y)),.string (qs (a.z*b.x-a.x*b.z)),.string (qs (a.x*b.y-a.y*b.x))])):=by
 have HA:=ai ha;have HB:=ai hb;have HG:=ai g;clear ha hb g;go_enter func104,ntmps104;go_wp2_with fail;refine aB (fun W=>Ext w W/\ay W (w.heap.size) #[.string (qs a.x),.string (qs a.y),.string (qs a.z)] 67/\ay W (w.heap.size+1) #[.string (qs b.x),.string (qs b.y),.string (qs b.z)] 67/\ay W (w.heap.size+1+1) #[.string ⟨#[]⟩,.string ⟨#[]⟩,.string ⟨#[]⟩] 67) ⟨((((Ext.refl w).alloc _).alloc _).alloc _),(((ay.nw (#[.string (qs a.x),.string (qs a.y),.string (qs a.z)]) 67).alloc _).alloc _),((ay.nw (#[.string (qs b.x),.string (qs b.y),.string (qs b.z)]) 67).alloc _),(ay.nw (#[.string ⟨#[]⟩,.string ⟨#[]⟩,.string ⟨#[]⟩]) 67)⟩ ?_;rintro w1 ⟨e1,a7,eI,lG⟩;have aD:=ai e1;have ax:=ai a7;have aX:=ai eI;have gq:=ai lG;have aF:Hid (w.heap.size<=w.heap.size):=ai ah;have aS:Hid (w.heap.size<=w.heap.size+1):=ai ah;have fF:Hid (w.heap.size<=w.heap.size+1+1):=ai ah;clear e1 a7 eI lG;have lA:w1.cell? ⟨w.heap.size,1,none⟩=some (.string (qs a.y))/\w1.cell? ⟨w.heap.size,2,none⟩=some (.string (qs a.z))/\w1.cell? ⟨w.heap.size+1,1,none⟩=some (.string (qs b.y))/\w1.cell? ⟨w.heap.size+1,2,none⟩=some (.string (qs b.z))/\w1.cell? ⟨w.heap.size,0,none⟩=some (.string (qs a.x))/\w1.cell? ⟨w.heap.size+1,0,none⟩=some (.string (qs b.x)):=⟨ax.o.cell 1 rfl,ax.o.cell 2 rfl,aX.o.cell 1 rfl,aX.o.cell 2 rfl,ax.o.cell 0 rfl,aX.o.cell 0 rfl⟩
 have HS1:=ai lA;clear lA;go_region_held3 (fun w'=>w'.cell? ⟨w.heap.size,1,none⟩=some (.string (qs a.y))/\w'.cell? ⟨w.heap.size,2,none⟩=some (.string (qs a.z))/\w'.cell? ⟨w.heap.size+1,1,none⟩=some (.string (qs b.y))/\w'.cell? ⟨w.heap.size+1,2,none⟩=some (.string (qs b.z))/\w'.cell? ⟨w.heap.size,0,none⟩=some (.string (qs a.x))/\w'.cell? ⟨w.heap.size+1,0,none⟩=some (.string (qs b.x)))
  (((try simp only[oI (show w.heap.size≠w.heap.size+1+1 from ah),oI (show w.heap.size+1≠w.heap.size+1+1 from ah)]);exact AM (by repeat (first|assumption|exact Ext.refl _|apply Ext.drew|apply Ext.alloc|(refine Ext.setCell ?_ ah _)|(refine Ext.trans ?_ (by assumption)))) HS1.o)) ((first
   | (go_at_call 172;((with_reducible refine(re a.y a.z b.y b.z _ (HG.o.ext (aD.o.trans (by repeat (first|assumption|exact Ext.refl _|apply Ext.drew|apply Ext.alloc|(refine Ext.setCell ?_ ah _)|(refine Ext.trans ?_ (by assumption)))))) HA.o.y HA.o.z HB.o.y HB.o.z ae ae ae ae).mono ?_);rintro e w2 ⟨rfl,e2⟩))
   | (go_at_call 172;((with_reducible refine(re a.z a.x b.z b.x _ (HG.o.ext (aD.o.trans (by repeat (first|assumption|exact Ext.refl _|apply Ext.drew|apply Ext.alloc|(refine Ext.setCell ?_ ah _)|(refine Ext.trans ?_ (by assumption)))))) HA.o.z HA.o.x HB.o.z HB.o.x ae ae ae ae).mono ?_);rintro e w3 ⟨rfl,e3⟩))
   | (go_at_call 172;((with_reducible refine(re a.x a.y b.x b.y _ (HG.o.ext (aD.o.trans (by repeat (first|assumption|exact Ext.refl _|apply Ext.drew|apply Ext.alloc|(refine Ext.setCell ?_ ah _)|(refine Ext.trans ?_ (by assumption)))))) HA.o.x HA.o.y HB.o.x HB.o.y ae ae ae ae).mono ?_);rintro e w4 ⟨rfl,e4⟩;have Vo:=ay.ext gq.o (w':=w4) (by repeat (first|assumption|exact Ext.refl _|apply Ext.drew|(refine Ext.trans ?_ (by assumption))));have qcG:=Vo.cell 0 rfl;have qcf:=Vo.free 0;have qcF:=Vo.cell 1 rfl;have qce:=Vo.free 1;have qcE:=Vo.cell 2 rfl;have qcd:=Vo.free 2;have qn5:=ai Vo;clear Vo))))
 refine aB (fun W=>Ext w W/\ay W (w.heap.size+1+1) #[.string (qs (a.y*b.z-a.z*b.y)),.string (qs (a.z*b.x-a.x*b.z)),.string (qs (a.x*b.y-a.y*b.x))] 67) ⟨((((aD.o.trans ((((Ext.refl _).drew.trans e2).trans e3).trans e4)).setCell (by have:=fF.o;first|omega|(simp only[];omega)|(simp;omega)) _).setCell (by have:=fF.o;first|omega|(simp only[];omega)|(simp;omega)) _).setCell (by have:=fF.o;first|omega|(simp only[];omega)|(simp;omega)) _),((((ay.ext gq.o ((((Ext.refl _).drew.trans e2).trans e3).trans e4)).set 0 (.string (qs (a.y*b.z-a.z*b.y)))).set 1 (.string (qs (a.z*b.x-a.x*b.z)))).set 2 (.string (qs (a.x*b.y-a.y*b.x))))⟩ ?_;clear qcG qcf qcF qce qcE qcd;rintro w5 ⟨e5,lE⟩;have cX:=ai e5;have ic:=ai lE;clear e5 lE;go_wp2_with fail;have DQ:=ic.o.cell 0 rfl;have DP:=ic.o.cell 1 rfl;have DO:=ic.o.cell 2 rfl;refine bodyPost_ret (v:=.agg #[.string (qs (a.y*b.z-a.z*b.y)),.string (qs (a.z*b.x-a.x*b.z)),.string (qs (a.x*b.y-a.y*b.x))]) (by simp[results,results104,go_sem,DQ,DP,DO]) rfl ⟨rfl,cX.o⟩
theorem Mf(a b c:P2){k m n:Nat}(w:World)(g:Gd w)(ha:PB k a)(hb:PB m b)(hc:PB n c)(hk:k<=600)(hm:m<=600)(hn:n<=600):Calls prog 90 #[.agg #[.string (qs a.x),.string (qs a.y)],.agg #[.string (qs b.x),.string (qs b.y)],.agg #[.string (qs c.x),.string (qs c.y)]] w (aZ w (.string (qs ((b.x-a.x)*(c.y-a.y)-(b.y-a.y)*(c.x-a.x))))):=by
 have HA:=ai ha;have HB:=ai hb;have HC:=ai hc;have HG:=ai g;clear ha hb hc g;go_enter func90,ntmps90;go_wp2_with fail;refine aB (fun W=>Ext w W/\ay W (w.heap.size) #[.string (qs a.x),.string (qs a.y)] 58/\ay W (w.heap.size+1) #[.string (qs b.x),.string (qs b.y)] 58/\ay W (w.heap.size+1+1) #[.string (qs c.x),.string (qs c.y)] 58) ⟨((((Ext.refl w).alloc _).alloc _).alloc _),(((ay.nw (#[.string (qs a.x),.string (qs a.y)]) 58).alloc _).alloc _),((ay.nw (#[.string (qs b.x),.string (qs b.y)]) 58).alloc _),(ay.nw (#[.string (qs c.x),.string (qs c.y)]) 58)⟩ ?_;rintro w1 ⟨e1,a7,eI,lG⟩;have aD:=ai e1;have ax:=ai a7;have aX:=ai eI;have gq:=ai lG;have aF:Hid (w.heap.size<=w.heap.size):=ai ah;have aS:Hid (w.heap.size<=w.heap.size+1):=ai ah;have fF:Hid (w.heap.size<=w.heap.size+1+1):=ai ah;clear e1 a7 eI lG;have lA:w1.cell? ⟨w.heap.size+1,0,none⟩=some (.string (qs b.x))/\w1.cell? ⟨w.heap.size,0,none⟩=some (.string (qs a.x))/\w1.cell? ⟨w.heap.size+1,1,none⟩=some (.string (qs b.y))/\w1.cell? ⟨w.heap.size,1,none⟩=some (.string (qs a.y))/\w1.cell? ⟨w.heap.size+1+1,0,none⟩=some (.string (qs c.x))/\w1.cell? ⟨w.heap.size+1+1,1,none⟩=some (.string (qs c.y)):=⟨aX.o.cell 0 rfl,ax.o.cell 0 rfl,aX.o.cell 1 rfl,ax.o.cell 1 rfl,gq.o.cell 0 rfl,gq.o.cell 1 rfl⟩
 have HS1:=ai lA;clear lA;go_region_held3 (fun w'=>w'.cell? ⟨w.heap.size+1,0,none⟩=some (.string (qs b.x))/\w'.cell? ⟨w.heap.size,0,none⟩=some (.string (qs a.x))/\w'.cell? ⟨w.heap.size+1,1,none⟩=some (.string (qs b.y))/\w'.cell? ⟨w.heap.size,1,none⟩=some (.string (qs a.y))/\w'.cell? ⟨w.heap.size+1+1,0,none⟩=some (.string (qs c.x))/\w'.cell? ⟨w.heap.size+1+1,1,none⟩=some (.string (qs c.y)))
  ((exact AM (by repeat (first|assumption|exact Ext.refl _|apply Ext.drew|apply Ext.alloc|(refine Ext.setCell ?_ ah _)|(refine Ext.trans ?_ (by assumption)))) HS1.o)) ((first
   | (go_at_call 117;((with_reducible refine(mN b.x a.x _ (HG.o.ext (aD.o.trans (by repeat (first|assumption|exact Ext.refl _|apply Ext.drew|apply Ext.alloc|(refine Ext.setCell ?_ ah _)|(refine Ext.trans ?_ (by assumption)))))) HB.o.x HA.o.x ae ae).mono ?_);rintro e w2 ⟨rfl,e2⟩))
   | (go_at_call 117;((with_reducible refine(mN b.y a.y _ (HG.o.ext (aD.o.trans (by repeat (first|assumption|exact Ext.refl _|apply Ext.drew|apply Ext.alloc|(refine Ext.setCell ?_ ah _)|(refine Ext.trans ?_ (by assumption)))))) HB.o.y HA.o.y ae ae).mono ?_);rintro e w3 ⟨rfl,e3⟩))
   | (go_at_call 117;((with_reducible refine(mN c.x a.x _ (HG.o.ext (aD.o.trans (by repeat (first|assumption|exact Ext.refl _|apply Ext.drew|apply Ext.alloc|(refine Ext.setCell ?_ ah _)|(refine Ext.trans ?_ (by assumption)))))) HC.o.x HA.o.x ae ae).mono ?_);rintro e w4 ⟨rfl,e4⟩))
   | (go_at_call 117;((with_reducible refine(mN c.y a.y _ (HG.o.ext (aD.o.trans (by repeat (first|assumption|exact Ext.refl _|apply Ext.drew|apply Ext.alloc|(refine Ext.setCell ?_ ah _)|(refine Ext.trans ?_ (by assumption)))))) HC.o.y HA.o.y ae ae).mono ?_);rintro e w5 ⟨rfl,e5⟩))
   | (go_at_call 172;((with_reducible refine(re (b.x-a.x) (b.y-a.y) (c.x-a.x) (c.y-a.y) _ (HG.o.ext (aD.o.trans (by repeat (first|assumption|exact Ext.refl _|apply Ext.drew|apply Ext.alloc|(refine Ext.setCell ?_ ah _)|(refine Ext.trans ?_ (by assumption)))))) (HB.o.x.sub HA.o.x) (HB.o.y.sub HA.o.y) (HC.o.x.sub HA.o.x) (HC.o.y.sub HA.o.y) ae ae ae ae).mono ?_);rintro e w6 ⟨rfl,e6⟩))))
 refine aB (fun W=>Ext w W) (aD.o.trans ((((((Ext.refl _).drew.trans e2).trans e3).trans e4).trans e5).trans e6)) ?_;rintro w7 e7;have ig:=ai e7;clear e7;go_wp2;go_ret;exact⟨rfl,ig.o⟩
theorem sG(a:V3)(q:Rat){k m:Nat}(w:World)(g:Gd w)(ha:VB k a)(hq:QB m q)(hk:k<=3000)(hm:m<=3000):Calls prog 98 #[.agg #[.string (qs a.x),.string (qs a.y),.string (qs a.z)],.string (qs q)] w (aZ w (.agg #[.string (qs (a.x*q)),.string (qs (a.y*q)),.string (qs (a.z*q))])):=by
 have HA:=ai ha;have HQ:=ai hq;have HG:=ai g;clear ha hq g;go_enter func98,ntmps98;go_wp2_with fail;refine cto (G2 a a q (w.heap.size+1) _ (HG.o.ext ((((Ext.refl w).alloc _).alloc _).alloc _)) HA.o HA.o HQ.o ((ay.nw (#[.string (qs q)]) 34).alloc _) ae ae) fun w1 e1=>?_
 have aD:Hid (Ext w w1):=ai (((((Ext.refl w).alloc _).alloc _).alloc _).trans e1);have aX:Hid (ay w1 (w.heap.size+1) #[.string (qs q)] 34):=ai (ay.ext ((ay.nw (#[.string (qs q)]) 34).alloc _) e1);have gq:Hid (ay w1 (w.heap.size+1+1) #[.string ⟨#[]⟩,.string ⟨#[]⟩,.string ⟨#[]⟩] 161):=ai (ay.ext (ay.nw (#[.string ⟨#[]⟩,.string ⟨#[]⟩,.string ⟨#[]⟩]) 161) e1);have aS:Hid (w.heap.size<=w.heap.size+1):=ai ah;have fF:Hid (w.heap.size<=w.heap.size+1+1):=ai ah;clear e1;have lU:=gq.o.cell 0 rfl;have qhg:=gq.o.free 0;have lT:=gq.o.cell 1 rfl;have qhf:=gq.o.free 1;have nA:=gq.o.cell 2 rfl;have qhe:=gq.o.free 2;go_wp2_with fail;refine aB (fun W=>Ext w W/\ay W (w.heap.size+1+1) #[.string (qs (a.x*q)),.string (qs (a.y*q)),.string (qs (a.z*q))] 161) ⟨(((aD.o.setCell (by have:=fF.o;first|omega|(simp only[];omega)|(simp;omega)) _).setCell (by have:=fF.o;first|omega|(simp only[];omega)|(simp;omega)) _).setCell (by have:=fF.o;first|omega|(simp only[];omega)|(simp;omega)) _),(((gq.o.set 0 (.string (qs (a.x*q)))).set 1 (.string (qs (a.y*q)))).set 2 (.string (qs (a.z*q))))⟩ ?_;rintro w2 ⟨e2,Vh⟩;have aM:=ai e2;have iK:=ai Vh;clear e2 Vh lU qhg lT qhf nA qhe;have DQ:=iK.o.cell 0 rfl;have DP:=iK.o.cell 1 rfl;have DO:=iK.o.cell 2 rfl;refine bodyPost_ret (v:=.agg #[.string (qs (a.x*q)),.string (qs (a.y*q)),.string (qs (a.z*q))]) (by simp[results,results98,go_sem,DQ,DP,DO]) rfl ⟨rfl,aM.o⟩
theorem J6(a:V3)(q:Rat)(w:World)(g:Gd w)(ha:VB 200 a)(hq:QB 200 q)(hr:VB 200 ⟨a.x*q,a.y*q,a.z*q⟩):Calls prog 32 #[.agg #[.string (qs a.x),.string (qs a.y),.string (qs a.z)],.string (qs q)] w (aZ w (.tuple #[.agg #[.string (qs (a.x*q)),.string (qs (a.y*q)),.string (qs (a.z*q))],.int .i64 0])):=by
 have HA:=ai ha;have HQ:=ai hq;have HR:=ai hr;have HG:=ai g;clear ha hq hr g;go_enter func32,ntmps32;go_wp2_with fail;refine cto (tz a (w.heap.size+1+1) _ (HG.o.ext ((((Ext.refl w).alloc _).alloc _).alloc _)) (HA.o.mono ae) (ay.nw (#[.string (qs a.x),.string (qs a.y),.string (qs a.z)]) 67)) fun w1 e1=>?_
 have aD:Hid (Ext w w1):=ai (((((Ext.refl w).alloc _).alloc _).alloc _).trans e1);have ax:Hid (ay w1 (w.heap.size) #[.string (qs a.x),.string (qs a.y),.string (qs a.z)] 67):=ai (ay.ext (((ay.nw (#[.string (qs a.x),.string (qs a.y),.string (qs a.z)]) 67).alloc _).alloc _) e1);have aX:Hid (ay w1 (w.heap.size+1) #[.string ⟨#[]⟩,.string ⟨#[]⟩,.string ⟨#[]⟩] 67):=ai (ay.ext ((ay.nw (#[.string ⟨#[]⟩,.string ⟨#[]⟩,.string ⟨#[]⟩]) 67).alloc _) e1);have gq:Hid (ay w1 (w.heap.size+1+1) #[.string (qs a.x),.string (qs a.y),.string (qs a.z)] 67):=ai (ay.ext (ay.nw (#[.string (qs a.x),.string (qs a.y),.string (qs a.z)]) 67) e1);have aF:Hid (w.heap.size<=w.heap.size):=ai ah;have aS:Hid (w.heap.size<=w.heap.size+1):=ai ah;have fF:Hid (w.heap.size<=w.heap.size+1+1):=ai ah;clear e1;go_wp2_with fail;refine cto (Dq q (w1.heap.size) _ (HG.o.ext (aD.o.alloc _)) HQ.o (ay.nw (#[.string (qs q)]) 34)) fun w2 e2=>?_
 have aM:Hid (Ext w w2):=ai ((aD.o.alloc _).trans e2);have az:Hid (ay w2 (w.heap.size) #[.string (qs a.x),.string (qs a.y),.string (qs a.z)] 67):=ai (ay.ext (ax.o.alloc _) e2);have c7:Hid (ay w2 (w.heap.size+1) #[.string ⟨#[]⟩,.string ⟨#[]⟩,.string ⟨#[]⟩] 67):=ai (ay.ext (aX.o.alloc _) e2);have JW:Hid (ay w2 (w1.heap.size) #[.string (qs q)] 34):=ai (ay.ext (ay.nw (#[.string (qs q)]) 34) e2);have lJ:Hid (w.heap.size<=w1.heap.size):=ai (by have:=aD.o.size;first|omega|(simp only[];omega)|(simp;omega));clear e2;have aG:=az.o.cell 0 rfl;have aI:=az.o.cell 1 rfl;have aQ:=az.o.cell 2 rfl;go_wp2_with fail;refine cto (sG a q _ (HG.o.ext aM.o) HA.o HQ.o ae ae) fun w3 e3=>?_
 have bA:=ai (aM.o.trans e3);have br:=ai (ay.ext c7.o e3);clear e3 aG aI aQ;go_wp2_with fail;refine cto (CS (a.x*q) (a.y*q) (a.z*q) _ HR.o.x HR.o.y HR.o.z) fun w4 e4=>?_
 have bO:=ai (bA.o.trans e4);have aW:=ai (ay.ext br.o e4);clear e4;have cH:=aW.o.cell 0 rfl;have ji:=aW.o.free 0;have gp:=aW.o.cell 1 rfl;have oC:=aW.o.free 1;have gK:=aW.o.cell 2 rfl;have nO:=aW.o.free 2;go_wp2_with fail;refine aB (fun W=>Ext w W/\ay W (w.heap.size+1) #[.string (qs (a.x*q)),.string (qs (a.y*q)),.string (qs (a.z*q))] 67) ⟨(((bO.o.setCell (by have:=aS.o;first|omega|(simp only[];omega)|(simp;omega)) _).setCell (by have:=aS.o;first|omega|(simp only[];omega)|(simp;omega)) _).setCell (by have:=aS.o;first|omega|(simp only[];omega)|(simp;omega)) _),(((aW.o.set 0 (.string (qs (a.x*q)))).set 1 (.string (qs (a.y*q)))).set 2 (.string (qs (a.z*q))))⟩ ?_;rintro w5 ⟨e5,fP⟩;have cX:=ai e5;have bI:=ai fP;clear e5 fP cH ji gp oC gK nO;have eg:=bI.o.cell 0 rfl;have fB:=bI.o.cell 1 rfl;have fA:=bI.o.cell 2 rfl;refine bodyPost_ret (v:=.tuple #[.agg #[.string (qs (a.x*q)),.string (qs (a.y*q)),.string (qs (a.z*q))],.int .i64 0]) (by simp[results,results32,go_sem,eg,fB,fA]) rfl ⟨rfl,cX.o⟩
theorem zZ(a b:V3)(w:World)(g:Gd w)(ha:VB 200 a)(hb:VB 200 b):Calls prog 35 #[.agg #[.string (qs a.x),.string (qs a.y),.string (qs a.z)],.agg #[.string (qs b.x),.string (qs b.y),.string (qs b.z)]] w (aZ w (.tuple #[.bool (z3 (a.y*b.z-a.z*b.y) (a.z*b.x-a.x*b.z) (a.x*b.y-a.y*b.x)),.int .i64 0])):=by
 have HA:=ai ha;have HB:=ai hb;have HG:=ai g;clear ha hb g;go_enter func35,ntmps35;go_wp2_with fail;refine cto (Cq a b (w.heap.size+1+1) _ (HG.o.ext ((((Ext.refl w).alloc _).alloc _).alloc _)) (HA.o.mono ae) (HB.o.mono ae) (ay.nw (#[.string (qs a.x),.string (qs a.y),.string (qs a.z),.string (qs b.x),.string (qs b.y),.string (qs b.z)]) 67)) fun w1 e1=>?_
 have aD:Hid (Ext w w1):=ai (((((Ext.refl w).alloc _).alloc _).alloc _).trans e1);have ax:Hid (ay w1 (w.heap.size) #[.string (qs a.x),.string (qs a.y),.string (qs a.z)] 67):=ai (ay.ext (((ay.nw (#[.string (qs a.x),.string (qs a.y),.string (qs a.z)]) 67).alloc _).alloc _) e1);have aX:Hid (ay w1 (w.heap.size+1) #[.string (qs b.x),.string (qs b.y),.string (qs b.z)] 67):=ai (ay.ext ((ay.nw (#[.string (qs b.x),.string (qs b.y),.string (qs b.z)]) 67).alloc _) e1);have gq:Hid (ay w1 (w.heap.size+1+1) #[.string (qs a.x),.string (qs a.y),.string (qs a.z),.string (qs b.x),.string (qs b.y),.string (qs b.z)] 67):=ai (ay.ext (ay.nw (#[.string (qs a.x),.string (qs a.y),.string (qs a.z),.string (qs b.x),.string (qs b.y),.string (qs b.z)]) 67) e1);have aF:Hid (w.heap.size<=w.heap.size):=ai ah;have aS:Hid (w.heap.size<=w.heap.size+1):=ai ah;have fF:Hid (w.heap.size<=w.heap.size+1+1):=ai ah;clear e1;have aG:=ax.o.cell 0 rfl;have aI:=ax.o.cell 1 rfl;have aQ:=ax.o.cell 2 rfl;have cH:=aX.o.cell 0 rfl;have gp:=aX.o.cell 1 rfl;have gK:=aX.o.cell 2 rfl;go_wp2_with fail;refine cto (J5 a b _ (HG.o.ext aD.o) HA.o HB.o ae ae) fun w2 e2=>?_
 have aM:=ai (aD.o.trans e2);clear e2 aG aI aQ cH gp gK;go_wp2_with fail;refine cto (Q7 (a.y*b.z-a.z*b.y) (a.z*b.x-a.x*b.z) (a.x*b.y-a.y*b.x) _) fun w3 e3=>?_
 have bA:=ai (aM.o.trans e3);clear e3;go_wp2;go_ret2;exact⟨rfl,bA.o⟩
theorem Mh(a b c:P2)(w:World)(g:Gd w)(ha:PB 200 a)(hb:PB 200 b)(hc:PB 200 c):Calls prog 28 #[.agg #[.string (qs a.x),.string (qs a.y)],.agg #[.string (qs b.x),.string (qs b.y)],.agg #[.string (qs c.x),.string (qs c.y)]] w (aZ w (.tuple #[.int .i64 (((b.x-a.x)*(c.y-a.y)-(b.y-a.y)*(c.x-a.x)).num.sign),.int .i64 0])):=by
 have HA:=ai ha;have HB:=ai hb;have HC:=ai hc;have HG:=ai g;clear ha hb hc g;go_enter func28,ntmps28;go_wp2_with fail;refine cto (F5 a b c (w.heap.size+1+1+1) _ (HG.o.ext (((((Ext.refl w).alloc _).alloc _).alloc _).alloc _)) (HA.o.mono ae) (HB.o.mono ae) (HC.o.mono ae) (ay.nw (#[.string (qs a.x),.string (qs a.y),.string (qs b.x),.string (qs b.y),.string (qs c.x),.string (qs c.y)]) 58)) fun w1 e1=>?_
 have aD:Hid (Ext w w1):=ai ((((((Ext.refl w).alloc _).alloc _).alloc _).alloc _).trans e1);have ax:Hid (ay w1 (w.heap.size) #[.string (qs a.x),.string (qs a.y)] 58):=ai (ay.ext ((((ay.nw (#[.string (qs a.x),.string (qs a.y)]) 58).alloc _).alloc _).alloc _) e1);have aX:Hid (ay w1 (w.heap.size+1) #[.string (qs b.x),.string (qs b.y)] 58):=ai (ay.ext (((ay.nw (#[.string (qs b.x),.string (qs b.y)]) 58).alloc _).alloc _) e1);have gq:Hid (ay w1 (w.heap.size+1+1) #[.string (qs c.x),.string (qs c.y)] 58):=ai (ay.ext ((ay.nw (#[.string (qs c.x),.string (qs c.y)]) 58).alloc _) e1);have qk8:Hid (ay w1 (w.heap.size+1+1+1) #[.string (qs a.x),.string (qs a.y),.string (qs b.x),.string (qs b.y),.string (qs c.x),.string (qs c.y)] 58):=ai (ay.ext (ay.nw (#[.string (qs a.x),.string (qs a.y),.string (qs b.x),.string (qs b.y),.string (qs c.x),.string (qs c.y)]) 58) e1);have aF:Hid (w.heap.size<=w.heap.size):=ai ah;have aS:Hid (w.heap.size<=w.heap.size+1):=ai ah;have fF:Hid (w.heap.size<=w.heap.size+1+1):=ai ah;have lJ:Hid (w.heap.size<=w.heap.size+1+1+1):=ai ah;clear e1;have aG:=ax.o.cell 0 rfl;have aI:=ax.o.cell 1 rfl;have cH:=aX.o.cell 0 rfl;have gp:=aX.o.cell 1 rfl;have lU:=gq.o.cell 0 rfl;have lT:=gq.o.cell 1 rfl;go_wp2_with fail;refine cto (Mf a b c _ (HG.o.ext aD.o) HA.o HB.o HC.o ae ae ae) fun w2 e2=>?_
 have aM:=ai (aD.o.trans e2);clear e2 aG aI cH gp lU lT;go_wp2_with fail;refine(cr ((b.x-a.x)*(c.y-a.y)-(b.y-a.y)*(c.x-a.x)) _).mono ?_;rintro e _ ⟨rfl,rfl⟩;go_wp2;go_ret2;exact⟨rfl,aM.o⟩
theorem yH(v:V3)(w:World)(g:Gd w)(hv:VB 200 v):Calls prog 101 #[vv v] w (aZ w (.int .i64 0)):=by
 have:=gF ⟨qs v.x,qs v.y,qs v.z⟩ w g hv.ts;rwa[show fe (T3.l ⟨qs v.x,qs v.y,qs v.z⟩)=0 from vu hv.all] at this
theorem qu7(v:P2)(w:World)(g:Gd w)(hv:PB 200 v):Calls prog 111 #[pv v] w (aZ w (.int .i64 0)):=by
 have:=dN ⟨qs v.x,qs v.y⟩ w g hv.ts;rwa[show fe (T2.l ⟨qs v.x,qs v.y⟩)=0 from vu hv.all] at this
theorem QB.KO{k:Nat}{q:Rat}(h:QB k q):IB k q.num:=⟨h.num⟩
theorem QB.qC{k:Nat}{q:Rat}(h:QB k q):IB k (q.den:Int):=⟨by simpa using h.den⟩
theorem IB.zero:IB 1 0:=⟨af⟩
theorem IB.one:IB 1 1:=⟨af⟩
theorem IB.gcd{k m:Nat}{a b:Int}(ha:IB k a)(hb:IB m b):IB (max k m) (Int.gcd a b:Int):=by
 by_cases h:b=0
 ·subst h;have:=ha.mono (Nat.le_max_left k m);exact this.of_le (by simp)
 ·exact(hb.mono (Nat.le_max_right k m)).of_le (by rw[Int.natAbs_natCast];exact Nat.le_of_dvd ae (Int.gcd_dvd_natAbs_right a b))
theorem IB.div{k:Nat}{a:Int}(ha:IB k a)(b:Int):IB k (a / b):=ha.of_le (Int.natAbs_ediv_le_natAbs a b)
theorem qb4(b:Int){m:Nat}(w:World)(g:Gd w)(hb:IB m b)(hm:m<=9000):Calls prog 182 #[.string ⟨#[49]⟩,.string (zs b)] w (aZ w (.string (zs (Int.gcd 1 b:Int)))):=by
 have:=pY 1 b w g IB.one hb af hm;rwa[j3] at this
theorem qb5(b:Int){m:Nat}(w:World)(g:Gd w)(hb:IB m b)(hm:m<=9000):Calls prog 182 #[.string ⟨#[48]⟩,.string (zs b)] w (aZ w (.string (zs (Int.gcd 0 b:Int)))):=by
 have:=pY 0 b w g IB.zero hb af hm;rwa[zO] at this
theorem N5(b:Int){m:Nat}(w:World)(g:Gd w)(hb:IB m b)(hm:m<=9000):Calls prog 88 #[.string ⟨#[49]⟩,.string (zs b)] w (aZ w (.string (zs (1*b)))):=by
 have:=jm 1 b w g IB.one hb af hm;rwa[j3] at this
theorem J0(a:V3)(n:Int){k m:Nat}(w:World)(g:Gd w)(ha:VB k a)(hn:IB m n)(hk:k<=3000)(hm:m<=3000)(h1:1<=m):Calls prog 98 #[vv a,.string (zs n)] w (aZ w (.agg #[.string (qs (a.x*(n:Rat))),.string (qs (a.y*(n:Rat))),.string (qs (a.z*(n:Rat)))])):=by
 have:=sG a (n:Rat) w g ha (QB.int hn h1) hk hm;rwa[qq] at this
theorem qa5 (d:Nat) (hd:d≠0) {m:Nat} (w:World) (g:Gd w) (hdb:IB m (d:Int)) (hm:m<=8000) :
    Calls prog 229 #[.string ⟨#[49]⟩,.string (zs (d:Int))] w (aZ w (.tuple #[.string (qs (mkRat 1 d)),.int .i64 0])):=by
 have:=Ud 1 d hd w g IB.one hdb af hm;rwa[j3] at this
theorem QB.mk1{m:Nat}{d:Nat}(hd:d≠0)(h:IB m (d:Int))(hm:1<=m):QB m (mkRat 1 d):=QB.mk' hd (Nat.one_lt_pow ae af) (by simpa using h.out)
theorem GQ{a b:Int}(h:b≠0):(Int.gcd a b:Int)≠0:=by
 intro e;have e':Int.gcd a b=0:=ae;exact h (Int.gcd_eq_zero_iff.1 e').2
theorem G9(q:Rat):(q.den:Int)≠0:=by have:=q.den_nz;omega
def Ns(v:V3):Int:=(Int.gcd 1 (v.x.den:Int):Int)
def Di(v:V3):Int:=1*((v.x.den:Int) / Ns v)
def Dh(v:V3):Int:=Di v*((v.y.den:Int) / (Int.gcd (Di v) (v.y.den:Int):Int))
def vV(v:V3):Int:=Dh v*((v.z.den:Int) / (Int.gcd (Dh v) (v.z.den:Int):Int))
def Sa(v:V3):Int:=(Int.gcd 0 v.x.num:Int)
def R9(v:V3):Int:=(Int.gcd (Sa v) v.y.num:Int)
def lK(v:V3):Nat:=Int.gcd (R9 v) v.z.num
def aY(v:V3):V3:=⟨v.x*(vV v:Rat),v.y*(vV v:Rat),v.z*(vV v:Rat)⟩
def aV(v:V3):V3:=⟨(aY v).x*mkRat 1 (lK (aY v)),(aY v).y*mkRat 1 (lK (aY v)),(aY v).z*mkRat 1 (lK (aY v))⟩
theorem pg0(v:V3){m:Nat}(w:World)(g:Gd w)(hb:IB m (v.x.den:Int))(hm:m<=9000):Calls prog 182 #[.string ⟨#[49]⟩,.string (zs (v.x.den:Int))] w (aZ w (.string (zs (Ns v)))):=qb4 _ w g hb hm
theorem WS(v:V3):Ns v≠0:=GQ (G9 _)
theorem IB.Ns{k:Nat}{v:V3}(h:VB k v):IB (max 1 k) (Ns v):=IB.one.gcd (QB.qC h.x)
theorem pm1(v:V3){m:Nat}(w:World)(g:Gd w)(hb:IB m ((v.x.den:Int) / Ns v))(hm:m<=9000):Calls prog 88 #[.string ⟨#[49]⟩,.string (zs ((v.x.den:Int) / Ns v))] w (aZ w (.string (zs (Di v)))):=N5 _ w g hb hm
theorem pm2(v:V3){k m:Nat}(w:World)(g:Gd w)(ha:IB k (Di v))(hb:IB m ((v.y.den:Int) / (Int.gcd (Di v) (v.y.den:Int):Int)))(hk:k<=9000)(hm:m<=9000):Calls prog 88 #[.string (zs (Di v)),.string (zs ((v.y.den:Int) / (Int.gcd (Di v) (v.y.den:Int):Int)))] w (aZ w (.string (zs (Dh v)))):=jm _ _ w g ha hb hk hm
theorem pm3(v:V3){k m:Nat}(w:World)(g:Gd w)(ha:IB k (Dh v))(hb:IB m ((v.z.den:Int) / (Int.gcd (Dh v) (v.z.den:Int):Int)))(hk:k<=9000)(hm:m<=9000):Calls prog 88 #[.string (zs (Dh v)),.string (zs ((v.z.den:Int) / (Int.gcd (Dh v) (v.z.den:Int):Int)))] w (aZ w (.string (zs (vV v)))):=jm _ _ w g ha hb hk hm
theorem pg1(v:V3){m:Nat}(w:World)(g:Gd w)(hb:IB m v.x.num)(hm:m<=9000):Calls prog 182 #[.string ⟨#[48]⟩,.string (zs v.x.num)] w (aZ w (.string (zs (Sa v)))):=qb5 _ w g hb hm
theorem pg2(v:V3){k m:Nat}(w:World)(g:Gd w)(ha:IB k (Sa v))(hb:IB m v.y.num)(hk:k<=9000)(hm:m<=9000):Calls prog 182 #[.string (zs (Sa v)),.string (zs v.y.num)] w (aZ w (.string (zs (R9 v)))):=pY _ _ w g ha hb hk hm
theorem pg3(v:V3){k m:Nat}(w:World)(g:Gd w)(ha:IB k (R9 v))(hb:IB m v.z.num)(hk:k<=9000)(hm:m<=9000):Calls prog 182 #[.string (zs (R9 v)),.string (zs v.z.num)] w (aZ w (.string (zs (lK v:Int)))):=pY _ _ w g ha hb hk hm
theorem IB.Di{k:Nat}{v:V3}(h:VB k v):IB (1+k) (Di v):=IB.one.mul ((QB.qC h.x).div _)
theorem IB.Dh{k:Nat}{v:V3}(h:VB k v):IB (1+k+k) (Dh v):=(IB.Di h).mul ((QB.qC h.y).div _)
theorem IB.vV{k:Nat}{v:V3}(h:VB k v):IB (1+k+k+k) (vV v):=(IB.Dh h).mul ((QB.qC h.z).div _)
theorem IB.Sa{k:Nat}{v:V3}(h:VB k v):IB (max 1 k) (Sa v):=IB.zero.gcd (QB.KO h.x)
theorem IB.R9{k:Nat}{v:V3}(h:VB k v):IB (max (max 1 k) k) (R9 v):=(IB.Sa h).gcd (QB.KO h.y)
theorem IB.lK{k:Nat}{v:V3}(h:VB k v):IB (max (max (max 1 k) k) k) (lK v:Int):=(IB.R9 h).gcd (QB.KO h.z)
theorem Q8(a:V3){k:Nat}(w:World)(g:Gd w)(ha:VB k a)(hk:k<=900):Calls prog 98 #[vv a,.string (zs (vV a))] w (aZ w (vv (aY a))) :=
 J0 a (vV a) w g ha (IB.vV ha) ae ae ae
theorem Q9(a:V3){k m:Nat}(w:World)(g:Gd w)(ha:VB k (aY a))(hq:QB m (mkRat 1 (lK (aY a))))(hk:k<=3000)(hm:m<=3000):Calls prog 98 #[vv (aY a),.string (qs (mkRat 1 (lK (aY a))))] w (aZ w (vv (aV a))) :=
 sG (aY a) (mkRat 1 (lK (aY a))) w g ha hq hk hm
set_option maxHeartbeats 16000000 in
theorem qu6(a:V3)(w:World)(g:Gd w)(ha:VB 24 a)(hz:¬ (a.x=0/\a.y=0/\a.z=0))(hw:VB 97 (aY a))(hg0:lK (aY a)≠0)(hr:VB 200 (aV a)):Calls prog 158 #[.agg #[.string (qs a.x),.string (qs a.y),.string (qs a.z)]] w (aZ w (.tuple #[.agg #[.string (qs ((aV a).x)),.string (qs ((aV a).y)),.string (qs ((aV a).z))],.int .i64 0])):=by
 have HA:=ai ha;have HZ:=ai hz;have HW:=ai hw;have TL:=ai hg0;have HR:=ai hr;have HG:=ai g;clear ha hz hw hg0 hr g;have HQG:Hid (QB 97 (mkRat 1 (lK (aY a)))):=ai (QB.mk1 TL.o ((IB.lK HW.o).mono af) af);have ix0:∀ W,(Instr.index 161 (.agg #[.string (qs a.x),.string (qs a.y),.string (qs a.z)]) (.int .i64 0)).run prog W = .ok (.string (qs a.x)) W:=fun W=>ag
 have ix1:∀ W,(Instr.index 161 (.agg #[.string (qs a.x),.string (qs a.y),.string (qs a.z)]) (.int .i64 1)).run prog W = .ok (.string (qs a.y)) W:=fun W=>ag
 have ix2:∀ W,(Instr.index 161 (.agg #[.string (qs a.x),.string (qs a.y),.string (qs a.z)]) (.int .i64 2)).run prog W = .ok (.string (qs a.z)) W:=fun W=>ag
 have ix3:∀ W,(Instr.index 161 (.agg #[.string (qs ((aY a).x)),.string (qs ((aY a).y)),.string (qs ((aY a).z))]) (.int .i64 0)).run prog W = .ok (.string (qs ((aY a).x))) W:=fun W=>ag
 have ix4:∀ W,(Instr.index 161 (.agg #[.string (qs ((aY a).x)),.string (qs ((aY a).y)),.string (qs ((aY a).z))]) (.int .i64 1)).run prog W = .ok (.string (qs ((aY a).y))) W:=fun W=>ag
 have ix5:∀ W,(Instr.index 161 (.agg #[.string (qs ((aY a).x)),.string (qs ((aY a).y)),.string (qs ((aY a).z))]) (.int .i64 2)).run prog W = .ok (.string (qs ((aY a).z))) W:=fun W=>ag
 go_enter func158,ntmps158;go_wp2_with fail;refine cto (tz a (w.heap.size+1+1) _ (HG.o.ext ((((Ext.refl w).alloc _).alloc _).alloc _)) (HA.o.mono ae) (ay.nw (#[.string (qs a.x),.string (qs a.y),.string (qs a.z)]) 67)) fun w1 e1=>?_
 have aD:Hid (Ext w w1):=ai (((((Ext.refl w).alloc _).alloc _).alloc _).trans e1);have ax:Hid (ay w1 (w.heap.size) #[.string (qs a.x),.string (qs a.y),.string (qs a.z)] 67):=ai (ay.ext (((ay.nw (#[.string (qs a.x),.string (qs a.y),.string (qs a.z)]) 67).alloc _).alloc _) e1);have aX:Hid (ay w1 (w.heap.size+1) #[.string ⟨#[]⟩,.string ⟨#[]⟩,.string ⟨#[]⟩] 67):=ai (ay.ext ((ay.nw (#[.string ⟨#[]⟩,.string ⟨#[]⟩,.string ⟨#[]⟩]) 67).alloc _) e1);have gq:Hid (ay w1 (w.heap.size+1+1) #[.string (qs a.x),.string (qs a.y),.string (qs a.z)] 67):=ai (ay.ext (ay.nw (#[.string (qs a.x),.string (qs a.y),.string (qs a.z)]) 67) e1);have aF:Hid (w.heap.size<=w.heap.size):=ai ah;have aS:Hid (w.heap.size<=w.heap.size+1):=ai ah;have fF:Hid (w.heap.size<=w.heap.size+1+1):=ai ah;clear e1;have aG:=ax.o.cell 0 rfl;have aI:=ax.o.cell 1 rfl;have aQ:=ax.o.cell 2 rfl;go_wp2_with fail;refine cto (Q6 a _ HZ.o) fun w2 e2=>?_
 have aM:=ai (aD.o.trans e2);have az:=ai (ay.ext ax.o e2);have c7:=ai (ay.ext aX.o e2);clear e2 aG aI aQ;have aG:=az.o.cell 0 rfl;have aI:=az.o.cell 1 rfl;have aQ:=az.o.cell 2 rfl;go_wp2_with fail;refine cto (Xb ⟨qs a.x,qs a.y,qs a.z⟩ _) fun w3 e3=>?_
 have bA:=ai (aM.o.trans e3);have aA:=ai (ay.ext az.o e3);have br:=ai (ay.ext c7.o e3);clear e3 aG aI aQ;go_wp2_with fail;refine wp_loop_rounds 4 ?_;rw[rounds_succ];go_wp2_with fail;refine cto (dC a.x _ HA.o.x ae) fun w4 e4=>?_
 have bO:=ai (bA.o.trans e4);have aJ:=ai (ay.ext aA.o e4);have aW:=ai (ay.ext br.o e4);clear e4;go_wp2_with fail;refine cto (pg0 a _ (HG.o.ext bO.o) (QB.qC HA.o.x) ae) fun w5 e5=>?_
 have cX:=ai (bO.o.trans e5);have aT:=ai (ay.ext aJ.o e5);have bI:=ai (ay.ext aW.o e5);clear e5;go_wp2_with fail;refine cto (oF (a.x.den:Int) (Ns a) _ (HG.o.ext cX.o) (QB.qC HA.o.x) (IB.Ns HA.o) ae ae (WS a)) fun w6 e6=>?_
 have gd:=ai (cX.o.trans e6);have bC:=ai (ay.ext aT.o e6);have cx:=ai (ay.ext bI.o e6);clear e6;go_wp2_with fail;refine cto (pm1 a _ (HG.o.ext gd.o) (IB.div (QB.qC HA.o.x) (Ns a)) ae) fun w7 e7=>?_
 have ig:=ai (gd.o.trans e7);have cg:=ai (ay.ext bC.o e7);have bj:=ai (ay.ext cx.o e7);clear e7;go_wp2_with fail;rw[rounds_succ];go_wp2_with fail;refine cto (dC a.y _ HA.o.y ae) fun w8 e8=>?_
 have jQ:=ai (ig.o.trans e8);have fR:=ai (ay.ext cg.o e8);have cE:=ai (ay.ext bj.o e8);clear e8;go_wp2_with fail;refine cto (pY (Di a) (a.y.den:Int) _ (HG.o.ext jQ.o) (IB.Di HA.o) (QB.qC HA.o.y) ae ae) fun w9 e9=>?_
 have qM:=ai (jQ.o.trans e9);have tW:=ai (ay.ext fR.o e9);have nL:=ai (ay.ext cE.o e9);clear e9;go_wp2_with fail;refine cto (oF (a.y.den:Int) (Int.gcd (Di a) (a.y.den:Int):Int) _ (HG.o.ext qM.o) (QB.qC HA.o.y) (IB.gcd (IB.Di HA.o) (QB.qC HA.o.y)) ae ae (GQ (G9 _))) fun JZ Bf=>?_
 have ko:=ai (qM.o.trans Bf);have qT:=ai (ay.ext tW.o Bf);have nH:=ai (ay.ext nL.o Bf);clear Bf;go_wp2_with fail;refine cto (pm2 a _ (HG.o.ext ko.o) (IB.Di HA.o) (IB.div (QB.qC HA.o.y) (Int.gcd (Di a) (a.y.den:Int):Int)) ae ae) fun QM tf=>?_
 have sr:=ai (ko.o.trans tf);have jH:=ai (ay.ext qT.o tf);have nG:=ai (ay.ext nH.o tf);clear tf;go_wp2_with fail;rw[rounds_succ];go_wp2_with fail;refine cto (dC a.z _ HA.o.z ae) fun V2 gv=>?_
 have BD:=ai (sr.o.trans gv);have kZ:=ai (ay.ext jH.o gv);have qS:=ai (ay.ext nG.o gv);clear gv;go_wp2_with fail;refine cto (pY (Dh a) (a.z.den:Int) _ (HG.o.ext BD.o) (IB.Dh HA.o) (QB.qC HA.o.z) ae ae) fun w13 yp=>?_
 have PH:=ai (BD.o.trans yp);have Z1:=ai (ay.ext kZ.o yp);have Ie:=ai (ay.ext qS.o yp);clear yp;go_wp2_with fail;refine cto (oF (a.z.den:Int) (Int.gcd (Dh a) (a.z.den:Int):Int) _ (HG.o.ext PH.o) (QB.qC HA.o.z) (IB.gcd (IB.Dh HA.o) (QB.qC HA.o.z)) ae ae (GQ (G9 _))) fun w14 ub=>?_
 have PG:=ai (PH.o.trans ub);have Z0:=ai (ay.ext Z1.o ub);have Ic:=ai (ay.ext Ie.o ub);clear ub;go_wp2_with fail;refine cto (pm3 a _ (HG.o.ext PG.o) (IB.Dh HA.o) (IB.div (QB.qC HA.o.z) (Int.gcd (Dh a) (a.z.den:Int):Int)) ae ae) fun w15 jj=>?_
 have PF:=ai (PG.o.trans jj);have Ii:=ai (ay.ext Z0.o jj);have Ib:=ai (ay.ext Ic.o jj);clear jj;go_wp2_with fail;rw[rounds_succ];have aG:=Ii.o.cell 0 rfl;have aI:=Ii.o.cell 1 rfl;have aQ:=Ii.o.cell 2 rfl;go_wp2_with fail;refine cto (Q8 a _ (HG.o.ext PF.o) HA.o ae) fun Mc zk=>?_
 have LG:=ai (PF.o.trans zk);have Ia:=ai (ay.ext Ib.o zk);clear zk aG aI aQ;go_wp2_with fail;refine wp_loop_rounds 4 ?_;rw[rounds_succ];go_wp2_with fail;refine cto (dC ((aY a).x) _ HW.o.x ae) fun LM k6=>?_
 have PE:Hid (Ext w LM):=ai ((LG.o.alloc _).trans k6);have H7:Hid (ay LM (w.heap.size+1) #[.string ⟨#[]⟩,.string ⟨#[]⟩,.string ⟨#[]⟩] 67):=ai (ay.ext (Ia.o.alloc _) k6);have H5:Hid (ay LM (Mc.heap.size) #[.string (qs ((aY a).x)),.string (qs ((aY a).y)),.string (qs ((aY a).z))] 161):=ai (ay.ext (ay.nw (#[.string (qs ((aY a).x)),.string (qs ((aY a).y)),.string (qs ((aY a).z))]) 161) k6);have lJ:Hid (w.heap.size<=Mc.heap.size):=ai (by have:=LG.o.size;first|omega|(simp only[];omega)|(simp;omega));clear k6;go_wp2_with fail;refine cto (pg1 (aY a) _ (HG.o.ext PE.o) (QB.KO HW.o.x) ae) fun w18 Ym=>?_
 have Y2:=ai (PE.o.trans Ym);have xV:=ai (ay.ext H7.o Ym);have xU:Hid (ay w18 (Mc.heap.size) #[.string (qs ((aY a).x)),.string (qs ((aY a).y)),.string (qs ((aY a).z))] 161):=ai (ay.ext H5.o Ym);clear Ym;go_wp2_with fail;rw[rounds_succ];go_wp2_with fail;refine cto (dC ((aY a).y) _ HW.o.y ae) fun w19 e19=>?_
 have Ty:=ai (Y2.o.trans e19);have ZZ:=ai (ay.ext xV.o e19);have ZO:Hid (ay w19 (Mc.heap.size) #[.string (qs ((aY a).x)),.string (qs ((aY a).y)),.string (qs ((aY a).z))] 161):=ai (ay.ext xU.o e19);clear e19;go_wp2_with fail;refine cto (pg2 (aY a) _ (HG.o.ext Ty.o) (IB.Sa HW.o) (QB.KO HW.o.y) ae ae) fun w20 e20=>?_
 have qhU:=ai (Ty.o.trans e20);have ZY:=ai (ay.ext ZZ.o e20);have ZN:Hid (ay w20 (Mc.heap.size) #[.string (qs ((aY a).x)),.string (qs ((aY a).y)),.string (qs ((aY a).z))] 161):=ai (ay.ext ZO.o e20);clear e20;go_wp2_with fail;rw[rounds_succ];go_wp2_with fail;refine cto (dC ((aY a).z) _ HW.o.z ae) fun w21 e21=>?_
 have qc5:=ai (qhU.o.trans e21);have ZX:=ai (ay.ext ZY.o e21);have ZM:Hid (ay w21 (Mc.heap.size) #[.string (qs ((aY a).x)),.string (qs ((aY a).y)),.string (qs ((aY a).z))] 161):=ai (ay.ext ZN.o e21);clear e21;go_wp2_with fail;refine cto (pg3 (aY a) _ (HG.o.ext qc5.o) (IB.R9 HW.o) (QB.KO HW.o.z) ae ae) fun w22 e22=>?_
 have qc3:=ai (qc5.o.trans e22);have ZW:=ai (ay.ext ZX.o e22);have ZL:Hid (ay w22 (Mc.heap.size) #[.string (qs ((aY a).x)),.string (qs ((aY a).y)),.string (qs ((aY a).z))] 161):=ai (ay.ext ZM.o e22);clear e22;go_wp2_with fail;rw[rounds_succ];go_wp2_with fail;refine cto (qa5 (lK (aY a)) TL.o _ (HG.o.ext qc3.o) (IB.lK HW.o) ae) fun w23 e23=>?_
 have qhT:=ai (qc3.o.trans e23);have ZV:=ai (ay.ext ZW.o e23);have HU:Hid (ay w23 (Mc.heap.size) #[.string (qs ((aY a).x)),.string (qs ((aY a).y)),.string (qs ((aY a).z))] 161):=ai (ay.ext ZL.o e23);clear e23;have oN:=HU.o.cell 0 rfl;have oK:=HU.o.cell 1 rfl;have oJ:=HU.o.cell 2 rfl;go_wp2_with fail;refine cto (Cr ⟨qs ((aY a).x),qs ((aY a).y),qs ((aY a).z)⟩ _) fun w24 e24=>?_
 have qc2:=ai (qhT.o.trans e24);have ZU:=ai (ay.ext ZV.o e24);clear e24 oN oK oJ;go_wp2_with fail;refine cto (Q9 a _ (HG.o.ext qc2.o) HW.o HQG.o ae ae) fun w25 e25=>?_
 have qhS:=ai (qc2.o.trans e25);have ZT:=ai (ay.ext ZU.o e25);clear e25;go_wp2_with fail;refine cto (CS (aV a).x (aV a).y (aV a).z _ HR.o.x HR.o.y HR.o.z) fun w26 e26=>?_
 have qhR:=ai (qhS.o.trans e26);have qR:=ai (ay.ext ZT.o e26);clear e26;have cH:=qR.o.cell 0 rfl;have ji:=qR.o.free 0;have gp:=qR.o.cell 1 rfl;have oC:=qR.o.free 1;have gK:=qR.o.cell 2 rfl;have nO:=qR.o.free 2;go_wp2_with fail;refine aB (fun W=>Ext w W/\ay W (w.heap.size+1) #[.string (qs ((aV a).x)),.string (qs ((aV a).y)),.string (qs ((aV a).z))] 67) ⟨(((qhR.o.setCell (by have:=aS.o;first|omega|(simp only[];omega)|(simp;omega)) _).setCell (by have:=aS.o;first|omega|(simp only[];omega)|(simp;omega)) _).setCell (by have:=aS.o;first|omega|(simp only[];omega)|(simp;omega)) _),(((qR.o.set 0 (.string (qs ((aV a).x)))).set 1 (.string (qs ((aV a).y)))).set 2 (.string (qs ((aV a).z))))⟩ ?_;rintro w27 ⟨e27,Ps⟩;have qhQ:=ai e27;have H6:=ai Ps;clear e27 Ps cH ji gp oC gK nO;have eg:=H6.o.cell 0 rfl;have fB:=H6.o.cell 1 rfl;have fA:=H6.o.cell 2 rfl;refine bodyPost_ret (v:=.tuple #[.agg #[.string (qs ((aV a).x)),.string (qs ((aV a).y)),.string (qs ((aV a).z))],.int .i64 0]) (by simp[results,results158,go_sem,eg,fB,fA]) rfl ⟨rfl,qhQ.o⟩
def sm(n:Int)(d:Nat):Rat:=mkRat n (1+d)
theorem Cy{n:Int}{d:Nat}(h0:-32768<=n)(h1:n<=32767)(h2:d<=255):QB 5 (sm n d):=QB.mk' ae ae ae
structure Pla where
 n0:Int
 d0:Nat
 n1:Int
 d1:Nat
 n2:Int
 d2:Nat
structure JB(p:Pla):Prop where
 a0:-32768<=p.n0
 b0:p.n0<=32767
 c0:p.d0<=255
 a1:-32768<=p.n1
 b1:p.n1<=32767
 c1:p.d1<=255
 a2:-32768<=p.n2
 b2:p.n2<=32767
 c2:p.d2<=255
def qfW(p:Pla):V3:=⟨sm p.n0 p.d0,sm p.n1 p.d1,sm p.n2 p.d2⟩
def ppt(p:Pla):P2:=⟨sm p.n0 p.d0,sm p.n1 p.d1⟩
theorem JB.v{p:Pla}(h:JB p):VB 5 (qfW p):=⟨Cy h.a0 h.b0 h.c0,Cy h.a1 h.b1 h.c1,Cy h.a2 h.b2 h.c2⟩
theorem JB.p{p:Pla}(h:JB p):PB 5 (ppt p):=⟨Cy h.a0 h.b0 h.c0,Cy h.a1 h.b1 h.c1⟩
theorem mS{q:Rat}(h:0<q):q.num.sign=1:=by
 have h1:=(Rat.lt_iff 0 q).1 h;simp at h1;exact Int.sign_eq_one_of_pos h1
structure QD(n d:Nat)(q:Rat):Prop where
 num:q.num.natAbs<10 ^ n
 den:q.den<10 ^ d
theorem QD.qb{n d k:Nat}{q:Rat}(h:QD n d q)(h1:n<=k)(h2:d<=k):QB k q :=
 ⟨Nat.lt_of_lt_of_le h.num (Nat.pow_le_pow_right af h1),Nat.lt_of_lt_of_le h.den (Nat.pow_le_pow_right af h2)⟩
theorem QD.mk'{n d:Nat}{x:Int}{y:Nat}(h0:y≠0)(h1:x.natAbs<10 ^ n)(h2:y<10 ^ d):QD n d (mkRat x y) :=
 ⟨Nat.lt_of_le_of_lt (rI _ _) h1,Nat.lt_of_le_of_lt (rJ _ _ h0) h2⟩
theorem QD.neg{n d:Nat}{a:Rat}(ha:QD n d a):QD n d (-a):=⟨by rw[Rat.neg_num,Int.natAbs_neg];exact ha.num,ha.den⟩
theorem QD.add{n d m e:Nat}{a b:Rat}(ha:QD n d a)(hb:QD m e b):QD (max (n+e) (d+m)+1) (d+e) (a+b):=by
 rw[Rat.add_def'];refine QD.mk' (Nat.mul_ne_zero a.den_nz b.den_nz) ?_ (ee ha.den hb.den);refine Nat.lt_of_le_of_lt (Int.natAbs_add_le _ _) ?_;rw[Int.natAbs_mul,Int.natAbs_mul,Int.natAbs_natCast,Int.natAbs_natCast,Nat.mul_comm b.num.natAbs];exact wk (ee ha.num hb.den) (ee ha.den hb.num)
theorem QD.sub{n d m e:Nat}{a b:Rat}(ha:QD n d a)(hb:QD m e b):QD (max (n+e) (d+m)+1) (d+e) (a-b):=by
 rw[Rat.sub_eq_add_neg];exact ha.add hb.neg
theorem QD.mul{n d m e:Nat}{a b:Rat}(ha:QD n d a)(hb:QD m e b):QD (n+m) (d+e) (a*b):=by
 rw[Rat.mul_def'];exact QD.mk' (Nat.mul_ne_zero a.den_nz b.den_nz) (by rw[Int.natAbs_mul];exact ee ha.num hb.num) (ee ha.den hb.den)
theorem QD.inv{n d:Nat}{a:Rat}(ha:QD n d a)(hn:1<=n):QD d n a⁻¹:=by
 constructor
 ·rw[Rat.num_inv,Int.natAbs_mul,Int.natAbs_natCast];have:a.num.sign.natAbs<=1:=by rw[Int.natAbs_sign];split <;> omega
  exact Nat.lt_of_le_of_lt (Nat.mul_le_mul_right _ this) (by rw[Nat.one_mul];exact ha.den)
 ·rw[Rat.den_inv];split
  ·exact Nat.one_lt_pow ae af
  ·exact ha.num
theorem QD.div{n d m e:Nat}{a b:Rat}(ha:QD n d a)(hb:QD m e b)(hm:1<=m):QD (n+e) (d+m) (a / b):=by
 rw[Rat.div_def];exact ha.mul (hb.inv hm)
structure VD(n d:Nat)(v:V3):Prop where
 x:QD n d v.x
 y:QD n d v.y
 z:QD n d v.z
theorem mT{q:Rat}(h:q<0):q.num.sign=-1:=by
 have h1:=(Rat.lt_iff q 0).1 h;simp at h1;exact Int.sign_eq_neg_one_of_neg h1
theorem Kv(x y:Rat):il x y=(x-y).num.sign:=by
 unfold il;split
 ·rename_i h;rw[mT (by grind)]
 ·split
  ·rename_i h;subst h;rw[show x-x=0 by grind];rfl
  ·rename_i h1 h2;rw[mS (by grind)]
theorem VD.vb{n d k:Nat}{v:V3}(h:VD n d v)(h1:n<=k)(h2:d<=k):VB k v:=⟨h.x.qb h1 h2,h.y.qb h1 h2,h.z.qb h1 h2⟩
def fr(n s:Int):Rat:=mkRat n s.toNat
def eG(a b:V3):Rat:=a.x*b.x+a.y*b.y+a.z*b.z
-- the same for quaternions of ints
theorem eV.Ss{w:World}{ad:Option Addr}{n c N:Nat}(h:eV w (.slice ad n c) N)(h0:0<N)(h1:N<1000000000):n=1:=by
 obtain⟨l,⟨uM,cap,b,off,hv,_⟩,hc,hm⟩:=h;simp only[Value.slice.injEq] at hv;rw[hv.2.1];have c8:l≠[]:=by intro e;subst e;simp[mv] at hm;omega
 have hl:0<l.length:=List.length_pos_iff.2 c8;have hg:=hc.ge c8;rcases Nat.lt_or_ge 1 l.length with e|e
 ·have h2:1000000000 ^ 1<=1000000000 ^ (l.length-1):=Nat.pow_le_pow_right af ae;omega
 ·omega
theorem YE(e:TypeId)(t:Nat):2<=(Question.appendCap 2 1 e).cut t/\(Question.appendCap 2 1 e).cut t<=9223372036854775807:=by
 have h:(Question.appendCap 2 1 e).cut t=2+t % (2 ^ 63-2):=rfl;have:=Nat.mod_lt t (show 0<2 ^ 63-2 by decide);rw[h];omega
theorem r7{n:Nat}(h:n<=1000000000):Fd n:=((⟨af⟩:IB 10 (1000000000:Int)).fit af).mono h
theorem Kr{r x:Nat}(hr:0<r)(hx:r<=x):r<=(x+r*r / x) / 2/\(r<x->(x+r*r / x) / 2<x)/\(r=x->(x+r*r / x) / 2=x):=by
 have hx0:0<x:=ae;obtain⟨d,rfl⟩:∃ d,x=r+d:=⟨x-r,ae⟩
 have k1:d<=r->r-d<=r*r / (r+d):=by
  intro hd;rw[Nat.le_div_iff_mul_le hx0];obtain⟨e,rfl⟩:∃ e,r=d+e:=⟨r-d,ae⟩
  have:(d+e-d)*(d+e+d)+d*d=(d+e)*(d+e):=by rw[Nat.add_sub_cancel_left];grind
  omega
 have k2:r<r+d->r*r / (r+d)<r:=by
  intro h;rw[Nat.div_lt_iff_lt_mul hx0];exact Nat.mul_lt_mul_of_pos_left h hr
 have k3:d=0->r*r / (r+d)=r:=by intro h;subst h;rw[Nat.add_zero,Nat.mul_div_cancel _ hr]
 generalize r*r / (r+d)=q at *;refine⟨?_,?_,?_⟩
 ·rcases Nat.le_total d r with h|h
  ·have:=k1 h;omega
  ·omega
 ·intro h;have:=k2 h;omega
 ·intro h;have:=k3 ae;omega
theorem IZ(r:Nat)(w:World)(g:Gd w)(h0:0<r)(h1:r*r<1000000000):Calls prog 276 #[.string (zs ((r*r:Nat):Int))] w (aZ w (.tuple #[.string (zs (r:Int)),.int .i64 0])):=by
 have hp:0<r*r:=Nat.mul_pos h0 h0;obtain⟨N,hN⟩:∃ N,r*r=N:=⟨_,rfl⟩
 rw[hN] at h1 hp ⊢;have hs:(N:Int).sign=1:=Int.sign_eq_one_of_pos ae;have la:(zl (N:Int)).length<=100000:=Nat.le_trans (jr (k:=9) af (by simpa using h1)) af;have HS:=ai hs;have HLA:=ai la;have HN:=ai hN;have HP:=ai hp;have H1:=ai h1;have H0:=ai h0;have HG:=ai g;clear hs la hN hp h1 h0 g;have hfp:=Jh;have hmk:∀ W,(Instr.makeSlice 214 (.int .i64 1) (.int .i64 1)).run prog W = .ok (.slice (some ⟨W.heap.size,0,none⟩) 1 1) (W.alloc (.cells #[.int .u64 0] 245)):=fun W=>ag
 go_enter func276,ntmps276;go_wp2_with (first
  | (go_at_call 164;refine(HS.o▸ij (N:Int) _).mono ?_;rintro e _ ⟨rfl,rfl⟩)
  | (go_at_call 169;refine(dI (N:Int) _ HLA.o).mono ?_;rintro e w3 ⟨va,rfl,e3,ad,na,ca,rfl,ma⟩;obtain rfl:na=1:=ma.Ss (by simpa using HP.o) (by simpa using H1.o)))
 generalize I6:(Question.appendCap 2 1 245).cut (w3.tape w3.drawn (Question.appendCap 2 1 245))=c0;have nq:2<=c0/\c0<=9223372036854775807:=I6▸YE _ _;clear I6;refine aB (fun W=>Ext w W/\eV W (.slice ad 1 ca) N/\eV W (.slice (Option.some ⟨w3.heap.size+1+1,0,none⟩) 2 c0) 1000000000) ⟨(((e3.alloc _).alloc _).alloc _).drew,(by simpa using ma.ext (((((Ext.refl _).alloc _).alloc _).alloc _).drew)),?_⟩ ?_
 ·have hB:ay _ (w3.heap.size+1+1) _ 245:=(ay.Gb (w:=(w3.alloc (.cells #[.int .u64 0] 245)).alloc (.cells #[.int .u64 1] 245)) (cs:=#[.int .u64 0,.int .u64 1] ++ Builtin.zeroCells #[.int .u64 0] (c0-2)) (t:=245) (by simp)).drew;have g1:((#[.int .u64 0,.int .u64 1]:Array Value) ++ Builtin.zeroCells #[.int .u64 0] (c0-2))[0]?=Option.some (.int .u64 0):=by rw[Array.getElem?_append_left af];rfl
  have g2:((#[.int .u64 0,.int .u64 1]:Array Value) ++ Builtin.zeroCells #[.int .u64 0] (c0-2))[1]?=Option.some (.int .u64 1):=by rw[Array.getElem?_append_left af];rfl
  have c1:=hB.cell 0 g1;have c2:=hB.cell 1 g2;refine⟨[0,1],Holds.some rfl ae ae hB.lt (fun i hi=>?_),⟨fun x hx=>?_,af⟩,rfl⟩
  ·match i,hi with
   | 0,_=>exact c1
   | 1,_=>exact c2
  ·simp at hx;omega
 rintro w4 ⟨e4,ma4,mx4⟩;have HR4:Hid (r<=1000000000):=ai (by have:=H1.o;rw[← HN.o] at this;have h:=H0.o;have:=Nat.le_mul_of_pos_right r h;omega);clear ma e3;go_loopg [5] 1000000000 (fun gk x W=>∃ (X:Nat) (xa:Option Addr) (xn xc:Nat),x = .slice xa xn xc/\Hid (eV W (.slice xa xn xc) X/\X<=1000000000/\r<=X/\Ext w W/\eV W (.slice ad 1 ca) N)/\X<=gk)
 case atStart=>exact⟨1000000000,_,_,_,rfl,ai ⟨mx4,Nat.le_refl _,HR4.o,e4,ma4⟩,Nat.le_refl _⟩
 case round =>
  rename World=>wL
  obtain⟨X,xa,xn,xc,rfl,HH,hgk⟩:=hrel;have zE:Hid (0<X):=ai (Nat.lt_of_lt_of_le H0.o HH.o.2.2.1);obtain⟨q,hq⟩:∃ q,N / X=q:=⟨_,rfl⟩
  obtain⟨Y,hY⟩:∃ Y,(X+q) / 2=Y:=⟨_,rfl⟩
  have jK:=Kr H0.o HH.o.2.2.1;rw[HN.o,hq,hY] at jK;have kp:=ai jK;have Xx:q<=1000000000:=by rw[← hq];exact Nat.le_trans (Nat.div_le_self _ _) (Nat.le_of_lt H1.o)
  have HQS:=ai Xx;have HQ:=ai hq;have HY:=ai hY;have HGK:=ai hgk;clear jK Xx hq hY hgk;go_wp2_with fail;refine(kJ N X _ _ _ HH.o.2.2.2.2 HH.o.1 zE.o (r7 (Nat.le_of_lt H1.o))).mono ?_;rintro e w5 ⟨vq,vr,rfl,e5,mq,mr⟩;obtain⟨qa,ql,qc,rfl⟩:=mq.slice;obtain⟨ra,rl,rc,rfl⟩:=mr.slice;rw[HQ.o] at mq;go_wp2_with fail;refine(Av X q _ _ _ (HH.o.1.ext e5) mq (r7 HH.o.2.1).fit (r7 HQS.o).fit).mono ?_;rintro e w6 ⟨vs,rfl,e6,ms⟩;obtain⟨sa,sl,sc,rfl⟩:=ms.slice;go_wp2_with fail;refine(kJ (X+q) 2 _ _ _ (ms.ext ((Ext.refl _).alloc _)) ⟨[2],Holds.one _ .u64 2 _,⟨fun x hx=>by simp at hx;omega,af⟩,rfl⟩ af ((⟨af⟩:IB 10 (2000000000:Int)).fit af |>.mono (by have:=HH.o.2.1;have:=HQS.o;simp;omega))).mono ?_;rintro e w7 ⟨vy,vz,rfl,e7,my,mz⟩;obtain⟨ya,yl,yc,rfl⟩:=my.slice;obtain⟨za,zl9,zc,rfl⟩:=mz.slice;rw[HY.o] at my;have HE:Hid (Ext w w7):=ai (((HH.o.2.2.2.1.trans e5).trans e6).trans (((Ext.refl _).alloc _).trans e7));have Fe:Hid (Ext wL w7):=ai ((e5.trans e6).trans (((Ext.refl _).alloc _).trans e7));have TJ:=ai my;clear e5 e6 e7 mq mr ms my mz;by_cases aP:r<X
  ·have hyl:=kp.o.2.1 aP;have wK:jy Y X=-1:=by unfold jy;rw[if_pos hyl]
   have HNC:=ai wK;have HYL:=ai hyl;clear wK hyl;go_wp2_with fail;refine(HNC.o▸fW Y X _ _ _ TJ.o (HH.o.1.ext Fe.o)).mono ?_;rintro e w8 ⟨rfl,e8⟩;go_wp2_with fail;go_roundg Y
   case rel=>exact⟨Y,ya,yl,yc,rfl,ai ⟨TJ.o.ext e8,Nat.le_trans (Nat.le_of_lt HYL.o) HH.o.2.1,kp.o.1,HE.o.trans e8,(HH.o.2.2.2.2.ext Fe.o).ext e8⟩,Nat.le_refl _⟩
   case measure=>have:=HYL.o;have:=HGK.o;omega
  ·have hX:X=r:=Nat.le_antisymm (Nat.le_of_not_lt aP) HH.o.2.2.1;have wK:jy Y X=0:=by have:=kp.o.2.2 hX.symm;unfold jy;rw[if_neg ae,if_neg ae]
   have HNC:=ai wK;have HXR:=ai hX;clear wK hX aP;go_wp2_with fail;refine(HNC.o▸fW Y X _ _ _ TJ.o (HH.o.1.ext Fe.o)).mono ?_;rintro e w8 ⟨rfl,e8⟩;go_wp2_with fail;refine cto (eH false X _ _ _ _ ((HH.o.1.ext Fe.o).ext e8) (r7 HH.o.2.1).fit.tZ (HG.o.ext (HE.o.trans e8))) fun w9 e9=>?_
   go_wp2;go_ret2;exact⟨by first|rfl|(rw[show jg false X=(r:Int) by rw[HXR.o];rfl];rfl)|(have:=HXR.o;subst this;rfl),(HE.o.trans e8).trans e9⟩
