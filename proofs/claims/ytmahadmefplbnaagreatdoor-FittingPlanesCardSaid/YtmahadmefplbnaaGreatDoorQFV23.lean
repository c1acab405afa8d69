/- Part 23. -/
import Derived.Test.YtmahadmefplbnaaGreatDoorQFVB
import Derived.Test.YtmahadmefplbnaaGreatDoorQFV22
import Derived.Handy
set_option maxRecDepth 100000
set_option maxHeartbeats 2000000
open Go.Proofs.Tryz
set_option linter.unusedVariables false
namespace Go.Proofs.YtmahadmefplbnaaGreatDoor
open Go Go.RowKit
structure V3 where
 x:Rat
 y:Rat
 z:Rat
deriving DecidableEq
abbrev vv(v:V3):Value:=.agg #[.string (qs v.x),.string (qs v.y),.string (qs v.z)]
structure P2 where
 x:Rat
 y:Rat
deriving DecidableEq
abbrev pv(p:P2):Value:=.agg #[.string (qs p.x),.string (qs p.y)]
structure PB(k:Nat)(p:P2):Prop where
 x:QB k p.x
 y:QB k p.y
def Hc(a b:V3):V3:=⟨a.x+b.x,a.y+b.y,a.z+b.z⟩
def Hb(a b:V3):V3:=⟨a.x-b.x,a.y-b.y,a.z-b.z⟩
structure VB(k:Nat)(v:V3):Prop where
 x:QB k v.x
 y:QB k v.y
 z:QB k v.z
theorem VB.add{k m:Nat}{a b:V3}(h:VB k a)(h2:VB m b):VB (k+m+1) (Hc a b):=⟨h.x.add h2.x,h.y.add h2.y,h.z.add h2.z⟩
theorem VB.sub{k m:Nat}{a b:V3}(h:VB k a)(h2:VB m b):VB (k+m+1) (Hb a b):=⟨h.x.sub h2.x,h.y.sub h2.y,h.z.sub h2.z⟩
theorem qI{w w':World}(e:Ext w w'){b0 o0 b1 o1 b2 o2 b3 o3 b4 o4 b5 o5:Nat}{x0 x1 x2 x3 x4 x5:Value}(h:w.cell? ⟨b0,o0,none⟩=some x0/\w.cell? ⟨b1,o1,none⟩=some x1/\w.cell? ⟨b2,o2,none⟩=some x2/\w.cell? ⟨b3,o3,none⟩=some x3/\w.cell? ⟨b4,o4,none⟩=some x4/\w.cell? ⟨b5,o5,none⟩=some x5):w'.cell? ⟨b0,o0,none⟩=some x0/\w'.cell? ⟨b1,o1,none⟩=some x1/\w'.cell? ⟨b2,o2,none⟩=some x2/\w'.cell? ⟨b3,o3,none⟩=some x3/\w'.cell? ⟨b4,o4,none⟩=some x4/\w'.cell? ⟨b5,o5,none⟩=some x5 :=
 ⟨e.keeps h.1,e.keeps h.2.1,e.keeps h.2.2.1,e.keeps h.2.2.2.1,e.keeps h.2.2.2.2.1,e.keeps h.2.2.2.2.2⟩
theorem mX:qs (-1)=⟨#[45,49]⟩:=by
 have h:(-1:Rat).num<0:=af;have:=mW (q:=1) af;rw[← this];have e:qs (1:Rat)=zs 1:=by unfold qs zs;rw[dK (by rfl)];rfl
 rw[e,fe];rfl
open Classical in
noncomputable def rq (s:ByteArray):Bool:=decide (iq s.data.toList)
open Classical in
theorem jX{s:ByteArray}:rq s=true ↔ iq s.data.toList:=by unfold rq;exact decide_eq_true_iff
open Classical in
theorem mR{s:ByteArray}:rq s=false ↔ ¬ iq s.data.toList:=by unfold rq;exact decide_eq_false_iff_not
theorem dw(s:ByteArray)(w:World)(g:Gd w)(hl:s.size<=1000000)(h:rq s=true):Calls prog 102 #[.string s] w (aD w (.int .i64 0)) :=
 mU s w g 0 hl ⟨fun _=>rfl,fun e=>absurd (jX.1 h) e⟩
theorem fK(s:ByteArray)(w:World)(g:Gd w)(hl:s.size<=1000000)(h:rq s=false):Calls prog 102 #[.string s] w (aD w (.int .i64 2)) :=
 mU s w g 2 hl ⟨fun e=>absurd e (mR.1 h),fun _=>rfl⟩
noncomputable def cg (l:List ByteArray):Int:=if l.all rq then 0 else 2
theorem all_true{l:List ByteArray}(h:∀ (i:Nat) (hi:i<l.length),rq l[i]=true):l.all rq=true:=by
 rw[List.all_eq_true];intro x hx;obtain⟨i,hi,rfl⟩:=List.getElem_of_mem hx;exact h i hi
theorem all_false{l:List ByteArray}{i:Nat}(hi:i<l.length)(h:rq l[i]=false):l.all rq=false:=by
 rw[List.all_eq_false];exact⟨_,List.getElem_mem hi,by simp[h]⟩
theorem B7(w:World):(sizeOf 34).run prog w = .ok 1 w:=ag
set_option maxHeartbeats 1000000 in
theorem iY (ss:List ByteArray) (b n cap:Nat) (w:World) (g:Gd w) (hn:ss.length=n) (hn9:n<=100) (hl:∀ (i:Nat) (hi:i<ss.length),(ss[i]).size<=1000000) (hb:b<w.heap.size)
    (hc:∀ (i:Nat) (hi:i<ss.length),w.cell? ⟨b,i,none⟩=some (.string ss[i])) :
    Calls prog 96 #[.slice (some ⟨b,0,none⟩) n cap] w (aD w (.int .i64 (cg ss))):=by
 have HG:=ai g;have HL:=ai hl;have HC:=ai hc;have HN:=ai hn;have HBB:=ai hb;clear g hl hc hn hb;go_enter func96,ntmps96;go_wp2;go_loopw [8] (fun x W=>∃ k:Nat,x = .int .i64 k/\k<=n/\Ext w W/\Hid (∀ (i:Nat) (_:i<k) (hi:i<ss.length),rq ss[i]=true)) (fun x _=>n-(intOf x).toNat)
 case atStart=>exact⟨0,rfl,ae,Ext.refl _,ai (fun i h=>ae)⟩
 case round =>
  obtain⟨k,rfl,hk,hx,HR⟩:=hrel;by_cases hkn:k<n
  ·have hks:k<ss.length:=by have:=HN.o;omega
   obtain⟨s,hs⟩:∃ s,s=ss[k]:=⟨_,rfl⟩
   have hsl:s.size<=1000000:=by rw[hs];exact HL.o k hks
   have hcell:∀ W,Ext w W->W.cell? ⟨b,k,none⟩=some (.string s):=fun W e=>by rw[e.cell HBB.o,hs];exact HC.o k hks
   have c1:=hcell _ hx;have hix:=bU 30 34 rfl B7 (ad:=some ⟨b,0,none⟩) (n:=n) (cap:=cap) (fun _=>rfl) k hkn;have HS:=ai hs;clear hs hcell;cases hq:rq s with
   | true =>
    have HQ:=ai hq;clear hq;go_wp2_with (go_at_call 102;refine cto (dw s _ (HG.o.ext hx) hsl HQ.o) fun w2 e2=>?_);go_roundw
    case rel=>exact⟨k+1,by go_num,ae,hx.trans e2,ai (fun i h hi=>by
     by_cases e:i=k
     ·subst e;rw[← HS.o];exact HQ.o
     ·exact HR.o i ae hi)⟩
    case measure=>simp[intOf];omega
   | false =>
    have HQ:=ai hq;clear hq;go_wp2_with (go_at_call 102;refine cto (fK s _ (HG.o.ext hx) hsl HQ.o) fun w2 e2=>?_);go_ret;exact⟨by unfold cg;rw[all_false hks (by rw[← HS.o];exact HQ.o)];rfl,hx.trans e2⟩
  ·obtain rfl:k=n:=ae;go_wp2;go_ret;exact⟨by unfold cg;rw[all_true (fun i hi=>HR.o i (by have:=HN.o;omega) hi)];rfl,hx⟩
def Tx(w:World)(v:Value)(l:List ByteArray):Prop :=
 (l=[]/\v = .slice none 0 0)∨∃ (a:Addr) (cap:Nat),v = .slice (some a) l.length cap/\l.length<=cap/\cap<=maxLen/\∀ i (h:i<l.length),w.cell? (a.add i)=some (.string l[i])
theorem xi{w:World}{a:Addr}{v:Value}(h:w.cell? a=some v):a.block<w.heap.size:=by
 rcases Nat.lt_or_ge a.block w.heap.size with h'|h'
 ·exact h'
 ·simp[World.cell?,Array.getElem?_eq_none h'] at h
theorem Tx.ext{w w':World}{v:Value}{l:List ByteArray}(h:Tx w v l)(e:Ext w w'):Tx w' v l:=by
 rcases h with h|⟨a,cap,h1,h2,h3,h4⟩
 ·exact Or.inl h
 ·exact Or.inr ⟨a,cap,h1,h2,h3,fun i hi=>(e.cell (xi (h4 i hi))).trans (h4 i hi)⟩
structure T3 where
 x:ByteArray
 y:ByteArray
 z:ByteArray
abbrev tv(t:T3):Value:=.agg #[.string t.x,.string t.y,.string t.z]
def T3.l(t:T3):List ByteArray:=[t.x,t.y,t.z]
structure TS(t:T3):Prop where
 x:t.x.size<=1000000
 y:t.y.size<=1000000
 z:t.z.size<=1000000
structure T2 where
 x:ByteArray
 y:ByteArray
abbrev tp(t:T2):Value:=.agg #[.string t.x,.string t.y]
def T2.l(t:T2):List ByteArray:=[t.x,t.y]
structure D5(t:T2):Prop where
 x:t.x.size<=1000000
 y:t.y.size<=1000000
theorem eA{q:Rat}(h:QB 200 q):rq (qs q)=true :=
 jX.2 ⟨q,dZ q,bX af h.num,bX af h.den⟩
theorem FR{w:World}{b:Nat}{x y z:ByteArray}{t:TypeId}(h:aq w b #[.string x,.string y,.string z] t):∀ (i:Nat) (hi:i<[x,y,z].length),w.cell? ⟨b,i,none⟩=some (.string [x,y,z][i])
 | 0,_=>h.cell 0 rfl
 | 1,_=>h.cell 1 rfl
 | 2,_=>h.cell 2 rfl
theorem FT{w:World}{b:Nat}{x y:ByteArray}{t:TypeId}(h:aq w b #[.string x,.string y] t):∀ (i:Nat) (hi:i<[x,y].length),w.cell? ⟨b,i,none⟩=some (.string [x,y][i])
 | 0,_=>h.cell 0 rfl
 | 1,_=>h.cell 1 rfl
theorem El{x y z:ByteArray}(h1:x.size<=1000000)(h2:y.size<=1000000)(h3:z.size<=1000000):∀ (i:Nat) (hi:i<[x,y,z].length),([x,y,z][i]).size<=1000000
 | 0,_=>h1
 | 1,_=>h2
 | 2,_=>h3
theorem Em{x y:ByteArray}(h1:x.size<=1000000)(h2:y.size<=1000000):∀ (i:Nat) (hi:i<[x,y].length),([x,y][i]).size<=1000000
 | 0,_=>h1
 | 1,_=>h2
theorem dr(t:T3)(w:World)(g:Gd w)(hs:TS t):Calls prog 101 #[tv t] w (aD w (.int .i64 (cg t.l))):=by
 have HG:=ai g;have HS:=ai hs;clear g hs;go_enter func101,ntmps101;go_wp2_with (go_at_call 96;refine cto (iY [t.x,t.y,t.z] (w.heap.size+1) 3 3 _ (HG.o.ext (((Ext.refl _).alloc _).alloc _)) rfl af (El HS.o.x HS.o.y HS.o.z) (by simp) (FR (by have:=aq.new (w.alloc (.cells #[.string t.x,.string t.y,.string t.z] 67)) #[.string t.x,.string t.y,.string t.z] 34;simpa using this))) fun w1 e1=>?_);go_ret;exact⟨rfl,(((Ext.refl _).alloc _).alloc _).trans e1⟩
theorem dz(t:T2)(w:World)(g:Gd w)(hs:D5 t):Calls prog 111 #[tp t] w (aD w (.int .i64 (cg t.l))):=by
 have HG:=ai g;have HS:=ai hs;clear g hs;go_enter func111,ntmps111;go_wp2_with (go_at_call 96;refine cto (iY [t.x,t.y] (w.heap.size+1) 2 2 _ (HG.o.ext (((Ext.refl _).alloc _).alloc _)) rfl af (Em HS.o.x HS.o.y) (by simp) (FT (by have:=aq.new (w.alloc (.cells #[.string t.x,.string t.y] 58)) #[.string t.x,.string t.y] 34;simpa using this))) fun w1 e1=>?_);go_ret;exact⟨rfl,(((Ext.refl _).alloc _).alloc _).trans e1⟩
theorem mQ (t e:TypeId) (K:Nat) (hu:prog.underlying t=some (.slice e)) (hs:∀ w,(sizeOf e).run prog w = .ok K w) {ad:Option Addr} {n cap b off:Nat} (h:0<n->ad=some ⟨b,off,none⟩) (i:Nat) (hi:i<n) (w:World) :
    (Instr.indexAt t (.slice ad n cap) (.int .i64 (i:Int))).run prog w = .ok (.pointer (some ⟨b,off+i*K,none⟩)) w:=by
 rw[h ae];simp[Instr.indexAt,asIntOf,run_underlying hu,hs,go_sem,hi,Addr.add]
theorem B6(w:World):(sizeOf 67).run prog w = .ok 3 w:=ag
theorem En(w:World):(sizeOf 58).run prog w = .ok 2 w:=ag
noncomputable def pO (l:List T3):Int:=if l.all (fun t=>t.l.all rq) then 0 else 2
noncomputable def xT (l:List T2):Int:=if l.all (fun t=>t.l.all rq) then 0 else 2
theorem mI{l:List ByteArray}(h:l.all rq=true):cg l=0:=by unfold cg;rw[h];rfl
theorem y9{l:List ByteArray}(h:l.all rq=false):cg l=2:=by unfold cg;rw[h];rfl
theorem o8{α:Type}{f:α->Bool}{l:List α}(h:∀ (i:Nat) (hi:i<l.length),f l[i]=true):l.all f=true:=by
 rw[List.all_eq_true];intro x hx;obtain⟨i,hi,rfl⟩:=List.getElem_of_mem hx;exact h i hi
theorem nJ{α:Type}{f:α->Bool}{l:List α}{i:Nat}(hi:i<l.length)(h:f l[i]=false):l.all f=false:=by
 rw[List.all_eq_false];exact⟨_,List.getElem_mem hi,by simp[h]⟩
set_option maxHeartbeats 1000000 in
theorem oE (ts:List T3) (b n cap:Nat) (w:World) (g:Gd w) (hn:ts.length=n) (hn9:n<=100) (hl:∀ (i:Nat) (hi:i<ts.length),TS ts[i]) (hb:b<w.heap.size)
    (hc:∀ (i:Nat) (hi:i<ts.length),w.cell? ⟨b,i*3,none⟩=some (.string (ts[i]).x)/\w.cell? ⟨b,i*3+1,none⟩=some (.string (ts[i]).y)/\w.cell? ⟨b,i*3+2,none⟩=some (.string (ts[i]).z)) :
    Calls prog 95 #[.slice (some ⟨b,0,none⟩) n cap] w (aD w (.int .i64 (pO ts))):=by
 have HG:=ai g;have HL:=ai hl;have HC:=ai hc;have HN:=ai hn;have HBB:=ai hb;clear g hl hc hn hb;go_enter func95,ntmps95;go_wp2;go_loopw [8] (fun x W=>∃ k:Nat,x = .int .i64 k/\k<=n/\Ext w W/\Hid (∀ (i:Nat) (_:i<k) (hi:i<ts.length),ts[i].l.all rq=true)) (fun x _=>n-(intOf x).toNat)
 case atStart=>exact⟨0,rfl,ae,Ext.refl _,ai (fun i h=>ae)⟩
 case round =>
  obtain⟨k,rfl,hk,hx,HR⟩:=hrel;by_cases hkn:k<n
  ·have hks:k<ts.length:=by have:=HN.o;omega
   obtain⟨s,hs⟩:∃ s,s=ts[k]:=⟨_,rfl⟩
   have hsl:TS s:=by rw[hs];exact HL.o k hks
   obtain⟨d1,d2,d3⟩:=HC.o k hks;rw[← hs] at d1 d2 d3;have c1:=(hx.cell (p:=⟨b,k*3,none⟩) HBB.o).trans d1;have c2:=(hx.cell (p:=⟨b,k*3+1,none⟩) HBB.o).trans d2;have c3:=(hx.cell (p:=⟨b,k*3+2,none⟩) HBB.o).trans d3;have hix:=mQ 55 67 3 rfl B6 (ad:=some ⟨b,0,none⟩) (n:=n) (cap:=cap) (fun _=>rfl) k hkn;have HS:=ai hs;have HSL:=ai hsl;clear hs d1 d2 d3 hsl;cases hq:s.l.all rq with
   | true =>
    have HQ:=ai hq;have HT:=ai (mI hq);clear hq;go_wp2_with (go_at_call 101;refine(dr s _ (HG.o.ext (by repeat (first|assumption|apply Ext.alloc|(refine Ext.setCell ?_ (by have:=hx.size;simp;omega) _)))) HSL.o).mono ?_;rw[HT.o];rintro e w2 ⟨rfl,e2⟩);go_roundw
    case rel=>exact⟨k+1,by go_num,ae,(hx.alloc _).trans e2,ai (fun i h hi=>by
     by_cases e:i=k
     ·subst e;rw[← HS.o];exact HQ.o
     ·exact HR.o i ae hi)⟩
    case measure=>simp[intOf];omega
   | false =>
    have HQ:=ai hq;have HT:=ai (y9 hq);clear hq;go_wp2_with (go_at_call 101;refine(dr s _ (HG.o.ext (by repeat (first|assumption|apply Ext.alloc|(refine Ext.setCell ?_ (by have:=hx.size;simp;omega) _)))) HSL.o).mono ?_;rw[HT.o];rintro e w2 ⟨rfl,e2⟩);go_ret;exact⟨by unfold pO;rw[nJ hks (by rw[← HS.o];exact HQ.o)];rfl,(hx.alloc _).trans e2⟩
  ·obtain rfl:k=n:=ae;go_wp2;go_ret;exact⟨by unfold pO;rw[o8 (fun i hi=>HR.o i (by have:=HN.o;omega) hi)];rfl,hx⟩
set_option maxHeartbeats 1000000 in
theorem zX (ts:List T2) (b n cap:Nat) (w:World) (g:Gd w) (hn:ts.length=n) (hn9:n<=100) (hl:∀ (i:Nat) (hi:i<ts.length),D5 ts[i]) (hb:b<w.heap.size)
    (hc:∀ (i:Nat) (hi:i<ts.length),w.cell? ⟨b,i*2,none⟩=some (.string (ts[i]).x)/\w.cell? ⟨b,i*2+1,none⟩=some (.string (ts[i]).y)) :
    Calls prog 89 #[.slice (some ⟨b,0,none⟩) n cap] w (aD w (.int .i64 (xT ts))):=by
 have HG:=ai g;have HL:=ai hl;have HC:=ai hc;have HN:=ai hn;have HBB:=ai hb;clear g hl hc hn hb;go_enter func89,ntmps89;go_wp2;go_loopw [8] (fun x W=>∃ k:Nat,x = .int .i64 k/\k<=n/\Ext w W/\Hid (∀ (i:Nat) (_:i<k) (hi:i<ts.length),ts[i].l.all rq=true)) (fun x _=>n-(intOf x).toNat)
 case atStart=>exact⟨0,rfl,ae,Ext.refl _,ai (fun i h=>ae)⟩
 case round =>
  obtain⟨k,rfl,hk,hx,HR⟩:=hrel;by_cases hkn:k<n
  ·have hks:k<ts.length:=by have:=HN.o;omega
   obtain⟨s,hs⟩:∃ s,s=ts[k]:=⟨_,rfl⟩
   have hsl:D5 s:=by rw[hs];exact HL.o k hks
   obtain⟨d1,d2⟩:=HC.o k hks;rw[← hs] at d1 d2;have c1:=(hx.cell (p:=⟨b,k*2,none⟩) HBB.o).trans d1;have c2:=(hx.cell (p:=⟨b,k*2+1,none⟩) HBB.o).trans d2;have hix:=mQ 220 58 2 rfl En (ad:=some ⟨b,0,none⟩) (n:=n) (cap:=cap) (fun _=>rfl) k hkn;have HS:=ai hs;have HSL:=ai hsl;clear hs d1 d2 hsl;cases hq:s.l.all rq with
   | true =>
    have HQ:=ai hq;have HT:=ai (mI hq);clear hq;go_wp2_with (go_at_call 111;refine(dz s _ (HG.o.ext (by repeat (first|assumption|apply Ext.alloc|(refine Ext.setCell ?_ (by have:=hx.size;simp;omega) _)))) HSL.o).mono ?_;rw[HT.o];rintro e w2 ⟨rfl,e2⟩);go_roundw
    case rel=>exact⟨k+1,by go_num,ae,(hx.alloc _).trans e2,ai (fun i h hi=>by
     by_cases e:i=k
     ·subst e;rw[← HS.o];exact HQ.o
     ·exact HR.o i ae hi)⟩
    case measure=>simp[intOf];omega
   | false =>
    have HQ:=ai hq;have HT:=ai (y9 hq);clear hq;go_wp2_with (go_at_call 111;refine(dz s _ (HG.o.ext (by repeat (first|assumption|apply Ext.alloc|(refine Ext.setCell ?_ (by have:=hx.size;simp;omega) _)))) HSL.o).mono ?_;rw[HT.o];rintro e w2 ⟨rfl,e2⟩);go_ret;exact⟨by unfold xT;rw[nJ hks (by rw[← HS.o];exact HQ.o)];rfl,(hx.alloc _).trans e2⟩
  ·obtain rfl:k=n:=ae;go_wp2;go_ret;exact⟨by unfold xT;rw[o8 (fun i hi=>HR.o i (by have:=HN.o;omega) hi)];rfl,hx⟩
theorem uR(s:ByteArray)(w:World)(g:Gd w)(hl:s.size<=1000000)(h:rq s=true):Calls prog 114 #[.string s] w (aD w (.bool true)) :=
 pb s w g true hl ⟨fun _=>rfl,fun e=>absurd (jX.1 h) e⟩
theorem yt(s:ByteArray)(w:World)(g:Gd w)(hl:s.size<=1000000)(h:rq s=false):Calls prog 114 #[.string s] w (aD w (.bool false)) :=
 pb s w g false hl ⟨fun e=>absurd e (mR.1 h),fun _=>rfl⟩
theorem DF(n:Int):(zs (n.natAbs:Int)).size=(Lib.decDigits n.natAbs).length:=by rw[dj,cW]
theorem QB.Fq(q:Rat):QB 200 q ↔ (Lib.decDigits q.num.natAbs).length<=200/\(Lib.decDigits q.den).length<=200 :=
 ⟨fun h=>⟨bX af h.num,bX af h.den⟩,fun h=>⟨a7 h.1,a7 h.2⟩⟩
theorem qG(q:Rat)(w:World)(hq:QB 200 q):Calls prog 174 #[.string (qs q)] w (aD w (.bool false)):=by
 have h:=(QB.Fq q).1 hq;have h1:¬ (200:Int)<((zs (q.num.natAbs:Int)).size:Int):=by rw[DF];omega
 have h2:¬ (200:Int)<((zs (q.den:Int)).size:Int):=by rw[dj,cW];omega
 have HQ:=ai hq;clear h hq;go_enter func174,ntmps174;go_wp2_with (first
  | (go_at_call 86;refine cto (bT q w HQ.o af) fun w1 e1=>?_)
  | (go_at_call 244;refine(GQ q.num _).mono ?_;rintro e w2 ⟨rfl,rfl⟩))
 go_ret;exact⟨by show Ending.returned (.bool (_ || _))=_;rw[decide_eq_false (show ¬ (200:Int)<((zs (q.num.natAbs:Int)).size:Int) by omega),decide_eq_false (show ¬ (200:Int)<((zs (q.den:Int)).size:Int) by omega)];rfl,e1⟩
theorem Fc(x:T3)(w:World):Calls prog 227 #[tv x] w (aD w (tv x)):=by
 go_enter func227,ntmps227;go_wp2;refine bodyPost_ret (v:=tv x) (by simp[results,results227,go_sem]) rfl ⟨rfl,((Ext.refl _).alloc _).alloc _⟩
theorem rD(x:T3)(w:World):Calls prog 175 #[tv x] w (aD w (tv x)):=by
 go_enter func175,ntmps175;go_wp2;refine bodyPost_ret (v:=tv x) (by simp[results,results175,go_sem]) rfl ⟨rfl,((Ext.refl _).alloc _).alloc _⟩
theorem Fu(x y z:ByteArray)(w:World):(Instr.index 161 (.agg #[.string x,.string y,.string z]) (.int .i64 0)).run prog w = .ok (.string x) w:=ag
theorem Ft(x y z:ByteArray)(w:World):(Instr.index 161 (.agg #[.string x,.string y,.string z]) (.int .i64 1)).run prog w = .ok (.string y) w:=ag
theorem Fs(x y z:ByteArray)(w:World):(Instr.index 161 (.agg #[.string x,.string y,.string z]) (.int .i64 2)).run prog w = .ok (.string z) w:=ag
set_option maxHeartbeats 1000000 in
theorem rS(x y z:Rat)(w:World)(h0:QB 200 x)(h1:QB 200 y)(h2:QB 200 z):Calls prog 97 #[.agg #[.string (qs x),.string (qs y),.string (qs z)]] w (aD w (.tuple #[.agg #[.string (qs x),.string (qs y),.string (qs z)],.int .i64 0])):=by
 have Hh0:=ai h0;have Hh1:=ai h1;have Hh2:=ai h2;clear h0 h1 h2;have ix0:=Fu (qs x) (qs y) (qs z);have ix1:=Ft (qs x) (qs y) (qs z);have ix2:=Fs (qs x) (qs y) (qs z);go_enter func97,ntmps97;go_wp2;refine wp_loop_rounds 4 ?_;rw[rounds_succ];go_wp2_with (go_at_call 174;refine cto (qG x _ Hh0.o) fun w1 e1=>?_);rw[rounds_succ];go_wp2_with (go_at_call 174;refine cto (qG y _ Hh1.o) fun w2 e2=>?_);rw[rounds_succ];go_wp2_with (go_at_call 174;refine cto (qG z _ Hh2.o) fun w3 e3=>?_;have B:aq w3 w.heap.size #[.string (qs x),.string (qs y),.string (qs z)] 161:=((aq.new w #[.string (qs x),.string (qs y),.string (qs z)] 161).alloc (.cells #[.string ⟨#[]⟩,.string ⟨#[]⟩,.string ⟨#[]⟩] 67)).ext (by repeat (first|assumption|exact Ext.refl _|apply Ext.drew|apply Ext.alloc|(refine Ext.setCell ?_ (by simp only[];omega) _)|(refine Ext.trans ?_ (by assumption))));have d0:=B.cell 0 rfl;have d1:=B.cell 1 rfl;have d2:=B.cell 2 rfl;clear B);rw[rounds_succ];go_wp2_with (go_at_call 175;refine cto (rD ⟨qs x,qs y,qs z⟩ _) fun w4 e4=>?_;have R:aq w4 (w.heap.size+1) #[.string ⟨#[]⟩,.string ⟨#[]⟩,.string ⟨#[]⟩] 67:=(by have:=aq.new (w.alloc (.cells #[.string (qs x),.string (qs y),.string (qs z)] 161)) #[.string ⟨#[]⟩,.string ⟨#[]⟩,.string ⟨#[]⟩] 67;simpa using this:aq ((w.alloc (.cells #[.string (qs x),.string (qs y),.string (qs z)] 161)).alloc (.cells #[.string ⟨#[]⟩,.string ⟨#[]⟩,.string ⟨#[]⟩] 67)) (w.heap.size+1) #[.string ⟨#[]⟩,.string ⟨#[]⟩,.string ⟨#[]⟩] 67).ext (by repeat (first|assumption|exact Ext.refl _|apply Ext.drew|apply Ext.alloc|(refine Ext.setCell ?_ (by simp only[];omega) _)|(refine Ext.trans ?_ (by assumption))));have c0:=R.cell 0 rfl;have c1:=R.cell 1 rfl;have c2:=R.cell 2 rfl;have f0:=R.free 0;have f1:=R.free 1;have f2:=R.free 2;have HR:=ai R;clear R);clear c0 c1 c2 f0 f1 f2;have R3:=(((HR.o.set 0 (.string (qs x))).set 1 (.string (qs y))).set 2 (.string (qs z)))
 have ex:Ext w (((w4.setCell ⟨w.heap.size+1,0,none⟩ (.string (qs x))).setCell ⟨w.heap.size+1,1,none⟩ (.string (qs y))).setCell ⟨w.heap.size+1,2,none⟩ (.string (qs z))):=((((((((((Ext.refl _).alloc _).alloc _).trans e1).trans e2).trans e3).trans e4).setCell (by simp) _).setCell (by simp) _).setCell (by simp) _)
 have g0:=R3.cell 0 rfl;have g1:=R3.cell 1 rfl;have g2:=R3.cell 2 rfl;clear R3;generalize (((w4.setCell ⟨w.heap.size+1,0,none⟩ (.string (qs x))).setCell ⟨w.heap.size+1,1,none⟩ (.string (qs y))).setCell ⟨w.heap.size+1,2,none⟩ (.string (qs z)))=W' at *;refine bodyPost_ret (v:=.tuple #[.agg #[.string (qs x),.string (qs y),.string (qs z)],.int .i64 0]) (by simp[results,results97,go_sem,g0,g1,g2]) rfl ⟨rfl,ex⟩
theorem aq.uD{w:World}{k:Nat}{cs:Array Value}{t:TypeId}(hk:k=w.heap.size):aq (w.alloc (.cells cs t)) k cs t:=by subst hk;exact aq.new w cs t
theorem aq.nw{w:World}{k:Nat}(cs:Array Value)(t:TypeId)(hk:k = w.heap.size:=by first|rfl|(simp only[World.size_alloc];done)|(simp only[World.size_alloc];omega)|simp):aq (w.alloc (.cells cs t)) k cs t:=aq.uD hk
theorem aw{P:World->Prop}{w0:World}(I:World->Prop)(h:I w0)(k:∀ W,I W->P W):P w0:=k w0 h
theorem iQ{w:World}{b b2 o o2:Nat}{u:Value}(h:b≠b2):(w.setCell ⟨b2,o2,none⟩ u).cell? ⟨b,o,none⟩=w.cell? ⟨b,o,none⟩:=by
 have:=Below.heap_setCell w ⟨b2,o2,none⟩ u b h;simp only[World.cell?,this]
theorem rf{w:World}{b o o2:Nat}{u:Value}(h:o≠o2):(w.setCell ⟨b,o2,none⟩ u).cell? ⟨b,o,none⟩=w.cell? ⟨b,o,none⟩:=by
 simp only[World.setCell,World.cell?,Array.getElem?_modify,ite_true];cases hb:w.heap[b]? with
 | none=>rfl
 | some x=>cases x <;> simp[h.symm]
theorem QB.min{k m:Nat}{a b:Rat}(ha:QB k a)(hb:QB m b):QB (max k m) (Gi a b):=by
 unfold Gi;split
 ·exact hb.mono (Nat.le_max_right _ _)
 ·exact ha.mono (Nat.le_max_left _ _)
theorem QB.max{k m:Nat}{a b:Rat}(ha:QB k a)(hb:QB m b):QB (Nat.max k m) (j2 a b):=by
 unfold j2;split
 ·exact hb.mono (Nat.le_max_right _ _)
 ·exact ha.mono (Nat.le_max_left _ _)
theorem C8{w w':World}(e:Ext w w'){b0 o0:Nat}{x0:Value}(h:w.cell? ⟨b0,o0,none⟩=some x0):w'.cell? ⟨b0,o0,none⟩=some x0 :=
 e.keeps h
def kD(v:V3)(k:Nat):Rat:=if k=0 then v.x else if k=1 then v.y else v.z
def mC(r v:V3)(k:Nat):Array Value:=#[.string (qs (if 0<k then r.x else v.x)),.string (qs (if 1<k then r.y else v.y)),.string (qs (if 2<k then r.z else v.z))]
theorem BO(r v:V3):mC r v 0=#[.string (qs v.x),.string (qs v.y),.string (qs v.z)]:=rfl
theorem BN(r v:V3):mC r v 3=#[.string (qs r.x),.string (qs r.y),.string (qs r.z)]:=rfl
theorem rE{r v:V3}{k:Nat}(h:k<3):(mC r v k)[k]?=some (.string (qs (kD v k))):=by
 match k,h with
 | 0,_=>rfl
 | 1,_=>rfl
 | 2,_=>rfl
theorem xv{r v:V3}{k:Nat}(h:k<3){q:Rat}(hq:q=kD r k):(mC r v k).setIfInBounds k (.string (qs q))=mC r v (k+1):=by
 subst hq
 match k,h with
 | 0,_=>rfl
 | 1,_=>rfl
 | 2,_=>rfl
theorem tJ{v:V3}{k:Nat}(h:k<3):(#[.string (qs v.x),.string (qs v.y),.string (qs v.z)]:Array Value)[k]?=some (.string (qs (kD v k))):=by
 match k,h with
 | 0,_=>rfl
 | 1,_=>rfl
 | 2,_=>rfl
theorem VB.at{n:Nat}{v:V3}(h:VB n v)(k:Nat):QB n (kD v k):=by
 unfold kD;split
 ·exact h.x
 ·split
  ·exact h.y
  ·exact h.z
theorem tN(w:World)(b:Nat):(Instr.indexAt 161 (.pointer (some ⟨b,0,none⟩)) (.int .i64 0)).run prog w = .ok (.pointer (some ⟨b,0,none⟩)) w:=ag
theorem tM(w:World)(b:Nat):(Instr.indexAt 161 (.pointer (some ⟨b,0,none⟩)) (.int .i64 1)).run prog w = .ok (.pointer (some ⟨b,1,none⟩)) w:=ag
theorem tL(w:World)(b:Nat):(Instr.indexAt 161 (.pointer (some ⟨b,0,none⟩)) (.int .i64 2)).run prog w = .ok (.pointer (some ⟨b,2,none⟩)) w:=ag
theorem xx(w:World)(b k:Nat)(h:k<3):(Instr.indexAt 161 (.pointer (some ⟨b,0,none⟩)) (.int .i64 (k:Int))).run prog w = .ok (.pointer (some ⟨b,k,none⟩)) w:=by
 have e:k=0∨k=1∨k=2:=ae;rcases e with rfl|rfl|rfl
 ·exact tN w b
 ·exact tM w b
 ·exact tL w b
theorem As(x:T3)(w:World):Calls prog 227 #[tv x] w fun e w'=>e = .returned (tv x)/\w'=(w.alloc (.cells #[.string x.x,.string x.y,.string x.z] 67)).alloc (.cells #[.string x.x,.string x.y,.string x.z] 161):=by
 go_enter func227,ntmps227;go_wp2;refine bodyPost_ret (v:=tv x) (by simp[results,results227,go_sem]) rfl ⟨rfl,rfl⟩
theorem vO(v:V3)(w:World):Calls prog 103 #[vv v] w (aD w (.bool (decide (v.x=0/\v.y=0/\v.z=0)))):=by
 by_cases hx:v.x=0
 ·by_cases hy:v.y=0
  ·by_cases hz:v.z=0
   ·have h1:=cC hx;have h2:=cC hy;have h3:=cC hz;have H:Hid (decide (v.x=0/\v.y=0/\v.z=0)=true):=ai (by simp[hx,hy,hz]);clear hx hy hz;go_enter func103,ntmps103;go_wp2;go_ret;exact⟨by rw[H.o];rfl,(Ext.refl _).alloc _⟩
   ·have h1:=cC hx;have h2:=cC hy;have h3:=aV hz;have H:Hid (decide (v.x=0/\v.y=0/\v.z=0)=false):=ai (by simp[hz]);clear hx hy hz;go_enter func103,ntmps103;go_wp2;go_ret;exact⟨by rw[H.o];rfl,(Ext.refl _).alloc _⟩
  ·have h1:=cC hx;have h2:=aV hy;have H:Hid (decide (v.x=0/\v.y=0/\v.z=0)=false):=ai (by simp[hy]);clear hx hy;go_enter func103,ntmps103;go_wp2;go_ret;exact⟨by rw[H.o];rfl,(Ext.refl _).alloc _⟩
 ·have h1:=aV hx;have H:Hid (decide (v.x=0/\v.y=0/\v.z=0)=false):=ai (by simp[hx]);clear hx;go_enter func103,ntmps103;go_wp2;go_ret;exact⟨by rw[H.o];rfl,(Ext.refl _).alloc _⟩
theorem VB.mono{k m:Nat}{v:V3}(h:VB k v)(hk:k<=m):VB m v:=⟨h.x.mono hk,h.y.mono hk,h.z.mono hk⟩
theorem PB.mono{k m:Nat}{v:P2}(h:PB k v)(hk:k<=m):PB m v:=⟨h.x.mono hk,h.y.mono hk⟩
theorem VB.ts{v:V3}(h:VB 200 v):TS ⟨qs v.x,qs v.y,qs v.z⟩:=⟨h.x.len af,h.y.len af,h.z.len af⟩
theorem PB.ts{p:P2}(h:PB 200 p):D5 ⟨qs p.x,qs p.y⟩:=⟨h.x.len af,h.y.len af⟩
theorem VB.all{v:V3}(h:VB 200 v):(T3.l ⟨qs v.x,qs v.y,qs v.z⟩).all rq=true:=by simp[T3.l,eA h.x,eA h.y,eA h.z]
theorem PB.all{p:P2}(h:PB 200 p):(T2.l ⟨qs p.x,qs p.y⟩).all rq=true:=by simp[T2.l,eA h.x,eA h.y]
theorem tH(a:T3)(kb:Nat)(w:World)(g:Gd w)(ha:TS a)(hB:aq w kb #[.string a.x,.string a.y,.string a.z] 67):Calls prog 95 #[.slice (some ⟨kb,0,none⟩) 1 1] w (aD w (.int .i64 (pO [a]))) :=
 oE [a] kb 1 1 w g rfl af (fun i hi=>match i,hi with|0,_=>ha) hB.lt (fun i hi=>match i,hi with|0,_=>⟨hB.cell 0 rfl,hB.cell 1 rfl,hB.cell 2 rfl⟩)
theorem ld(a:V3)(kb:Nat)(w:World)(g:Gd w)(ha:VB 200 a)(hB:aq w kb #[.string (qs a.x),.string (qs a.y),.string (qs a.z)] 67):Calls prog 95 #[.slice (some ⟨kb,0,none⟩) 1 1] w (aD w (.int .i64 0)):=by
 have:=tH ⟨qs a.x,qs a.y,qs a.z⟩ kb w g ha.ts hB;rwa[show pO [⟨qs a.x,qs a.y,qs a.z⟩]=0 by unfold pO;simp only[List.all_cons,List.all_nil,ha.all];rfl] at this
theorem tG(a b:T3)(kb:Nat)(w:World)(g:Gd w)(ha:TS a)(hb:TS b)(hB:aq w kb #[.string a.x,.string a.y,.string a.z,.string b.x,.string b.y,.string b.z] 67):Calls prog 95 #[.slice (some ⟨kb,0,none⟩) 2 2] w (aD w (.int .i64 (pO [a,b]))) :=
 oE [a,b] kb 2 2 w g rfl af (fun i hi=>match i,hi with|0,_=>ha|1,_=>hb) hB.lt (fun i hi=>match i,hi with|0,_=>⟨hB.cell 0 rfl,hB.cell 1 rfl,hB.cell 2 rfl⟩|1,_=>⟨hB.cell 3 rfl,hB.cell 4 rfl,hB.cell 5 rfl⟩)
theorem rC(a b:V3)(kb:Nat)(w:World)(g:Gd w)(ha:VB 200 a)(hb:VB 200 b)(hB:aq w kb #[.string (qs a.x),.string (qs a.y),.string (qs a.z),.string (qs b.x),.string (qs b.y),.string (qs b.z)] 67):Calls prog 95 #[.slice (some ⟨kb,0,none⟩) 2 2] w (aD w (.int .i64 0)):=by
 have:=tG ⟨qs a.x,qs a.y,qs a.z⟩ ⟨qs b.x,qs b.y,qs b.z⟩ kb w g ha.ts hb.ts hB;rwa[show pO [⟨qs a.x,qs a.y,qs a.z⟩,⟨qs b.x,qs b.y,qs b.z⟩]=0 by unfold pO;simp only[List.all_cons,List.all_nil,ha.all,hb.all];rfl] at this
theorem xS(a b c:T2)(kb:Nat)(w:World)(g:Gd w)(ha:D5 a)(hb:D5 b)(hc:D5 c)(hB:aq w kb #[.string a.x,.string a.y,.string b.x,.string b.y,.string c.x,.string c.y] 58):Calls prog 89 #[.slice (some ⟨kb,0,none⟩) 3 3] w (aD w (.int .i64 (xT [a,b,c]))) :=
 zX [a,b,c] kb 3 3 w g rfl af (fun i hi=>match i,hi with|0,_=>ha|1,_=>hb|2,_=>hc) hB.lt (fun i hi=>match i,hi with|0,_=>⟨hB.cell 0 rfl,hB.cell 1 rfl⟩|1,_=>⟨hB.cell 2 rfl,hB.cell 3 rfl⟩|2,_=>⟨hB.cell 4 rfl,hB.cell 5 rfl⟩)
theorem ux(a b c:P2)(kb:Nat)(w:World)(g:Gd w)(ha:PB 200 a)(hb:PB 200 b)(hc:PB 200 c)(hB:aq w kb #[.string (qs a.x),.string (qs a.y),.string (qs b.x),.string (qs b.y),.string (qs c.x),.string (qs c.y)] 58):Calls prog 89 #[.slice (some ⟨kb,0,none⟩) 3 3] w (aD w (.int .i64 0)):=by
 have:=xS ⟨qs a.x,qs a.y⟩ ⟨qs b.x,qs b.y⟩ ⟨qs c.x,qs c.y⟩ kb w g ha.ts hb.ts hc.ts hB;rwa[show xT [⟨qs a.x,qs a.y⟩,⟨qs b.x,qs b.y⟩,⟨qs c.x,qs c.y⟩]=0 by unfold xT;simp only[List.all_cons,List.all_nil,ha.all,hb.all,hc.all];rfl] at this
theorem uC(a:ByteArray)(kb:Nat)(w:World)(g:Gd w)(ha:a.size<=1000000)(hB:aq w kb #[.string a] 34):Calls prog 96 #[.slice (some ⟨kb,0,none⟩) 1 1] w (aD w (.int .i64 (cg [a]))) :=
 iY [a] kb 1 1 w g rfl af (fun i hi=>match i,hi with|0,_=>ha) hB.lt (fun i hi=>match i,hi with|0,_=>hB.cell 0 rfl)
theorem sj(a:Rat)(kb:Nat)(w:World)(g:Gd w)(ha:QB 200 a)(hB:aq w kb #[.string (qs a)] 34):Calls prog 96 #[.slice (some ⟨kb,0,none⟩) 1 1] w (aD w (.int .i64 0)):=by
 have:=uC (qs a) kb w g (ha.len af) hB;rwa[show cg [qs a]=0 from mI (by simp only[List.all_cons,List.all_nil,eA ha];rfl)] at this
theorem uB(a b c:ByteArray)(kb:Nat)(w:World)(g:Gd w)(ha:a.size<=1000000)(hb:b.size<=1000000)(hc:c.size<=1000000)(hB:aq w kb #[.string a,.string b,.string c] 34):Calls prog 96 #[.slice (some ⟨kb,0,none⟩) 3 3] w (aD w (.int .i64 (cg [a,b,c]))) :=
 iY [a,b,c] kb 3 3 w g rfl af (fun i hi=>match i,hi with|0,_=>ha|1,_=>hb|2,_=>hc) hB.lt (fun i hi=>match i,hi with|0,_=>hB.cell 0 rfl|1,_=>hB.cell 1 rfl|2,_=>hB.cell 2 rfl)
theorem EJ(b:Rat){k:Nat}(w:World)(g:Gd w)(hb:QB k b)(hk:k<=3000):Calls prog 115 #[.string ⟨#[48]⟩,.string (qs b)] w (aD w (.string (qs b))):=by
 have:=cX 0 b w g (⟨af,af⟩:QB 1 0) hb af hk;rwa[bE,Rat.zero_add] at this
theorem pT(x y z:Rat)(cb:Nat){k:Nat}{ty:TypeId}(w:World)(g:Gd w)(hx:QB k x)(hy:QB k y)(hz:QB k z)(hcb:aq w cb #[.string (qs x),.string (qs y),.string (qs z)] ty)(hk:k<=1490):Calls prog 183 #[.slice (some ⟨cb,0,none⟩) 3 3] w (aD w (.string (qs (x+y+z)))):=by
 have HG:=ai g;have HX0:=ai hx;have HY0:=ai hy;have HZ0:=ai hz;have HCB:=ai hcb;clear g hx hy hz hcb;go_enter func183,ntmps183;go_wp2_with fail;refine wp_loop_rounds 4 ?_;rw[rounds_succ];have cP_0:=HCB.o.cell 0 rfl;go_wp2_with fail;refine cto (EJ x _ (HG.o.ext (Ext.refl w)) HX0.o ae) fun w1 e1=>?_
 have HX1:Hid (Ext w w1):=ai ((Ext.refl w).trans e1);have HBP_1:=ai (aq.ext HCB.o e1);clear e1 cP_0;go_wp2_with fail;rw[rounds_succ];have cP_1:=HBP_1.o.cell 1 rfl;go_wp2_with fail;refine cto (cX x y _ (HG.o.ext HX1.o) HX0.o HY0.o ae ae) fun w2 e2=>?_
 have HX2:=ai (HX1.o.trans e2);have HBP_2:=ai (aq.ext HBP_1.o e2);clear e2 cP_1;go_wp2_with fail;rw[rounds_succ];have cP_2:=HBP_2.o.cell 2 rfl;go_wp2_with fail;refine cto (cX (x+y) z _ (HG.o.ext HX2.o) (HX0.o.add HY0.o) HZ0.o ae ae) fun w3 e3=>?_
 have HX3:=ai (HX2.o.trans e3);clear e3 cP_2;go_wp2_with fail;rw[rounds_succ];go_wp2;go_ret;exact⟨rfl,HX3.o⟩
theorem zr(x y q:Rat)(cb:Nat){k m:Nat}(w:World)(g:Gd w)(hx:QB k x)(hq:QB m q)(hcb:aq w cb #[.string (qs q)] 34)(hk:k<=3000)(hm:m<=3000):Calls prog 177 #[.string (qs x),.string (qs y),.pointer (some ⟨cb,0,none⟩)] w (aD w (.string (qs (x*q)))):=by
 have HG:=ai g;have HX0:=ai hx;have HQ:=ai hq;have HCB:=ai hcb;clear g hx hq hcb;go_enter func177,ntmps177;have cP_0:=HCB.o.cell 0 rfl;go_wp2_with fail;refine cto (bD x q _ (HG.o.ext (Ext.refl w)) HX0.o HQ.o ae ae) fun w1 e1=>?_
 have HX1:Hid (Ext w w1):=ai ((Ext.refl w).trans e1);clear e1 cP_0;go_wp2;go_ret;exact⟨rfl,HX1.o⟩
set_option maxHeartbeats 4000000 in
theorem u6(a b:V3)(q:Rat)(cb:Nat){k m n:Nat}(w:World)(g:Gd w)(ha:VB k a)(hb:VB m b)(hq:QB n q)(hcb:aq w cb #[.string (qs q)] 34)(hk:k<=3000)(hn:n<=3000):Calls prog 176 #[vv a,vv b,.func (.func 177) #[] #[.pointer (some ⟨cb,0,none⟩)]] w (aD w (vv ⟨a.x*q,a.y*q,a.z*q⟩)):=by
 have HG:=ai g;have HA:=ai ha;have HB:=ai hb;have HQ:=ai hq;have HCB:=ai hcb;clear g ha hb hq hcb;obtain⟨r,hr⟩:∃ r:V3,r=⟨a.x*q,a.y*q,a.z*q⟩:=⟨_,rfl⟩
 have hat:∀ k:Nat,(kD a k)*q=kD r k:=by intro k;rw[hr];unfold kD;split <;> (try split) <;> rfl
 have HAT:=ai hat;have HR0:=ai hr;rw[show(⟨a.x*q,a.y*q,a.z*q⟩:V3)=r from hr.symm];clear hat hr;go_enter func176,ntmps176;go_wp2_with fail;refine aw (fun W=>Ext w W/\aq W w.heap.size #[.string (qs a.x),.string (qs a.y),.string (qs a.z)] 67/\aq W (w.heap.size+1) #[.string (qs b.x),.string (qs b.y),.string (qs b.z)] 67/\aq W (w.heap.size+1+1) #[.string ⟨#[]⟩,.string ⟨#[]⟩,.string ⟨#[]⟩] 161) ⟨(((Ext.refl _).alloc _).alloc _).alloc _,((aq.uD rfl).alloc _).alloc _,(aq.uD (by first|rfl|simp)).alloc _,aq.uD (by first|rfl|simp)⟩ ?_;rintro W ⟨ew,b0,b1,b2⟩;have HC:=ai (And.intro (b0.cell 0 rfl) (And.intro (b0.cell 1 rfl) (And.intro (b0.cell 2 rfl) (And.intro (b1.cell 0 rfl) (And.intro (b1.cell 1 rfl) (b1.cell 2 rfl))))));have HEW:=ai ew;have HB2:=ai b2;clear b0 b1 b2 ew;go_cut [7,8] from 10 to 13 (fun p q wx=>∃ i j:Nat,p = .pointer (some ⟨i,0,none⟩)/\q = .pointer (some ⟨j,0,none⟩)/\i≠j/\W.heap.size<=i/\W.heap.size<=j/\Ext W wx/\aq wx i #[.string (qs a.x),.string (qs a.y),.string (qs a.z)] 161/\aq wx j #[.string (qs b.x),.string (qs b.y),.string (qs b.z)] 161)
 case first =>
  go_region_held3 (fun w'=>w'.cell? ⟨w.heap.size,0,none⟩=some (.string (qs a.x))/\w'.cell? ⟨w.heap.size,1,none⟩=some (.string (qs a.y))/\w'.cell? ⟨w.heap.size,2,none⟩=some (.string (qs a.z))/\w'.cell? ⟨w.heap.size+1,0,none⟩=some (.string (qs b.x))/\w'.cell? ⟨w.heap.size+1,1,none⟩=some (.string (qs b.y))/\w'.cell? ⟨w.heap.size+1,2,none⟩=some (.string (qs b.z)))
   (exact qI (by repeat (first|exact Ext.refl _|apply Ext.drew|apply Ext.alloc|(refine Ext.setCell ?_ (by simp) _))) HC.o) (first
   | (go_at_call 227;((with_reducible refine(As ⟨qs a.x,qs a.y,qs a.z⟩ _).mono ?_);rintro e w' ⟨rfl,rfl⟩))
   | (go_at_call 227;refine(As ⟨qs b.x,qs b.y,qs b.z⟩ _).mono ?_;rintro e w' ⟨rfl,rfl⟩))
  all_goals (go_wp2;go_meet)
  all_goals (refine⟨_,_,rfl,rfl,ae,ae,ae,by(repeat (first|exact Ext.refl _|apply Ext.drew|apply Ext.alloc|(refine Ext.setCell ?_ (by simp) _))),?_,?_⟩)
  all_goals (repeat (first|(refine aq.uD ?_;first|rfl|(simp only[World.size_alloc];done)|(simp only[World.size_alloc];omega))|apply aq.alloc|apply aq.drew))
 case rest =>
  obtain⟨i,j,rfl,rfl,hij,hi,hj,hx,B1,B2⟩:=hcut;have HIJ:=ai hij;have HI:=ai hi;have HJ:=ai hj;have H1:=ai B1;have H2:=ai B2;have HX:=ai hx;clear B1 B2 hx hij hi hj;go_wp2_with fail;go_loopw [14] (fun x wx=>∃ k:Nat,x = .int .i64 k/\k<=3/\Hid (Ext W wx/\aq wx i (mC r a k) 161/\aq wx j #[.string (qs b.x),.string (qs b.y),.string (qs b.z)] 161)) (fun x _=>3-(intOf x).toNat)
  case atStart=>exact⟨0,rfl,ae,ai ⟨HX.o,by rw[BO];exact H1.o,H2.o⟩⟩
  case round =>
   rename_i wx;obtain⟨k,rfl,hk,HH⟩:=hrel;by_cases hk3:k<3
   ·have hix:∀ (w:World) (b:Nat),(Instr.indexAt 161 (.pointer (some ⟨b,0,none⟩)) (.int .i64 (k:Int))).run prog w = .ok (.pointer (some ⟨b,k,none⟩)) w:=fun w b=>xx w b k hk3
    have c0:=HH.o.2.1.drew.cell k (rE hk3);have k0:=HH.o.2.2.drew.cell k (tJ hk3);go_upto_region 5 with fail
    go_region_with (first
     | (go_at_call 177;refine cto (zr (kD a k) (kD b k) q cb _ (HG.o.ext (HEW.o.trans HH.o.1.drew)) (HA.o.at k) HQ.o (HCB.o.ext (HEW.o.trans HH.o.1.drew)) ae ae) fun w1 e0=>?_;have R:=HH.o.2.1.drew.ext e0;have d0:=R.cell k (rE hk3);have f0:=R.free k;have HR:=ai R;clear R))
    all_goals
     have HN:Hid (Ext W (w1.setCell ⟨i,k,none⟩ (.string (qs ((kD a k)*q))))/\aq (w1.setCell ⟨i,k,none⟩ (.string (qs ((kD a k)*q)))) i (mC r a (k+1)) 161/\aq (w1.setCell ⟨i,k,none⟩ (.string (qs ((kD a k)*q)))) j #[.string (qs b.x),.string (qs b.y),.string (qs b.z)] 161) :=
      ai ⟨(HH.o.1.drew.trans e0).setCell (p:=⟨i,k,none⟩) HI.o _,by rw[← xv hk3 (HAT.o k)];exact HR.o.set k _,(HH.o.2.2.drew.ext e0).other (a:=⟨i,k,none⟩) _ (fun h=>HIJ.o h.symm)⟩
     clear c0 d0 f0 k0 HR;go_wp2_with fail;go_roundw
     case rel=>exact⟨k+1,by go_num,ae,HN⟩
     case measure=>simp[intOf];omega
   ·obtain rfl:k=3:=ae;have h3:=HH.o.2.1;rw[BN] at h3;have c0:=h3.cell 0 rfl;have c1:=h3.cell 1 rfl;have c2:=h3.cell 2 rfl;have RR:=HB2.o.ext HH.o.1;have r0:=RR.cell 0 rfl;have r1:=RR.cell 1 rfl;have r2:=RR.cell 2 rfl;have q0:=RR.free 0;have q1:=RR.free 1;have q2:=RR.free 2;have HRR:=ai RR;clear RR h3 hk3;go_wp2;refine aw (fun W'=>Ext w W'/\aq W' (w.heap.size+1+1) #[.string (qs r.x),.string (qs r.y),.string (qs r.z)] 161) ⟨((((HEW.o.trans HH.o.1).setCell (by simp only[];omega) _).setCell (by simp only[];omega) _).setCell (by simp only[];omega) _),((HRR.o.set 0 _).set 1 _).set 2 _⟩ ?_;clear c0 c1 c2 r0 r1 r2 q0 q1 q2;rintro W' ⟨ex,R3⟩;have g0:=R3.cell 0 rfl;have g1:=R3.cell 1 rfl;have g2:=R3.cell 2 rfl;refine bodyPost_ret (v:=.agg #[.string (qs r.x),.string (qs r.y),.string (qs r.z)]) (by simp[results,results176,go_sem,g0,g1,g2]) rfl ⟨rfl,ex⟩
theorem BF(v:V3)(w:World)(h:¬ (v.x=0/\v.y=0/\v.z=0)):Calls prog 103 #[vv v] w (aD w (.bool false)):=by
 have:=vO v w;rwa[decide_eq_false h] at this
def z3(x y z:Rat):Bool:=decide (x=0/\y=0/\z=0)
theorem BG(x y z:Rat)(w:World):Calls prog 103 #[.agg #[.string (qs x),.string (qs y),.string (qs z)]] w (aD w (.bool (z3 x y z))):=vO ⟨x,y,z⟩ w
theorem jQ(a b c d:Rat){k m n o:Nat}(w:World)(g:Gd w)(ha:QB k a)(hb:QB m b)(hc:QB n c)(hd:QB o d)(hk:k<=1400)(hm:m<=1400)(hn:n<=1400)(ho:o<=1400):Calls prog 172 #[.string (qs a),.string (qs b),.string (qs c),.string (qs d)] w (aD w (.string (qs (a*d-b*c)))):=by
 have HA:=ai ha;have HB:=ai hb;have HC:=ai hc;have HD:=ai hd;have HG:=ai g;clear ha hb hc hd g;go_enter func172,ntmps172;go_wp2_with fail;refine cto (bD a d _ (HG.o.ext (Ext.refl w)) HA.o HD.o ae ae) fun w1 e1=>?_
 have HX1:Hid (Ext w w1):=ai ((Ext.refl w).trans e1);clear e1;go_wp2_with fail;refine cto (bD b c _ (HG.o.ext HX1.o) HB.o HC.o ae ae) fun w2 e2=>?_
 have HX2:=ai (HX1.o.trans e2);clear e2;go_wp2_with fail;refine cto (gP (a*d) (b*c) _ (HG.o.ext HX2.o) (HA.o.mul HD.o) (HB.o.mul HC.o) ae ae) fun w3 e3=>?_
 have HX3:=ai (HX2.o.trans e3);clear e3;go_wp2;go_ret;exact⟨rfl,HX3.o⟩
theorem xt(a b:V3){k m:Nat}(w:World)(g:Gd w)(ha:VB k a)(hb:VB m b)(hk:k<=900)(hm:m<=900):Calls prog 104 #[.agg #[.string (qs a.x),.string (qs a.y),.string (qs a.z)],.agg #[.string (qs b.x),.string (qs b.y),.string (qs b.z)]] w (aD w (.agg #[.string (qs (a.y*b.z-a.z*b.y)),.string (qs (a.z*b.x-a.x*b.z)),.string (qs (a.x*b.y-a.y*b.x))])):=by
 have HA:=ai ha;have HB:=ai hb;have HG:=ai g;clear ha hb g;go_enter func104,ntmps104;go_wp2_with fail;refine aw (fun W=>Ext w W/\aq W (w.heap.size) #[.string (qs a.x),.string (qs a.y),.string (qs a.z)] 67/\aq W (w.heap.size+1) #[.string (qs b.x),.string (qs b.y),.string (qs b.z)] 67/\aq W (w.heap.size+1+1) #[.string ⟨#[]⟩,.string ⟨#[]⟩,.string ⟨#[]⟩] 67) ⟨((((Ext.refl w).alloc _).alloc _).alloc _),(((aq.nw (#[.string (qs a.x),.string (qs a.y),.string (qs a.z)]) 67).alloc _).alloc _),((aq.nw (#[.string (qs b.x),.string (qs b.y),.string (qs b.z)]) 67).alloc _),(aq.nw (#[.string ⟨#[]⟩,.string ⟨#[]⟩,.string ⟨#[]⟩]) 67)⟩ ?_;rintro w1 ⟨e1,bB0_1,bB1_1,bB2_1⟩;have HX1:=ai e1;have HB0_1:=ai bB0_1;have HB1_1:=ai bB1_1;have HB2_1:=ai bB2_1;have HGEB0:Hid (w.heap.size<=w.heap.size):=ai ah;have HGEB1:Hid (w.heap.size<=w.heap.size+1):=ai ah;have HGEB2:Hid (w.heap.size<=w.heap.size+1+1):=ai ah;clear e1 bB0_1 bB1_1 bB2_1;have hS1:w1.cell? ⟨w.heap.size,1,none⟩=some (.string (qs a.y))/\w1.cell? ⟨w.heap.size,2,none⟩=some (.string (qs a.z))/\w1.cell? ⟨w.heap.size+1,1,none⟩=some (.string (qs b.y))/\w1.cell? ⟨w.heap.size+1,2,none⟩=some (.string (qs b.z))/\w1.cell? ⟨w.heap.size,0,none⟩=some (.string (qs a.x))/\w1.cell? ⟨w.heap.size+1,0,none⟩=some (.string (qs b.x)):=⟨HB0_1.o.cell 1 rfl,HB0_1.o.cell 2 rfl,HB1_1.o.cell 1 rfl,HB1_1.o.cell 2 rfl,HB0_1.o.cell 0 rfl,HB1_1.o.cell 0 rfl⟩
 have HS1:=ai hS1;clear hS1;go_region_held3 (fun w'=>w'.cell? ⟨w.heap.size,1,none⟩=some (.string (qs a.y))/\w'.cell? ⟨w.heap.size,2,none⟩=some (.string (qs a.z))/\w'.cell? ⟨w.heap.size+1,1,none⟩=some (.string (qs b.y))/\w'.cell? ⟨w.heap.size+1,2,none⟩=some (.string (qs b.z))/\w'.cell? ⟨w.heap.size,0,none⟩=some (.string (qs a.x))/\w'.cell? ⟨w.heap.size+1,0,none⟩=some (.string (qs b.x)))
  (((try simp only[iQ (show w.heap.size≠w.heap.size+1+1 from ah),iQ (show w.heap.size+1≠w.heap.size+1+1 from ah)]);exact qI (by repeat (first|assumption|exact Ext.refl _|apply Ext.drew|apply Ext.alloc|(refine Ext.setCell ?_ ah _)|(refine Ext.trans ?_ (by assumption)))) HS1.o)) ((first
   | (go_at_call 172;((with_reducible refine(jQ a.y a.z b.y b.z _ (HG.o.ext (HX1.o.trans (by repeat (first|assumption|exact Ext.refl _|apply Ext.drew|apply Ext.alloc|(refine Ext.setCell ?_ ah _)|(refine Ext.trans ?_ (by assumption)))))) HA.o.y HA.o.z HB.o.y HB.o.z ae ae ae ae).mono ?_);rintro e w2 ⟨rfl,e2⟩))
   | (go_at_call 172;((with_reducible refine(jQ a.z a.x b.z b.x _ (HG.o.ext (HX1.o.trans (by repeat (first|assumption|exact Ext.refl _|apply Ext.drew|apply Ext.alloc|(refine Ext.setCell ?_ ah _)|(refine Ext.trans ?_ (by assumption)))))) HA.o.z HA.o.x HB.o.z HB.o.x ae ae ae ae).mono ?_);rintro e w3 ⟨rfl,e3⟩))
   | (go_at_call 172;((with_reducible refine(jQ a.x a.y b.x b.y _ (HG.o.ext (HX1.o.trans (by repeat (first|assumption|exact Ext.refl _|apply Ext.drew|apply Ext.alloc|(refine Ext.setCell ?_ ah _)|(refine Ext.trans ?_ (by assumption)))))) HA.o.x HA.o.y HB.o.x HB.o.y ae ae ae ae).mono ?_);rintro e w4 ⟨rfl,e4⟩;have RB2:=aq.ext HB2_1.o (w':=w4) (by repeat (first|assumption|exact Ext.refl _|apply Ext.drew|(refine Ext.trans ?_ (by assumption))));have cB2_0:=RB2.cell 0 rfl;have fB2_0:=RB2.free 0;have cB2_1:=RB2.cell 1 rfl;have fB2_1:=RB2.free 1;have cB2_2:=RB2.cell 2 rfl;have fB2_2:=RB2.free 2;have HRB2:=ai RB2;clear RB2))))
 refine aw (fun W=>Ext w W/\aq W (w.heap.size+1+1) #[.string (qs (a.y*b.z-a.z*b.y)),.string (qs (a.z*b.x-a.x*b.z)),.string (qs (a.x*b.y-a.y*b.x))] 67) ⟨((((HX1.o.trans ((((Ext.refl _).drew.trans e2).trans e3).trans e4)).setCell (by have:=HGEB2.o;first|omega|(simp only[];omega)|(simp;omega)) _).setCell (by have:=HGEB2.o;first|omega|(simp only[];omega)|(simp;omega)) _).setCell (by have:=HGEB2.o;first|omega|(simp only[];omega)|(simp;omega)) _),((((aq.ext HB2_1.o ((((Ext.refl _).drew.trans e2).trans e3).trans e4)).set 0 (.string (qs (a.y*b.z-a.z*b.y)))).set 1 (.string (qs (a.z*b.x-a.x*b.z)))).set 2 (.string (qs (a.x*b.y-a.y*b.x))))⟩ ?_;clear cB2_0 fB2_0 cB2_1 fB2_1 cB2_2 fB2_2;rintro w5 ⟨e5,bB2_5⟩;have HX5:=ai e5;have HB2_5:=ai bB2_5;clear e5 bB2_5;go_wp2_with fail;have gB2_0:=HB2_5.o.cell 0 rfl;have gB2_1:=HB2_5.o.cell 1 rfl;have gB2_2:=HB2_5.o.cell 2 rfl;refine bodyPost_ret (v:=.agg #[.string (qs (a.y*b.z-a.z*b.y)),.string (qs (a.z*b.x-a.x*b.z)),.string (qs (a.x*b.y-a.y*b.x))]) (by simp[results,results104,go_sem,gB2_0,gB2_1,gB2_2]) rfl ⟨rfl,HX5.o⟩
theorem yY(a b c:P2){k m n:Nat}(w:World)(g:Gd w)(ha:PB k a)(hb:PB m b)(hc:PB n c)(hk:k<=600)(hm:m<=600)(hn:n<=600):Calls prog 90 #[.agg #[.string (qs a.x),.string (qs a.y)],.agg #[.string (qs b.x),.string (qs b.y)],.agg #[.string (qs c.x),.string (qs c.y)]] w (aD w (.string (qs ((b.x-a.x)*(c.y-a.y)-(b.y-a.y)*(c.x-a.x))))):=by
 have HA:=ai ha;have HB:=ai hb;have HC:=ai hc;have HG:=ai g;clear ha hb hc g;go_enter func90,ntmps90;go_wp2_with fail;refine aw (fun W=>Ext w W/\aq W (w.heap.size) #[.string (qs a.x),.string (qs a.y)] 58/\aq W (w.heap.size+1) #[.string (qs b.x),.string (qs b.y)] 58/\aq W (w.heap.size+1+1) #[.string (qs c.x),.string (qs c.y)] 58) ⟨((((Ext.refl w).alloc _).alloc _).alloc _),(((aq.nw (#[.string (qs a.x),.string (qs a.y)]) 58).alloc _).alloc _),((aq.nw (#[.string (qs b.x),.string (qs b.y)]) 58).alloc _),(aq.nw (#[.string (qs c.x),.string (qs c.y)]) 58)⟩ ?_;rintro w1 ⟨e1,bB0_1,bB1_1,bB2_1⟩;have HX1:=ai e1;have HB0_1:=ai bB0_1;have HB1_1:=ai bB1_1;have HB2_1:=ai bB2_1;have HGEB0:Hid (w.heap.size<=w.heap.size):=ai ah;have HGEB1:Hid (w.heap.size<=w.heap.size+1):=ai ah;have HGEB2:Hid (w.heap.size<=w.heap.size+1+1):=ai ah;clear e1 bB0_1 bB1_1 bB2_1;have hS1:w1.cell? ⟨w.heap.size+1,0,none⟩=some (.string (qs b.x))/\w1.cell? ⟨w.heap.size,0,none⟩=some (.string (qs a.x))/\w1.cell? ⟨w.heap.size+1,1,none⟩=some (.string (qs b.y))/\w1.cell? ⟨w.heap.size,1,none⟩=some (.string (qs a.y))/\w1.cell? ⟨w.heap.size+1+1,0,none⟩=some (.string (qs c.x))/\w1.cell? ⟨w.heap.size+1+1,1,none⟩=some (.string (qs c.y)):=⟨HB1_1.o.cell 0 rfl,HB0_1.o.cell 0 rfl,HB1_1.o.cell 1 rfl,HB0_1.o.cell 1 rfl,HB2_1.o.cell 0 rfl,HB2_1.o.cell 1 rfl⟩
 have HS1:=ai hS1;clear hS1;go_region_held3 (fun w'=>w'.cell? ⟨w.heap.size+1,0,none⟩=some (.string (qs b.x))/\w'.cell? ⟨w.heap.size,0,none⟩=some (.string (qs a.x))/\w'.cell? ⟨w.heap.size+1,1,none⟩=some (.string (qs b.y))/\w'.cell? ⟨w.heap.size,1,none⟩=some (.string (qs a.y))/\w'.cell? ⟨w.heap.size+1+1,0,none⟩=some (.string (qs c.x))/\w'.cell? ⟨w.heap.size+1+1,1,none⟩=some (.string (qs c.y)))
  ((exact qI (by repeat (first|assumption|exact Ext.refl _|apply Ext.drew|apply Ext.alloc|(refine Ext.setCell ?_ ah _)|(refine Ext.trans ?_ (by assumption)))) HS1.o)) ((first
   | (go_at_call 117;((with_reducible refine(gP b.x a.x _ (HG.o.ext (HX1.o.trans (by repeat (first|assumption|exact Ext.refl _|apply Ext.drew|apply Ext.alloc|(refine Ext.setCell ?_ ah _)|(refine Ext.trans ?_ (by assumption)))))) HB.o.x HA.o.x ae ae).mono ?_);rintro e w2 ⟨rfl,e2⟩))
   | (go_at_call 117;((with_reducible refine(gP b.y a.y _ (HG.o.ext (HX1.o.trans (by repeat (first|assumption|exact Ext.refl _|apply Ext.drew|apply Ext.alloc|(refine Ext.setCell ?_ ah _)|(refine Ext.trans ?_ (by assumption)))))) HB.o.y HA.o.y ae ae).mono ?_);rintro e w3 ⟨rfl,e3⟩))
   | (go_at_call 117;((with_reducible refine(gP c.x a.x _ (HG.o.ext (HX1.o.trans (by repeat (first|assumption|exact Ext.refl _|apply Ext.drew|apply Ext.alloc|(refine Ext.setCell ?_ ah _)|(refine Ext.trans ?_ (by assumption)))))) HC.o.x HA.o.x ae ae).mono ?_);rintro e w4 ⟨rfl,e4⟩))
   | (go_at_call 117;((with_reducible refine(gP c.y a.y _ (HG.o.ext (HX1.o.trans (by repeat (first|assumption|exact Ext.refl _|apply Ext.drew|apply Ext.alloc|(refine Ext.setCell ?_ ah _)|(refine Ext.trans ?_ (by assumption)))))) HC.o.y HA.o.y ae ae).mono ?_);rintro e w5 ⟨rfl,e5⟩))
   | (go_at_call 172;((with_reducible refine(jQ (b.x-a.x) (b.y-a.y) (c.x-a.x) (c.y-a.y) _ (HG.o.ext (HX1.o.trans (by repeat (first|assumption|exact Ext.refl _|apply Ext.drew|apply Ext.alloc|(refine Ext.setCell ?_ ah _)|(refine Ext.trans ?_ (by assumption)))))) (HB.o.x.sub HA.o.x) (HB.o.y.sub HA.o.y) (HC.o.x.sub HA.o.x) (HC.o.y.sub HA.o.y) ae ae ae ae).mono ?_);rintro e w6 ⟨rfl,e6⟩))))
 refine aw (fun W=>Ext w W) (HX1.o.trans ((((((Ext.refl _).drew.trans e2).trans e3).trans e4).trans e5).trans e6)) ?_;rintro w7 e7;have HX7:=ai e7;clear e7;go_wp2;go_ret;exact⟨rfl,HX7.o⟩
theorem kC(a:V3)(q:Rat){k m:Nat}(w:World)(g:Gd w)(ha:VB k a)(hq:QB m q)(hk:k<=3000)(hm:m<=3000):Calls prog 98 #[.agg #[.string (qs a.x),.string (qs a.y),.string (qs a.z)],.string (qs q)] w (aD w (.agg #[.string (qs (a.x*q)),.string (qs (a.y*q)),.string (qs (a.z*q))])):=by
 have HA:=ai ha;have HQ:=ai hq;have HG:=ai g;clear ha hq g;go_enter func98,ntmps98;go_wp2_with fail;refine cto (u6 a a q (w.heap.size+1) _ (HG.o.ext ((((Ext.refl w).alloc _).alloc _).alloc _)) HA.o HA.o HQ.o ((aq.nw (#[.string (qs q)]) 34).alloc _) ae ae) fun w1 e1=>?_
 have HX1:Hid (Ext w w1):=ai (((((Ext.refl w).alloc _).alloc _).alloc _).trans e1);have HB1_1:Hid (aq w1 (w.heap.size+1) #[.string (qs q)] 34):=ai (aq.ext ((aq.nw (#[.string (qs q)]) 34).alloc _) e1);have HB2_1:Hid (aq w1 (w.heap.size+1+1) #[.string ⟨#[]⟩,.string ⟨#[]⟩,.string ⟨#[]⟩] 161):=ai (aq.ext (aq.nw (#[.string ⟨#[]⟩,.string ⟨#[]⟩,.string ⟨#[]⟩]) 161) e1);have HGEB1:Hid (w.heap.size<=w.heap.size+1):=ai ah;have HGEB2:Hid (w.heap.size<=w.heap.size+1+1):=ai ah;clear e1;have c2_0:=HB2_1.o.cell 0 rfl;have f2_0:=HB2_1.o.free 0;have c2_1:=HB2_1.o.cell 1 rfl;have f2_1:=HB2_1.o.free 1;have c2_2:=HB2_1.o.cell 2 rfl;have f2_2:=HB2_1.o.free 2;go_wp2_with fail;refine aw (fun W=>Ext w W/\aq W (w.heap.size+1+1) #[.string (qs (a.x*q)),.string (qs (a.y*q)),.string (qs (a.z*q))] 161) ⟨(((HX1.o.setCell (by have:=HGEB2.o;first|omega|(simp only[];omega)|(simp;omega)) _).setCell (by have:=HGEB2.o;first|omega|(simp only[];omega)|(simp;omega)) _).setCell (by have:=HGEB2.o;first|omega|(simp only[];omega)|(simp;omega)) _),(((HB2_1.o.set 0 (.string (qs (a.x*q)))).set 1 (.string (qs (a.y*q)))).set 2 (.string (qs (a.z*q))))⟩ ?_;rintro w2 ⟨e2,bB2_2⟩;have HX2:=ai e2;have HB2_2:=ai bB2_2;clear e2 bB2_2 c2_0 f2_0 c2_1 f2_1 c2_2 f2_2;have gB2_0:=HB2_2.o.cell 0 rfl;have gB2_1:=HB2_2.o.cell 1 rfl;have gB2_2:=HB2_2.o.cell 2 rfl;refine bodyPost_ret (v:=.agg #[.string (qs (a.x*q)),.string (qs (a.y*q)),.string (qs (a.z*q))]) (by simp[results,results98,go_sem,gB2_0,gB2_1,gB2_2]) rfl ⟨rfl,HX2.o⟩
theorem xu(a:V3)(q:Rat)(w:World)(g:Gd w)(ha:VB 200 a)(hq:QB 200 q)(hr:VB 200 ⟨a.x*q,a.y*q,a.z*q⟩):Calls prog 32 #[.agg #[.string (qs a.x),.string (qs a.y),.string (qs a.z)],.string (qs q)] w (aD w (.tuple #[.agg #[.string (qs (a.x*q)),.string (qs (a.y*q)),.string (qs (a.z*q))],.int .i64 0])):=by
 have HA:=ai ha;have HQ:=ai hq;have HR:=ai hr;have HG:=ai g;clear ha hq hr g;go_enter func32,ntmps32;go_wp2_with fail;refine cto (ld a (w.heap.size+1+1) _ (HG.o.ext ((((Ext.refl w).alloc _).alloc _).alloc _)) (HA.o.mono ae) (aq.nw (#[.string (qs a.x),.string (qs a.y),.string (qs a.z)]) 67)) fun w1 e1=>?_
 have HX1:Hid (Ext w w1):=ai (((((Ext.refl w).alloc _).alloc _).alloc _).trans e1);have HB0_1:Hid (aq w1 (w.heap.size) #[.string (qs a.x),.string (qs a.y),.string (qs a.z)] 67):=ai (aq.ext (((aq.nw (#[.string (qs a.x),.string (qs a.y),.string (qs a.z)]) 67).alloc _).alloc _) e1);have HB1_1:Hid (aq w1 (w.heap.size+1) #[.string ⟨#[]⟩,.string ⟨#[]⟩,.string ⟨#[]⟩] 67):=ai (aq.ext ((aq.nw (#[.string ⟨#[]⟩,.string ⟨#[]⟩,.string ⟨#[]⟩]) 67).alloc _) e1);have HB2_1:Hid (aq w1 (w.heap.size+1+1) #[.string (qs a.x),.string (qs a.y),.string (qs a.z)] 67):=ai (aq.ext (aq.nw (#[.string (qs a.x),.string (qs a.y),.string (qs a.z)]) 67) e1);have HGEB0:Hid (w.heap.size<=w.heap.size):=ai ah;have HGEB1:Hid (w.heap.size<=w.heap.size+1):=ai ah;have HGEB2:Hid (w.heap.size<=w.heap.size+1+1):=ai ah;clear e1;go_wp2_with fail;refine cto (sj q (w1.heap.size) _ (HG.o.ext (HX1.o.alloc _)) HQ.o (aq.nw (#[.string (qs q)]) 34)) fun w2 e2=>?_
 have HX2:Hid (Ext w w2):=ai ((HX1.o.alloc _).trans e2);have HB0_2:Hid (aq w2 (w.heap.size) #[.string (qs a.x),.string (qs a.y),.string (qs a.z)] 67):=ai (aq.ext (HB0_1.o.alloc _) e2);have HB1_2:Hid (aq w2 (w.heap.size+1) #[.string ⟨#[]⟩,.string ⟨#[]⟩,.string ⟨#[]⟩] 67):=ai (aq.ext (HB1_1.o.alloc _) e2);have HB3_2:Hid (aq w2 (w1.heap.size) #[.string (qs q)] 34):=ai (aq.ext (aq.nw (#[.string (qs q)]) 34) e2);have HGEB3:Hid (w.heap.size<=w1.heap.size):=ai (by have:=HX1.o.size;first|omega|(simp only[];omega)|(simp;omega));clear e2;have c0_0:=HB0_2.o.cell 0 rfl;have c0_1:=HB0_2.o.cell 1 rfl;have c0_2:=HB0_2.o.cell 2 rfl;go_wp2_with fail;refine cto (kC a q _ (HG.o.ext HX2.o) HA.o HQ.o ae ae) fun w3 e3=>?_
 have HX3:=ai (HX2.o.trans e3);have HB1_3:=ai (aq.ext HB1_2.o e3);clear e3 c0_0 c0_1 c0_2;go_wp2_with fail;refine cto (rS (a.x*q) (a.y*q) (a.z*q) _ HR.o.x HR.o.y HR.o.z) fun w4 e4=>?_
 have HX4:=ai (HX3.o.trans e4);have HB1_4:=ai (aq.ext HB1_3.o e4);clear e4;have c1_0:=HB1_4.o.cell 0 rfl;have f1_0:=HB1_4.o.free 0;have c1_1:=HB1_4.o.cell 1 rfl;have f1_1:=HB1_4.o.free 1;have c1_2:=HB1_4.o.cell 2 rfl;have f1_2:=HB1_4.o.free 2;go_wp2_with fail;refine aw (fun W=>Ext w W/\aq W (w.heap.size+1) #[.string (qs (a.x*q)),.string (qs (a.y*q)),.string (qs (a.z*q))] 67) ⟨(((HX4.o.setCell (by have:=HGEB1.o;first|omega|(simp only[];omega)|(simp;omega)) _).setCell (by have:=HGEB1.o;first|omega|(simp only[];omega)|(simp;omega)) _).setCell (by have:=HGEB1.o;first|omega|(simp only[];omega)|(simp;omega)) _),(((HB1_4.o.set 0 (.string (qs (a.x*q)))).set 1 (.string (qs (a.y*q)))).set 2 (.string (qs (a.z*q))))⟩ ?_;rintro w5 ⟨e5,bB1_5⟩;have HX5:=ai e5;have HB1_5:=ai bB1_5;clear e5 bB1_5 c1_0 f1_0 c1_1 f1_1 c1_2 f1_2;have gB1_0:=HB1_5.o.cell 0 rfl;have gB1_1:=HB1_5.o.cell 1 rfl;have gB1_2:=HB1_5.o.cell 2 rfl;refine bodyPost_ret (v:=.tuple #[.agg #[.string (qs (a.x*q)),.string (qs (a.y*q)),.string (qs (a.z*q))],.int .i64 0]) (by simp[results,results32,go_sem,gB1_0,gB1_1,gB1_2]) rfl ⟨rfl,HX5.o⟩
theorem pP(a b:V3)(w:World)(g:Gd w)(ha:VB 200 a)(hb:VB 200 b):Calls prog 35 #[.agg #[.string (qs a.x),.string (qs a.y),.string (qs a.z)],.agg #[.string (qs b.x),.string (qs b.y),.string (qs b.z)]] w (aD w (.tuple #[.bool (z3 (a.y*b.z-a.z*b.y) (a.z*b.x-a.x*b.z) (a.x*b.y-a.y*b.x)),.int .i64 0])):=by
 have HA:=ai ha;have HB:=ai hb;have HG:=ai g;clear ha hb g;go_enter func35,ntmps35;go_wp2_with fail;refine cto (rC a b (w.heap.size+1+1) _ (HG.o.ext ((((Ext.refl w).alloc _).alloc _).alloc _)) (HA.o.mono ae) (HB.o.mono ae) (aq.nw (#[.string (qs a.x),.string (qs a.y),.string (qs a.z),.string (qs b.x),.string (qs b.y),.string (qs b.z)]) 67)) fun w1 e1=>?_
 have HX1:Hid (Ext w w1):=ai (((((Ext.refl w).alloc _).alloc _).alloc _).trans e1);have HB0_1:Hid (aq w1 (w.heap.size) #[.string (qs a.x),.string (qs a.y),.string (qs a.z)] 67):=ai (aq.ext (((aq.nw (#[.string (qs a.x),.string (qs a.y),.string (qs a.z)]) 67).alloc _).alloc _) e1);have HB1_1:Hid (aq w1 (w.heap.size+1) #[.string (qs b.x),.string (qs b.y),.string (qs b.z)] 67):=ai (aq.ext ((aq.nw (#[.string (qs b.x),.string (qs b.y),.string (qs b.z)]) 67).alloc _) e1);have HB2_1:Hid (aq w1 (w.heap.size+1+1) #[.string (qs a.x),.string (qs a.y),.string (qs a.z),.string (qs b.x),.string (qs b.y),.string (qs b.z)] 67):=ai (aq.ext (aq.nw (#[.string (qs a.x),.string (qs a.y),.string (qs a.z),.string (qs b.x),.string (qs b.y),.string (qs b.z)]) 67) e1);have HGEB0:Hid (w.heap.size<=w.heap.size):=ai ah;have HGEB1:Hid (w.heap.size<=w.heap.size+1):=ai ah;have HGEB2:Hid (w.heap.size<=w.heap.size+1+1):=ai ah;clear e1;have c0_0:=HB0_1.o.cell 0 rfl;have c0_1:=HB0_1.o.cell 1 rfl;have c0_2:=HB0_1.o.cell 2 rfl;have c1_0:=HB1_1.o.cell 0 rfl;have c1_1:=HB1_1.o.cell 1 rfl;have c1_2:=HB1_1.o.cell 2 rfl;go_wp2_with fail;refine cto (xt a b _ (HG.o.ext HX1.o) HA.o HB.o ae ae) fun w2 e2=>?_
 have HX2:=ai (HX1.o.trans e2);clear e2 c0_0 c0_1 c0_2 c1_0 c1_1 c1_2;go_wp2_with fail;refine cto (BG (a.y*b.z-a.z*b.y) (a.z*b.x-a.x*b.z) (a.x*b.y-a.y*b.x) _) fun w3 e3=>?_
 have HX3:=ai (HX2.o.trans e3);clear e3;go_wp2;go_ret2;exact⟨rfl,HX3.o⟩
theorem y3(a b c:P2)(w:World)(g:Gd w)(ha:PB 200 a)(hb:PB 200 b)(hc:PB 200 c):Calls prog 28 #[.agg #[.string (qs a.x),.string (qs a.y)],.agg #[.string (qs b.x),.string (qs b.y)],.agg #[.string (qs c.x),.string (qs c.y)]] w (aD w (.tuple #[.int .i64 (((b.x-a.x)*(c.y-a.y)-(b.y-a.y)*(c.x-a.x)).num.sign),.int .i64 0])):=by
 have HA:=ai ha;have HB:=ai hb;have HC:=ai hc;have HG:=ai g;clear ha hb hc g;go_enter func28,ntmps28;go_wp2_with fail;refine cto (ux a b c (w.heap.size+1+1+1) _ (HG.o.ext (((((Ext.refl w).alloc _).alloc _).alloc _).alloc _)) (HA.o.mono ae) (HB.o.mono ae) (HC.o.mono ae) (aq.nw (#[.string (qs a.x),.string (qs a.y),.string (qs b.x),.string (qs b.y),.string (qs c.x),.string (qs c.y)]) 58)) fun w1 e1=>?_
 have HX1:Hid (Ext w w1):=ai ((((((Ext.refl w).alloc _).alloc _).alloc _).alloc _).trans e1);have HB0_1:Hid (aq w1 (w.heap.size) #[.string (qs a.x),.string (qs a.y)] 58):=ai (aq.ext ((((aq.nw (#[.string (qs a.x),.string (qs a.y)]) 58).alloc _).alloc _).alloc _) e1);have HB1_1:Hid (aq w1 (w.heap.size+1) #[.string (qs b.x),.string (qs b.y)] 58):=ai (aq.ext (((aq.nw (#[.string (qs b.x),.string (qs b.y)]) 58).alloc _).alloc _) e1);have HB2_1:Hid (aq w1 (w.heap.size+1+1) #[.string (qs c.x),.string (qs c.y)] 58):=ai (aq.ext ((aq.nw (#[.string (qs c.x),.string (qs c.y)]) 58).alloc _) e1);have HB3_1:Hid (aq w1 (w.heap.size+1+1+1) #[.string (qs a.x),.string (qs a.y),.string (qs b.x),.string (qs b.y),.string (qs c.x),.string (qs c.y)] 58):=ai (aq.ext (aq.nw (#[.string (qs a.x),.string (qs a.y),.string (qs b.x),.string (qs b.y),.string (qs c.x),.string (qs c.y)]) 58) e1);have HGEB0:Hid (w.heap.size<=w.heap.size):=ai ah;have HGEB1:Hid (w.heap.size<=w.heap.size+1):=ai ah;have HGEB2:Hid (w.heap.size<=w.heap.size+1+1):=ai ah;have HGEB3:Hid (w.heap.size<=w.heap.size+1+1+1):=ai ah;clear e1;have c0_0:=HB0_1.o.cell 0 rfl;have c0_1:=HB0_1.o.cell 1 rfl;have c1_0:=HB1_1.o.cell 0 rfl;have c1_1:=HB1_1.o.cell 1 rfl;have c2_0:=HB2_1.o.cell 0 rfl;have c2_1:=HB2_1.o.cell 1 rfl;go_wp2_with fail;refine cto (yY a b c _ (HG.o.ext HX1.o) HA.o HB.o HC.o ae ae ae) fun w2 e2=>?_
 have HX2:=ai (HX1.o.trans e2);clear e2 c0_0 c0_1 c1_0 c1_1 c2_0 c2_1;go_wp2_with fail;refine(aU ((b.x-a.x)*(c.y-a.y)-(b.y-a.y)*(c.x-a.x)) _).mono ?_;rintro e _ ⟨rfl,rfl⟩;go_wp2;go_ret2;exact⟨rfl,HX2.o⟩
theorem oG(v:V3)(w:World)(g:Gd w)(hv:VB 200 v):Calls prog 101 #[vv v] w (aD w (.int .i64 0)):=by
 have:=dr ⟨qs v.x,qs v.y,qs v.z⟩ w g hv.ts;rwa[show cg (T3.l ⟨qs v.x,qs v.y,qs v.z⟩)=0 from mI hv.all] at this
theorem mB(v:P2)(w:World)(g:Gd w)(hv:PB 200 v):Calls prog 111 #[pv v] w (aD w (.int .i64 0)):=by
 have:=dz ⟨qs v.x,qs v.y⟩ w g hv.ts;rwa[show cg (T2.l ⟨qs v.x,qs v.y⟩)=0 from mI hv.all] at this
theorem QB.yf{k:Nat}{q:Rat}(h:QB k q):IB k q.num:=⟨h.num⟩
theorem QB.jF{k:Nat}{q:Rat}(h:QB k q):IB k (q.den:Int):=⟨by simpa using h.den⟩
theorem IB.zero:IB 1 0:=⟨af⟩
theorem IB.one:IB 1 1:=⟨af⟩
theorem IB.gcd{k m:Nat}{a b:Int}(ha:IB k a)(hb:IB m b):IB (max k m) (Int.gcd a b:Int):=by
 by_cases h:b=0
 ·subst h;have:=ha.mono (Nat.le_max_left k m);exact this.of_le (by simp)
 ·exact(hb.mono (Nat.le_max_right k m)).of_le (by rw[Int.natAbs_natCast];exact Nat.le_of_dvd ae (Int.gcd_dvd_natAbs_right a b))
theorem IB.div{k:Nat}{a:Int}(ha:IB k a)(b:Int):IB k (a / b):=ha.of_le (Int.natAbs_ediv_le_natAbs a b)
theorem Gy(b:Int){m:Nat}(w:World)(g:Gd w)(hb:IB m b)(hm:m<=9000):Calls prog 182 #[.string ⟨#[49]⟩,.string (zs b)] w (aD w (.string (zs (Int.gcd 1 b:Int)))):=by
 have:=jr 1 b w g IB.one hb af hm;rwa[fe] at this
theorem Gz(b:Int){m:Nat}(w:World)(g:Gd w)(hb:IB m b)(hm:m<=9000):Calls prog 182 #[.string ⟨#[48]⟩,.string (zs b)] w (aD w (.string (zs (Int.gcd 0 b:Int)))):=by
 have:=jr 0 b w g IB.zero hb af hm;rwa[pE] at this
theorem AI(b:Int){m:Nat}(w:World)(g:Gd w)(hb:IB m b)(hm:m<=9000):Calls prog 88 #[.string ⟨#[49]⟩,.string (zs b)] w (aD w (.string (zs (1*b)))):=by
 have:=eB 1 b w g IB.one hb af hm;rwa[fe] at this
theorem xr(a:V3)(n:Int){k m:Nat}(w:World)(g:Gd w)(ha:VB k a)(hn:IB m n)(hk:k<=3000)(hm:m<=3000)(h1:1<=m):Calls prog 98 #[vv a,.string (zs n)] w (aD w (.agg #[.string (qs (a.x*(n:Rat))),.string (qs (a.y*(n:Rat))),.string (qs (a.z*(n:Rat)))])):=by
 have:=kC a (n:Rat) w g ha (QB.int hn h1) hk hm;rwa[jz] at this
theorem Gn (d:Nat) (hd:d≠0) {m:Nat} (w:World) (g:Gd w) (hdb:IB m (d:Int)) (hm:m<=8000) :
    Calls prog 229 #[.string ⟨#[49]⟩,.string (zs (d:Int))] w (aD w (.tuple #[.string (qs (mkRat 1 d)),.int .i64 0])):=by
 have:=DQ 1 d hd w g IB.one hdb af hm;rwa[fe] at this
theorem QB.Iw{m:Nat}{d:Nat}(hd:d≠0)(h:IB m (d:Int))(hm:1<=m):QB m (mkRat 1 d):=QB.mk' hd (Nat.one_lt_pow ae af) (by simpa using h.out)
theorem uP{a b:Int}(h:b≠0):(Int.gcd a b:Int)≠0:=by
 intro e;have e':Int.gcd a b=0:=ae;exact h (Int.gcd_eq_zero_iff.1 e').2
theorem vk(q:Rat):(q.den:Int)≠0:=by have:=q.den_nz;omega
def z7(v:V3):Int:=(Int.gcd 1 (v.x.den:Int):Int)
def sd(v:V3):Int:=1*((v.x.den:Int) / z7 v)
def r9(v:V3):Int:=sd v*((v.y.den:Int) / (Int.gcd (sd v) (v.y.den:Int):Int))
def nh(v:V3):Int:=r9 v*((v.z.den:Int) / (Int.gcd (r9 v) (v.z.den:Int):Int))
def Cr(v:V3):Int:=(Int.gcd 0 v.x.num:Int)
def Cq(v:V3):Int:=(Int.gcd (Cr v) v.y.num:Int)
def gp(v:V3):Nat:=Int.gcd (Cq v) v.z.num
def aC(v:V3):V3:=⟨v.x*(nh v:Rat),v.y*(nh v:Rat),v.z*(nh v:Rat)⟩
def aB(v:V3):V3:=⟨(aC v).x*mkRat 1 (gp (aC v)),(aC v).y*mkRat 1 (gp (aC v)),(aC v).z*mkRat 1 (gp (aC v))⟩
theorem Iu(v:V3){m:Nat}(w:World)(g:Gd w)(hb:IB m (v.x.den:Int))(hm:m<=9000):Calls prog 182 #[.string ⟨#[49]⟩,.string (zs (v.x.den:Int))] w (aD w (.string (zs (z7 v)))):=Gy _ w g hb hm
theorem EV(v:V3):z7 v≠0:=uP (vk _)
theorem IB.z7{k:Nat}{v:V3}(h:VB k v):IB (max 1 k) (z7 v):=IB.one.gcd (QB.jF h.x)
theorem Iq(v:V3){m:Nat}(w:World)(g:Gd w)(hb:IB m ((v.x.den:Int) / z7 v))(hm:m<=9000):Calls prog 88 #[.string ⟨#[49]⟩,.string (zs ((v.x.den:Int) / z7 v))] w (aD w (.string (zs (sd v)))):=AI _ w g hb hm
theorem Ip(v:V3){k m:Nat}(w:World)(g:Gd w)(ha:IB k (sd v))(hb:IB m ((v.y.den:Int) / (Int.gcd (sd v) (v.y.den:Int):Int)))(hk:k<=9000)(hm:m<=9000):Calls prog 88 #[.string (zs (sd v)),.string (zs ((v.y.den:Int) / (Int.gcd (sd v) (v.y.den:Int):Int)))] w (aD w (.string (zs (r9 v)))):=eB _ _ w g ha hb hk hm
theorem Io(v:V3){k m:Nat}(w:World)(g:Gd w)(ha:IB k (r9 v))(hb:IB m ((v.z.den:Int) / (Int.gcd (r9 v) (v.z.den:Int):Int)))(hk:k<=9000)(hm:m<=9000):Calls prog 88 #[.string (zs (r9 v)),.string (zs ((v.z.den:Int) / (Int.gcd (r9 v) (v.z.den:Int):Int)))] w (aD w (.string (zs (nh v)))):=eB _ _ w g ha hb hk hm
theorem It(v:V3){m:Nat}(w:World)(g:Gd w)(hb:IB m v.x.num)(hm:m<=9000):Calls prog 182 #[.string ⟨#[48]⟩,.string (zs v.x.num)] w (aD w (.string (zs (Cr v)))):=Gz _ w g hb hm
theorem Is(v:V3){k m:Nat}(w:World)(g:Gd w)(ha:IB k (Cr v))(hb:IB m v.y.num)(hk:k<=9000)(hm:m<=9000):Calls prog 182 #[.string (zs (Cr v)),.string (zs v.y.num)] w (aD w (.string (zs (Cq v)))):=jr _ _ w g ha hb hk hm
theorem Ir(v:V3){k m:Nat}(w:World)(g:Gd w)(ha:IB k (Cq v))(hb:IB m v.z.num)(hk:k<=9000)(hm:m<=9000):Calls prog 182 #[.string (zs (Cq v)),.string (zs v.z.num)] w (aD w (.string (zs (gp v:Int)))):=jr _ _ w g ha hb hk hm
theorem IB.sd{k:Nat}{v:V3}(h:VB k v):IB (1+k) (sd v):=IB.one.mul ((QB.jF h.x).div _)
theorem IB.r9{k:Nat}{v:V3}(h:VB k v):IB (1+k+k) (r9 v):=(IB.sd h).mul ((QB.jF h.y).div _)
theorem IB.nh{k:Nat}{v:V3}(h:VB k v):IB (1+k+k+k) (nh v):=(IB.r9 h).mul ((QB.jF h.z).div _)
theorem IB.Cr{k:Nat}{v:V3}(h:VB k v):IB (max 1 k) (Cr v):=IB.zero.gcd (QB.yf h.x)
theorem IB.Cq{k:Nat}{v:V3}(h:VB k v):IB (max (max 1 k) k) (Cq v):=(IB.Cr h).gcd (QB.yf h.y)
theorem IB.gp{k:Nat}{v:V3}(h:VB k v):IB (max (max (max 1 k) k) k) (gp v:Int):=(IB.Cq h).gcd (QB.yf h.z)
theorem BH(a:V3){k:Nat}(w:World)(g:Gd w)(ha:VB k a)(hk:k<=900):Calls prog 98 #[vv a,.string (zs (nh a))] w (aD w (vv (aC a))) :=
 xr a (nh a) w g ha (IB.nh ha) ae ae ae
theorem BI(a:V3){k m:Nat}(w:World)(g:Gd w)(ha:VB k (aC a))(hq:QB m (mkRat 1 (gp (aC a))))(hk:k<=3000)(hm:m<=3000):Calls prog 98 #[vv (aC a),.string (qs (mkRat 1 (gp (aC a))))] w (aD w (vv (aB a))) :=
 kC (aC a) (mkRat 1 (gp (aC a))) w g ha hq hk hm
set_option maxHeartbeats 16000000 in
theorem mA(a:V3)(w:World)(g:Gd w)(ha:VB 24 a)(hz:¬ (a.x=0/\a.y=0/\a.z=0))(hw:VB 97 (aC a))(hg0:gp (aC a)≠0)(hr:VB 200 (aB a)):Calls prog 158 #[.agg #[.string (qs a.x),.string (qs a.y),.string (qs a.z)]] w (aD w (.tuple #[.agg #[.string (qs ((aB a).x)),.string (qs ((aB a).y)),.string (qs ((aB a).z))],.int .i64 0])):=by
 have HA:=ai ha;have HZ:=ai hz;have HW:=ai hw;have HG0:=ai hg0;have HR:=ai hr;have HG:=ai g;clear ha hz hw hg0 hr g;have HQG:Hid (QB 97 (mkRat 1 (gp (aC a)))):=ai (QB.Iw HG0.o ((IB.gp HW.o).mono af) af);have ix0:∀ W,(Instr.index 161 (.agg #[.string (qs a.x),.string (qs a.y),.string (qs a.z)]) (.int .i64 0)).run prog W = .ok (.string (qs a.x)) W:=fun W=>ag
 have ix1:∀ W,(Instr.index 161 (.agg #[.string (qs a.x),.string (qs a.y),.string (qs a.z)]) (.int .i64 1)).run prog W = .ok (.string (qs a.y)) W:=fun W=>ag
 have ix2:∀ W,(Instr.index 161 (.agg #[.string (qs a.x),.string (qs a.y),.string (qs a.z)]) (.int .i64 2)).run prog W = .ok (.string (qs a.z)) W:=fun W=>ag
 have ix3:∀ W,(Instr.index 161 (.agg #[.string (qs ((aC a).x)),.string (qs ((aC a).y)),.string (qs ((aC a).z))]) (.int .i64 0)).run prog W = .ok (.string (qs ((aC a).x))) W:=fun W=>ag
 have ix4:∀ W,(Instr.index 161 (.agg #[.string (qs ((aC a).x)),.string (qs ((aC a).y)),.string (qs ((aC a).z))]) (.int .i64 1)).run prog W = .ok (.string (qs ((aC a).y))) W:=fun W=>ag
 have ix5:∀ W,(Instr.index 161 (.agg #[.string (qs ((aC a).x)),.string (qs ((aC a).y)),.string (qs ((aC a).z))]) (.int .i64 2)).run prog W = .ok (.string (qs ((aC a).z))) W:=fun W=>ag
 go_enter func158,ntmps158;go_wp2_with fail;refine cto (ld a (w.heap.size+1+1) _ (HG.o.ext ((((Ext.refl w).alloc _).alloc _).alloc _)) (HA.o.mono ae) (aq.nw (#[.string (qs a.x),.string (qs a.y),.string (qs a.z)]) 67)) fun w1 e1=>?_
 have HX1:Hid (Ext w w1):=ai (((((Ext.refl w).alloc _).alloc _).alloc _).trans e1);have HB0_1:Hid (aq w1 (w.heap.size) #[.string (qs a.x),.string (qs a.y),.string (qs a.z)] 67):=ai (aq.ext (((aq.nw (#[.string (qs a.x),.string (qs a.y),.string (qs a.z)]) 67).alloc _).alloc _) e1);have HB1_1:Hid (aq w1 (w.heap.size+1) #[.string ⟨#[]⟩,.string ⟨#[]⟩,.string ⟨#[]⟩] 67):=ai (aq.ext ((aq.nw (#[.string ⟨#[]⟩,.string ⟨#[]⟩,.string ⟨#[]⟩]) 67).alloc _) e1);have HB2_1:Hid (aq w1 (w.heap.size+1+1) #[.string (qs a.x),.string (qs a.y),.string (qs a.z)] 67):=ai (aq.ext (aq.nw (#[.string (qs a.x),.string (qs a.y),.string (qs a.z)]) 67) e1);have HGEB0:Hid (w.heap.size<=w.heap.size):=ai ah;have HGEB1:Hid (w.heap.size<=w.heap.size+1):=ai ah;have HGEB2:Hid (w.heap.size<=w.heap.size+1+1):=ai ah;clear e1;have c0_0:=HB0_1.o.cell 0 rfl;have c0_1:=HB0_1.o.cell 1 rfl;have c0_2:=HB0_1.o.cell 2 rfl;go_wp2_with fail;refine cto (BF a _ HZ.o) fun w2 e2=>?_
 have HX2:=ai (HX1.o.trans e2);have HB0_2:=ai (aq.ext HB0_1.o e2);have HB1_2:=ai (aq.ext HB1_1.o e2);clear e2 c0_0 c0_1 c0_2;have c0_0:=HB0_2.o.cell 0 rfl;have c0_1:=HB0_2.o.cell 1 rfl;have c0_2:=HB0_2.o.cell 2 rfl;go_wp2_with fail;refine cto (Fc ⟨qs a.x,qs a.y,qs a.z⟩ _) fun w3 e3=>?_
 have HX3:=ai (HX2.o.trans e3);have HB0_3:=ai (aq.ext HB0_2.o e3);have HB1_3:=ai (aq.ext HB1_2.o e3);clear e3 c0_0 c0_1 c0_2;go_wp2_with fail;refine wp_loop_rounds 4 ?_;rw[rounds_succ];go_wp2_with fail;refine cto (bT a.x _ HA.o.x ae) fun w4 e4=>?_
 have HX4:=ai (HX3.o.trans e4);have HB0_4:=ai (aq.ext HB0_3.o e4);have HB1_4:=ai (aq.ext HB1_3.o e4);clear e4;go_wp2_with fail;refine cto (Iu a _ (HG.o.ext HX4.o) (QB.jF HA.o.x) ae) fun w5 e5=>?_
 have HX5:=ai (HX4.o.trans e5);have HB0_5:=ai (aq.ext HB0_4.o e5);have HB1_5:=ai (aq.ext HB1_4.o e5);clear e5;go_wp2_with fail;refine cto (iO (a.x.den:Int) (z7 a) _ (HG.o.ext HX5.o) (QB.jF HA.o.x) (IB.z7 HA.o) ae ae (EV a)) fun w6 e6=>?_
 have HX6:=ai (HX5.o.trans e6);have HB0_6:=ai (aq.ext HB0_5.o e6);have HB1_6:=ai (aq.ext HB1_5.o e6);clear e6;go_wp2_with fail;refine cto (Iq a _ (HG.o.ext HX6.o) (IB.div (QB.jF HA.o.x) (z7 a)) ae) fun w7 e7=>?_
 have HX7:=ai (HX6.o.trans e7);have HB0_7:=ai (aq.ext HB0_6.o e7);have HB1_7:=ai (aq.ext HB1_6.o e7);clear e7;go_wp2_with fail;rw[rounds_succ];go_wp2_with fail;refine cto (bT a.y _ HA.o.y ae) fun w8 e8=>?_
 have HX8:=ai (HX7.o.trans e8);have HB0_8:=ai (aq.ext HB0_7.o e8);have HB1_8:=ai (aq.ext HB1_7.o e8);clear e8;go_wp2_with fail;refine cto (jr (sd a) (a.y.den:Int) _ (HG.o.ext HX8.o) (IB.sd HA.o) (QB.jF HA.o.y) ae ae) fun w9 e9=>?_
 have HX9:=ai (HX8.o.trans e9);have HB0_9:=ai (aq.ext HB0_8.o e9);have HB1_9:=ai (aq.ext HB1_8.o e9);clear e9;go_wp2_with fail;refine cto (iO (a.y.den:Int) (Int.gcd (sd a) (a.y.den:Int):Int) _ (HG.o.ext HX9.o) (QB.jF HA.o.y) (IB.gcd (IB.sd HA.o) (QB.jF HA.o.y)) ae ae (uP (vk _))) fun w10 e10=>?_
 have HX10:=ai (HX9.o.trans e10);have HB0_10:=ai (aq.ext HB0_9.o e10);have HB1_10:=ai (aq.ext HB1_9.o e10);clear e10;go_wp2_with fail;refine cto (Ip a _ (HG.o.ext HX10.o) (IB.sd HA.o) (IB.div (QB.jF HA.o.y) (Int.gcd (sd a) (a.y.den:Int):Int)) ae ae) fun w11 e11=>?_
 have HX11:=ai (HX10.o.trans e11);have HB0_11:=ai (aq.ext HB0_10.o e11);have HB1_11:=ai (aq.ext HB1_10.o e11);clear e11;go_wp2_with fail;rw[rounds_succ];go_wp2_with fail;refine cto (bT a.z _ HA.o.z ae) fun w12 e12=>?_
 have HX12:=ai (HX11.o.trans e12);have HB0_12:=ai (aq.ext HB0_11.o e12);have HB1_12:=ai (aq.ext HB1_11.o e12);clear e12;go_wp2_with fail;refine cto (jr (r9 a) (a.z.den:Int) _ (HG.o.ext HX12.o) (IB.r9 HA.o) (QB.jF HA.o.z) ae ae) fun w13 e13=>?_
 have HX13:=ai (HX12.o.trans e13);have HB0_13:=ai (aq.ext HB0_12.o e13);have HB1_13:=ai (aq.ext HB1_12.o e13);clear e13;go_wp2_with fail;refine cto (iO (a.z.den:Int) (Int.gcd (r9 a) (a.z.den:Int):Int) _ (HG.o.ext HX13.o) (QB.jF HA.o.z) (IB.gcd (IB.r9 HA.o) (QB.jF HA.o.z)) ae ae (uP (vk _))) fun w14 e14=>?_
 have HX14:=ai (HX13.o.trans e14);have HB0_14:=ai (aq.ext HB0_13.o e14);have HB1_14:=ai (aq.ext HB1_13.o e14);clear e14;go_wp2_with fail;refine cto (Io a _ (HG.o.ext HX14.o) (IB.r9 HA.o) (IB.div (QB.jF HA.o.z) (Int.gcd (r9 a) (a.z.den:Int):Int)) ae ae) fun w15 e15=>?_
 have HX15:=ai (HX14.o.trans e15);have HB0_15:=ai (aq.ext HB0_14.o e15);have HB1_15:=ai (aq.ext HB1_14.o e15);clear e15;go_wp2_with fail;rw[rounds_succ];have c0_0:=HB0_15.o.cell 0 rfl;have c0_1:=HB0_15.o.cell 1 rfl;have c0_2:=HB0_15.o.cell 2 rfl;go_wp2_with fail;refine cto (BH a _ (HG.o.ext HX15.o) HA.o ae) fun w16 e16=>?_
 have HX16:=ai (HX15.o.trans e16);have HB1_16:=ai (aq.ext HB1_15.o e16);clear e16 c0_0 c0_1 c0_2;go_wp2_with fail;refine wp_loop_rounds 4 ?_;rw[rounds_succ];go_wp2_with fail;refine cto (bT ((aC a).x) _ HW.o.x ae) fun w17 e17=>?_
 have HX17:Hid (Ext w w17):=ai ((HX16.o.alloc _).trans e17);have HB1_17:Hid (aq w17 (w.heap.size+1) #[.string ⟨#[]⟩,.string ⟨#[]⟩,.string ⟨#[]⟩] 67):=ai (aq.ext (HB1_16.o.alloc _) e17);have HB3_17:Hid (aq w17 (w16.heap.size) #[.string (qs ((aC a).x)),.string (qs ((aC a).y)),.string (qs ((aC a).z))] 161):=ai (aq.ext (aq.nw (#[.string (qs ((aC a).x)),.string (qs ((aC a).y)),.string (qs ((aC a).z))]) 161) e17);have HGEB3:Hid (w.heap.size<=w16.heap.size):=ai (by have:=HX16.o.size;first|omega|(simp only[];omega)|(simp;omega));clear e17;go_wp2_with fail;refine cto (It (aC a) _ (HG.o.ext HX17.o) (QB.yf HW.o.x) ae) fun w18 e18=>?_
 have HX18:=ai (HX17.o.trans e18);have HB1_18:=ai (aq.ext HB1_17.o e18);have HB3_18:Hid (aq w18 (w16.heap.size) #[.string (qs ((aC a).x)),.string (qs ((aC a).y)),.string (qs ((aC a).z))] 161):=ai (aq.ext HB3_17.o e18);clear e18;go_wp2_with fail;rw[rounds_succ];go_wp2_with fail;refine cto (bT ((aC a).y) _ HW.o.y ae) fun w19 e19=>?_
 have HX19:=ai (HX18.o.trans e19);have HB1_19:=ai (aq.ext HB1_18.o e19);have HB3_19:Hid (aq w19 (w16.heap.size) #[.string (qs ((aC a).x)),.string (qs ((aC a).y)),.string (qs ((aC a).z))] 161):=ai (aq.ext HB3_18.o e19);clear e19;go_wp2_with fail;refine cto (Is (aC a) _ (HG.o.ext HX19.o) (IB.Cr HW.o) (QB.yf HW.o.y) ae ae) fun w20 e20=>?_
 have HX20:=ai (HX19.o.trans e20);have HB1_20:=ai (aq.ext HB1_19.o e20);have HB3_20:Hid (aq w20 (w16.heap.size) #[.string (qs ((aC a).x)),.string (qs ((aC a).y)),.string (qs ((aC a).z))] 161):=ai (aq.ext HB3_19.o e20);clear e20;go_wp2_with fail;rw[rounds_succ];go_wp2_with fail;refine cto (bT ((aC a).z) _ HW.o.z ae) fun w21 e21=>?_
 have HX21:=ai (HX20.o.trans e21);have HB1_21:=ai (aq.ext HB1_20.o e21);have HB3_21:Hid (aq w21 (w16.heap.size) #[.string (qs ((aC a).x)),.string (qs ((aC a).y)),.string (qs ((aC a).z))] 161):=ai (aq.ext HB3_20.o e21);clear e21;go_wp2_with fail;refine cto (Ir (aC a) _ (HG.o.ext HX21.o) (IB.Cq HW.o) (QB.yf HW.o.z) ae ae) fun w22 e22=>?_
 have HX22:=ai (HX21.o.trans e22);have HB1_22:=ai (aq.ext HB1_21.o e22);have HB3_22:Hid (aq w22 (w16.heap.size) #[.string (qs ((aC a).x)),.string (qs ((aC a).y)),.string (qs ((aC a).z))] 161):=ai (aq.ext HB3_21.o e22);clear e22;go_wp2_with fail;rw[rounds_succ];go_wp2_with fail;refine cto (Gn (gp (aC a)) HG0.o _ (HG.o.ext HX22.o) (IB.gp HW.o) ae) fun w23 e23=>?_
 have HX23:=ai (HX22.o.trans e23);have HB1_23:=ai (aq.ext HB1_22.o e23);have HB3_23:Hid (aq w23 (w16.heap.size) #[.string (qs ((aC a).x)),.string (qs ((aC a).y)),.string (qs ((aC a).z))] 161):=ai (aq.ext HB3_22.o e23);clear e23;have c3_0:=HB3_23.o.cell 0 rfl;have c3_1:=HB3_23.o.cell 1 rfl;have c3_2:=HB3_23.o.cell 2 rfl;go_wp2_with fail;refine cto (rD ⟨qs ((aC a).x),qs ((aC a).y),qs ((aC a).z)⟩ _) fun w24 e24=>?_
 have HX24:=ai (HX23.o.trans e24);have HB1_24:=ai (aq.ext HB1_23.o e24);clear e24 c3_0 c3_1 c3_2;go_wp2_with fail;refine cto (BI a _ (HG.o.ext HX24.o) HW.o HQG.o ae ae) fun w25 e25=>?_
 have HX25:=ai (HX24.o.trans e25);have HB1_25:=ai (aq.ext HB1_24.o e25);clear e25;go_wp2_with fail;refine cto (rS (aB a).x (aB a).y (aB a).z _ HR.o.x HR.o.y HR.o.z) fun w26 e26=>?_
 have HX26:=ai (HX25.o.trans e26);have HB1_26:=ai (aq.ext HB1_25.o e26);clear e26;have c1_0:=HB1_26.o.cell 0 rfl;have f1_0:=HB1_26.o.free 0;have c1_1:=HB1_26.o.cell 1 rfl;have f1_1:=HB1_26.o.free 1;have c1_2:=HB1_26.o.cell 2 rfl;have f1_2:=HB1_26.o.free 2;go_wp2_with fail;refine aw (fun W=>Ext w W/\aq W (w.heap.size+1) #[.string (qs ((aB a).x)),.string (qs ((aB a).y)),.string (qs ((aB a).z))] 67) ⟨(((HX26.o.setCell (by have:=HGEB1.o;first|omega|(simp only[];omega)|(simp;omega)) _).setCell (by have:=HGEB1.o;first|omega|(simp only[];omega)|(simp;omega)) _).setCell (by have:=HGEB1.o;first|omega|(simp only[];omega)|(simp;omega)) _),(((HB1_26.o.set 0 (.string (qs ((aB a).x)))).set 1 (.string (qs ((aB a).y)))).set 2 (.string (qs ((aB a).z))))⟩ ?_;rintro w27 ⟨e27,bB1_27⟩;have HX27:=ai e27;have HB1_27:=ai bB1_27;clear e27 bB1_27 c1_0 f1_0 c1_1 f1_1 c1_2 f1_2;have gB1_0:=HB1_27.o.cell 0 rfl;have gB1_1:=HB1_27.o.cell 1 rfl;have gB1_2:=HB1_27.o.cell 2 rfl;refine bodyPost_ret (v:=.tuple #[.agg #[.string (qs ((aB a).x)),.string (qs ((aB a).y)),.string (qs ((aB a).z))],.int .i64 0]) (by simp[results,results158,go_sem,gB1_0,gB1_1,gB1_2]) rfl ⟨rfl,HX27.o⟩
def sm(n:Int)(d:Nat):Rat:=mkRat n (1+d)
theorem rK{n:Int}{d:Nat}(h0:-32768<=n)(h1:n<=32767)(h2:d<=255):QB 5 (sm n d):=QB.mk' ae ae ae
structure GV where
 n0:Int
 d0:Nat
 n1:Int
 d1:Nat
 n2:Int
 d2:Nat
structure xq(p:GV):Prop where
 a0:-32768<=p.n0
 b0:p.n0<=32767
 c0:p.d0<=255
 a1:-32768<=p.n1
 b1:p.n1<=32767
 c1:p.d1<=255
 a2:-32768<=p.n2
 b2:p.n2<=32767
 c2:p.d2<=255
def Hm(p:GV):V3:=⟨sm p.n0 p.d0,sm p.n1 p.d1,sm p.n2 p.d2⟩
def Im(p:GV):P2:=⟨sm p.n0 p.d0,sm p.n1 p.d1⟩
theorem xq.v{p:GV}(h:xq p):VB 5 (Hm p):=⟨rK h.a0 h.b0 h.c0,rK h.a1 h.b1 h.c1,rK h.a2 h.b2 h.c2⟩
theorem xq.p{p:GV}(h:xq p):PB 5 (Im p):=⟨rK h.a0 h.b0 h.c0,rK h.a1 h.b1 h.c1⟩
theorem gU{q:Rat}(h:0<q):q.num.sign=1:=by
 have h1:=(Rat.lt_iff 0 q).1 h;simp at h1;exact Int.sign_eq_one_of_pos h1
structure QD(n d:Nat)(q:Rat):Prop where
 num:q.num.natAbs<10 ^ n
 den:q.den<10 ^ d
theorem QD.qb{n d k:Nat}{q:Rat}(h:QD n d q)(h1:n<=k)(h2:d<=k):QB k q :=
 ⟨Nat.lt_of_lt_of_le h.num (Nat.pow_le_pow_right af h1),Nat.lt_of_lt_of_le h.den (Nat.pow_le_pow_right af h2)⟩
theorem QD.mk'{n d:Nat}{x:Int}{y:Nat}(h0:y≠0)(h1:x.natAbs<10 ^ n)(h2:y<10 ^ d):QD n d (mkRat x y) :=
 ⟨Nat.lt_of_le_of_lt (j7 _ _) h1,Nat.lt_of_le_of_lt (j8 _ _ h0) h2⟩
theorem QD.neg{n d:Nat}{a:Rat}(ha:QD n d a):QD n d (-a):=⟨by rw[Rat.neg_num,Int.natAbs_neg];exact ha.num,ha.den⟩
theorem QD.add{n d m e:Nat}{a b:Rat}(ha:QD n d a)(hb:QD m e b):QD (max (n+e) (d+m)+1) (d+e) (a+b):=by
 rw[Rat.add_def'];refine QD.mk' (Nat.mul_ne_zero a.den_nz b.den_nz) ?_ (cj ha.den hb.den);refine Nat.lt_of_le_of_lt (Int.natAbs_add_le _ _) ?_;rw[Int.natAbs_mul,Int.natAbs_mul,Int.natAbs_natCast,Int.natAbs_natCast,Nat.mul_comm b.num.natAbs];exact nw (cj ha.num hb.den) (cj ha.den hb.num)
theorem QD.sub{n d m e:Nat}{a b:Rat}(ha:QD n d a)(hb:QD m e b):QD (max (n+e) (d+m)+1) (d+e) (a-b):=by
 rw[Rat.sub_eq_add_neg];exact ha.add hb.neg
theorem QD.mul{n d m e:Nat}{a b:Rat}(ha:QD n d a)(hb:QD m e b):QD (n+m) (d+e) (a*b):=by
 rw[Rat.mul_def'];exact QD.mk' (Nat.mul_ne_zero a.den_nz b.den_nz) (by rw[Int.natAbs_mul];exact cj ha.num hb.num) (cj ha.den hb.den)
theorem QD.inv{n d:Nat}{a:Rat}(ha:QD n d a)(hn:1<=n):QD d n a⁻¹:=by
 constructor
 ·rw[Rat.num_inv,Int.natAbs_mul,Int.natAbs_natCast];have:a.num.sign.natAbs<=1:=by rw[Int.natAbs_sign];split <;> omega
  exact Nat.lt_of_le_of_lt (Nat.mul_le_mul_right _ this) (by rw[Nat.one_mul];exact ha.den)
 ·rw[Rat.den_inv];split
  ·exact Nat.one_lt_pow ae af
  ·exact ha.num
theorem QD.div{n d m e:Nat}{a b:Rat}(ha:QD n d a)(hb:QD m e b)(hm:1<=m):QD (n+e) (d+m) (a / b):=by
 rw[Rat.div_def];exact ha.mul (hb.inv hm)
structure VD(n d:Nat)(v:V3):Prop where
 x:QD n d v.x
 y:QD n d v.y
 z:QD n d v.z
theorem gV{q:Rat}(h:q<0):q.num.sign=-1:=by
 have h1:=(Rat.lt_iff q 0).1 h;simp at h1;exact Int.sign_eq_neg_one_of_neg h1
theorem xQ(x y:Rat):dL x y=(x-y).num.sign:=by
 unfold dL;split
 ·rename_i h;rw[gV (by grind)]
 ·split
  ·rename_i h;subst h;rw[show x-x=0 by grind];rfl
  ·rename_i h1 h2;rw[gU (by grind)]
theorem VD.vb{n d k:Nat}{v:V3}(h:VD n d v)(h1:n<=k)(h2:d<=k):VB k v:=⟨h.x.qb h1 h2,h.y.qb h1 h2,h.z.qb h1 h2⟩
def fr(n s:Int):Rat:=mkRat n s.toNat
def cv(a b:V3):Rat:=a.x*b.x+a.y*b.y+a.z*b.z
-- the same for quaternions of ints
theorem cE.CU{w:World}{ad:Option Addr}{n c N:Nat}(h:cE w (.slice ad n c) N)(h0:0<N)(h1:N<1000000000):n=1:=by
 obtain⟨l,⟨ad',cap,b,off,hv,_⟩,hc,hm⟩:=h;simp only[Value.slice.injEq] at hv;rw[hv.2.1];have hne:l≠[]:=by intro e;subst e;simp[mv] at hm;omega
 have hl:0<l.length:=List.length_pos_iff.2 hne;have hg:=hc.ge hne;rcases Nat.lt_or_ge 1 l.length with e|e
 ·have h2:1000000000 ^ 1<=1000000000 ^ (l.length-1):=Nat.pow_le_pow_right af ae;omega
 ·omega
theorem FU(e:TypeId)(t:Nat):2<=(Question.appendCap 2 1 e).cut t/\(Question.appendCap 2 1 e).cut t<=9223372036854775807:=by
 have h:(Question.appendCap 2 1 e).cut t=2+t % (2 ^ 63-2):=rfl;have:=Nat.mod_lt t (show 0<2 ^ 63-2 by decide);rw[h];omega
theorem kk{n:Nat}(h:n<=1000000000):Fd n:=((⟨af⟩:IB 10 (1000000000:Int)).fit af).mono h
theorem xM{r x:Nat}(hr:0<r)(hx:r<=x):r<=(x+r*r / x) / 2/\(r<x->(x+r*r / x) / 2<x)/\(r=x->(x+r*r / x) / 2=x):=by
 have hx0:0<x:=ae;obtain⟨d,rfl⟩:∃ d,x=r+d:=⟨x-r,ae⟩
 have k1:d<=r->r-d<=r*r / (r+d):=by
  intro hd;rw[Nat.le_div_iff_mul_le hx0];obtain⟨e,rfl⟩:∃ e,r=d+e:=⟨r-d,ae⟩
  have:(d+e-d)*(d+e+d)+d*d=(d+e)*(d+e):=by rw[Nat.add_sub_cancel_left];grind
  omega
 have k2:r<r+d->r*r / (r+d)<r:=by
  intro h;rw[Nat.div_lt_iff_lt_mul hx0];exact Nat.mul_lt_mul_of_pos_left h hr
 have k3:d=0->r*r / (r+d)=r:=by intro h;subst h;rw[Nat.add_zero,Nat.mul_div_cancel _ hr]
 generalize r*r / (r+d)=q at *;refine⟨?_,?_,?_⟩
 ·rcases Nat.le_total d r with h|h
  ·have:=k1 h;omega
  ·omega
 ·intro h;have:=k2 h;omega
 ·intro h;have:=k3 ae;omega
theorem wM(r:Nat)(w:World)(g:Gd w)(h0:0<r)(h1:r*r<1000000000):Calls prog 276 #[.string (zs ((r*r:Nat):Int))] w (aD w (.tuple #[.string (zs (r:Int)),.int .i64 0])):=by
 have hp:0<r*r:=Nat.mul_pos h0 h0;obtain⟨N,hN⟩:∃ N,r*r=N:=⟨_,rfl⟩
 rw[hN] at h1 hp ⊢;have hs:(N:Int).sign=1:=Int.sign_eq_one_of_pos ae;have la:(zl (N:Int)).length<=100000:=Nat.le_trans (eC (k:=9) af (by simpa using h1)) af;have HS:=ai hs;have HLA:=ai la;have HN:=ai hN;have HP:=ai hp;have H1:=ai h1;have H0:=ai h0;have HG:=ai g;clear hs la hN hp h1 h0 g;have hfp:=wU;have hmk:∀ W,(Instr.makeSlice 214 (.int .i64 1) (.int .i64 1)).run prog W = .ok (.slice (some ⟨W.heap.size,0,none⟩) 1 1) (W.alloc (.cells #[.int .u64 0] 245)):=fun W=>ag
 go_enter func276,ntmps276;go_wp2_with (first
  | (go_at_call 164;refine(HS.o▸dJ (N:Int) _).mono ?_;rintro e _ ⟨rfl,rfl⟩)
  | (go_at_call 169;refine(bW (N:Int) _ HLA.o).mono ?_;rintro e w3 ⟨va,rfl,e3,ad,na,ca,rfl,ma⟩;obtain rfl:na=1:=ma.CU (by simpa using HP.o) (by simpa using H1.o)))
 generalize hc0:(Question.appendCap 2 1 245).cut (w3.tape w3.drawn (Question.appendCap 2 1 245))=c0;have hcb:2<=c0/\c0<=9223372036854775807:=hc0▸FU _ _;clear hc0;refine aw (fun W=>Ext w W/\cE W (.slice ad 1 ca) N/\cE W (.slice (Option.some ⟨w3.heap.size+1+1,0,none⟩) 2 c0) 1000000000) ⟨(((e3.alloc _).alloc _).alloc _).drew,(by simpa using ma.ext (((((Ext.refl _).alloc _).alloc _).alloc _).drew)),?_⟩ ?_
 ·have hB:aq _ (w3.heap.size+1+1) _ 245:=(aq.uD (w:=(w3.alloc (.cells #[.int .u64 0] 245)).alloc (.cells #[.int .u64 1] 245)) (cs:=#[.int .u64 0,.int .u64 1] ++ Builtin.zeroCells #[.int .u64 0] (c0-2)) (t:=245) (by simp)).drew;have g1:((#[.int .u64 0,.int .u64 1]:Array Value) ++ Builtin.zeroCells #[.int .u64 0] (c0-2))[0]?=Option.some (.int .u64 0):=by rw[Array.getElem?_append_left af];rfl
  have g2:((#[.int .u64 0,.int .u64 1]:Array Value) ++ Builtin.zeroCells #[.int .u64 0] (c0-2))[1]?=Option.some (.int .u64 1):=by rw[Array.getElem?_append_left af];rfl
  have c1:=hB.cell 0 g1;have c2:=hB.cell 1 g2;refine⟨[0,1],Holds.some rfl ae ae hB.lt (fun i hi=>?_),⟨fun x hx=>?_,af⟩,rfl⟩
  ·match i,hi with
   | 0,_=>exact c1
   | 1,_=>exact c2
  ·simp at hx;omega
 rintro w4 ⟨e4,ma4,mx4⟩;have HR4:Hid (r<=1000000000):=ai (by have:=H1.o;rw[← HN.o] at this;have h:=H0.o;have:=Nat.le_mul_of_pos_right r h;omega);clear ma e3;go_loopg [5] 1000000000 (fun gk x W=>∃ (X:Nat) (xa:Option Addr) (xn xc:Nat),x = .slice xa xn xc/\Hid (cE W (.slice xa xn xc) X/\X<=1000000000/\r<=X/\Ext w W/\cE W (.slice ad 1 ca) N)/\X<=gk)
 case atStart=>exact⟨1000000000,_,_,_,rfl,ai ⟨mx4,Nat.le_refl _,HR4.o,e4,ma4⟩,Nat.le_refl _⟩
 case round =>
  rename World=>wL
  obtain⟨X,xa,xn,xc,rfl,HH,hgk⟩:=hrel;have HX0:Hid (0<X):=ai (Nat.lt_of_lt_of_le H0.o HH.o.2.2.1);obtain⟨q,hq⟩:∃ q,N / X=q:=⟨_,rfl⟩
  obtain⟨Y,hY⟩:∃ Y,(X+q) / 2=Y:=⟨_,rfl⟩
  have hst:=xM H0.o HH.o.2.2.1;rw[HN.o,hq,hY] at hst;have HST:=ai hst;have hqs:q<=1000000000:=by rw[← hq];exact Nat.le_trans (Nat.div_le_self _ _) (Nat.le_of_lt H1.o)
  have HQS:=ai hqs;have HQ:=ai hq;have HY:=ai hY;have HGK:=ai hgk;clear hst hqs hq hY hgk;go_wp2_with fail;refine(fR N X _ _ _ HH.o.2.2.2.2 HH.o.1 HX0.o (kk (Nat.le_of_lt H1.o))).mono ?_;rintro e w5 ⟨vq,vr,rfl,e5,mq,mr⟩;obtain⟨qa,ql,qc,rfl⟩:=mq.slice;obtain⟨ra,rl,rc,rfl⟩:=mr.slice;rw[HQ.o] at mq;go_wp2_with fail;refine(qo X q _ _ _ (HH.o.1.ext e5) mq (kk HH.o.2.1).fit (kk HQS.o).fit).mono ?_;rintro e w6 ⟨vs,rfl,e6,ms⟩;obtain⟨sa,sl,sc,rfl⟩:=ms.slice;go_wp2_with fail;refine(fR (X+q) 2 _ _ _ (ms.ext ((Ext.refl _).alloc _)) ⟨[2],Holds.one _ .u64 2 _,⟨fun x hx=>by simp at hx;omega,af⟩,rfl⟩ af ((⟨af⟩:IB 10 (2000000000:Int)).fit af |>.mono (by have:=HH.o.2.1;have:=HQS.o;simp;omega))).mono ?_;rintro e w7 ⟨vy,vz,rfl,e7,my,mz⟩;obtain⟨ya,yl,yc,rfl⟩:=my.slice;obtain⟨za,zl9,zc,rfl⟩:=mz.slice;rw[HY.o] at my;have HE:Hid (Ext w w7):=ai (((HH.o.2.2.2.1.trans e5).trans e6).trans (((Ext.refl _).alloc _).trans e7));have HE2:Hid (Ext wL w7):=ai ((e5.trans e6).trans (((Ext.refl _).alloc _).trans e7));have HMY:=ai my;clear e5 e6 e7 mq mr ms my mz;by_cases hlt:r<X
  ·have hyl:=HST.o.2.1 hlt;have hnc:eI Y X=-1:=by unfold eI;rw[if_pos hyl]
   have HNC:=ai hnc;have HYL:=ai hyl;clear hnc hyl;go_wp2_with fail;refine(HNC.o▸cZ Y X _ _ _ HMY.o (HH.o.1.ext HE2.o)).mono ?_;rintro e w8 ⟨rfl,e8⟩;go_wp2_with fail;go_roundg Y
   case rel=>exact⟨Y,ya,yl,yc,rfl,ai ⟨HMY.o.ext e8,Nat.le_trans (Nat.le_of_lt HYL.o) HH.o.2.1,HST.o.1,HE.o.trans e8,(HH.o.2.2.2.2.ext HE2.o).ext e8⟩,Nat.le_refl _⟩
   case measure=>have:=HYL.o;have:=HGK.o;omega
  ·have hX:X=r:=Nat.le_antisymm (Nat.le_of_not_lt hlt) HH.o.2.2.1;have hnc:eI Y X=0:=by have:=HST.o.2.2 hX.symm;unfold eI;rw[if_neg ae,if_neg ae]
   have HNC:=ai hnc;have HXR:=ai hX;clear hnc hX hlt;go_wp2_with fail;refine(HNC.o▸cZ Y X _ _ _ HMY.o (HH.o.1.ext HE2.o)).mono ?_;rintro e w8 ⟨rfl,e8⟩;go_wp2_with fail;refine cto (cw false X _ _ _ _ ((HH.o.1.ext HE2.o).ext e8) (kk HH.o.2.1).fit.lG (HG.o.ext (HE.o.trans e8))) fun w9 e9=>?_
   go_wp2;go_ret2;exact⟨by first|rfl|(rw[show en false X=(r:Int) by rw[HXR.o];rfl];rfl)|(have:=HXR.o;subst this;rfl),(HE.o.trans e8).trans e9⟩
end Go.Proofs.YtmahadmefplbnaaGreatDoor
