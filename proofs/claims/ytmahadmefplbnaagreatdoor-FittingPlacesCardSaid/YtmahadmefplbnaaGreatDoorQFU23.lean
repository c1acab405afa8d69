/- Part 23. -/
import Derived.Test.YtmahadmefplbnaaGreatDoorQFUB
import Derived.Test.YtmahadmefplbnaaGreatDoorQFU22
import Derived.Handy
set_option maxRecDepth 100000
set_option maxHeartbeats 2000000
set_option linter.unusedVariables false
namespace Go.Proofs.YtmahadmefplbnaaGreatDoor
open Go Go.RowKit
structure V3 where
 x:Rat
 y:Rat
 z:Rat
deriving DecidableEq
abbrev vv (v:V3):Value:=.agg #[.string (qs v.x),.string (qs v.y),.string (qs v.z)]
structure P2 where
 x:Rat
 y:Rat
deriving DecidableEq
abbrev pv (p:P2):Value:=.agg #[.string (qs p.x),.string (qs p.y)]
structure PB (k:Nat) (p:P2):Prop where
 x:QB k p.x
 y:QB k p.y
def G6 (a b:V3):V3:=⟨a.x+b.x,a.y+b.y,a.z+b.z⟩
def G5 (a b:V3):V3:=⟨a.x-b.x,a.y-b.y,a.z-b.z⟩
structure VB (k:Nat) (v:V3):Prop where
 x:QB k v.x
 y:QB k v.y
 z:QB k v.z
theorem VB.add {k m:Nat} {a b:V3} (h:VB k a) (h2:VB m b):VB (k+m+1) (G6 a b):=⟨h.x.add h2.x,h.y.add h2.y,h.z.add h2.z⟩
theorem VB.sub {k m:Nat} {a b:V3} (h:VB k a) (h2:VB m b):VB (k+m+1) (G5 a b):=⟨h.x.sub h2.x,h.y.sub h2.y,h.z.sub h2.z⟩
theorem qU {w w':World} (e:Ext w w') {b0 o0 b1 o1 b2 o2 b3 o3 b4 o4 b5 o5:Nat} {x0 x1 x2 x3 x4 x5:Value} (h:w.cell? ⟨b0,o0,none⟩=some x0/\w.cell? ⟨b1,o1,none⟩=some x1/\w.cell? ⟨b2,o2,none⟩=some x2/\w.cell? ⟨b3,o3,none⟩=some x3/\w.cell? ⟨b4,o4,none⟩=some x4/\w.cell? ⟨b5,o5,none⟩=some x5):w'.cell? ⟨b0,o0,none⟩=some x0/\w'.cell? ⟨b1,o1,none⟩=some x1/\w'.cell? ⟨b2,o2,none⟩=some x2/\w'.cell? ⟨b3,o3,none⟩=some x3/\w'.cell? ⟨b4,o4,none⟩=some x4/\w'.cell? ⟨b5,o5,none⟩=some x5 :=
 ⟨e.keeps h.1,e.keeps h.2.1,e.keeps h.2.2.1,e.keeps h.2.2.2.1,e.keeps h.2.2.2.2.1,e.keeps h.2.2.2.2.2⟩
theorem lG:qs (-1)=⟨#[45,49]⟩:=by
 have h:(-1:Rat).num<0:=af;have:=ny (q:=1) af;rw [← this];have e:qs (1:Rat)=zs 1:=by unfold qs zs;rw [dK (by rfl)];rfl
 rw [e,eU];rfl
open Classical in
noncomputable def rq (s:ByteArray):Bool:=decide (hU s.data.toList)
open Classical in
theorem j6 {s:ByteArray}:rq s=true ↔ hU s.data.toList:=by unfold rq;exact decide_eq_true_iff
open Classical in
theorem ns {s:ByteArray}:rq s=false ↔ ¬ hU s.data.toList:=by unfold rq;exact decide_eq_false_iff_not
theorem fE (s:ByteArray) (w:World) (g:Gd w) (hl:s.size<=1000000) (h:rq s=true):Calls Tryz.prog 102 #[.string s] w (aC w (.int .i64 0)) :=
 nw s w g 0 hl ⟨fun _=>rfl,fun e=>absurd (j6.1 h) e⟩
theorem jD (s:ByteArray) (w:World) (g:Gd w) (hl:s.size<=1000000) (h:rq s=false):Calls Tryz.prog 102 #[.string s] w (aC w (.int .i64 2)) :=
 nw s w g 2 hl ⟨fun e=>absurd e (ns.1 h),fun _=>rfl⟩
noncomputable def bQ (l:List ByteArray):Int:=if l.all rq then 0 else 2
theorem all_true {l:List ByteArray} (h:∀ (i:Nat) (hi:i<l.length),rq l[i]=true):l.all rq=true:=by
 rw [List.all_eq_true];intro x hx;obtain ⟨i,hi,rfl⟩:=List.getElem_of_mem hx;exact h i hi
theorem all_false {l:List ByteArray} {i:Nat} (hi:i<l.length) (h:rq l[i]=false):l.all rq=false:=by
 rw [List.all_eq_false];exact ⟨_,List.getElem_mem hi,by simp [h]⟩
theorem Tryz.BR (w:World):(sizeOf 34).run Tryz.prog w = .ok 1 w:=ag
set_option maxHeartbeats 1000000 in
theorem iV (ss:List ByteArray) (b n cap:Nat) (w:World) (g:Gd w) (hn:ss.length=n) (hn9:n<=100) (hl:∀ (i:Nat) (hi:i<ss.length),(ss[i]).size<=1000000) (hb:b<w.heap.size)
    (hc:∀ (i:Nat) (hi:i<ss.length),w.cell? ⟨b,i,none⟩=some (.string ss[i])) :
    Calls Tryz.prog 96 #[.slice (some ⟨b,0,none⟩) n cap] w (aC w (.int .i64 (bQ ss))):=by
 have HG:=ai g;have HL:=ai hl;have HC:=ai hc;have HN:=ai hn;have HBB:=ai hb;clear g hl hc hn hb;go_enter Tryz.func96,Tryz.ntmps96;go_wp2;go_loopw [8] (fun x W=>∃ k:Nat,x = .int .i64 k/\k<=n/\Ext w W/\Hid (∀ (i:Nat) (_:i<k) (hi:i<ss.length),rq ss[i]=true)) (fun x _=>n-(intOf x).toNat)
 case atStart=>exact ⟨0,rfl,ae,Ext.refl _,ai (fun i h=>ae)⟩
 case round =>
  obtain ⟨k,rfl,hk,hx,HR⟩:=hrel;by_cases hkn:k<n
  ·have hks:k<ss.length:=by have:=HN.o;omega
   obtain ⟨s,hs⟩:∃ s,s=ss[k]:=⟨_,rfl⟩
   have hsl:s.size<=1000000:=by rw [hs];exact HL.o k hks
   have hcell:∀ W,Ext w W->W.cell? ⟨b,k,none⟩=some (.string s):=fun W e=>by rw [e.cell HBB.o,hs];exact HC.o k hks
   have c1:=hcell _ hx;have hix:=bS 30 34 rfl Tryz.BR (ad:=some ⟨b,0,none⟩) (n:=n) (cap:=cap) (fun _=>rfl) k hkn;have HS:=ai hs;clear hs hcell;cases hq:rq s with
   | true =>
    have HQ:=ai hq;clear hq;go_wp2_with (go_at_call 102;refine cto (fE s _ (HG.o.ext hx) hsl HQ.o) fun w2 e2=>?_);go_roundw
    case rel=>exact ⟨k+1,by go_num,ae,hx.trans e2,ai (fun i h hi=>by
     by_cases e:i=k
     ·subst e;rw [← HS.o];exact HQ.o
     ·exact HR.o i ae hi)⟩
    case measure=>simp [intOf];omega
   | false =>
    have HQ:=ai hq;clear hq;go_wp2_with (go_at_call 102;refine cto (jD s _ (HG.o.ext hx) hsl HQ.o) fun w2 e2=>?_);go_ret;exact ⟨by unfold bQ;rw [all_false hks (by rw [← HS.o];exact HQ.o)];rfl,hx.trans e2⟩
  ·obtain rfl:k=n:=ae;go_wp2;go_ret;exact ⟨by unfold bQ;rw [all_true (fun i hi=>HR.o i (by have:=HN.o;omega) hi)];rfl,hx⟩
def Tx (w:World) (v:Value) (l:List ByteArray):Prop :=
 (l=[]/\v = .slice none 0 0)∨∃ (a:Addr) (cap:Nat),v = .slice (some a) l.length cap/\l.length<=cap/\cap<=maxLen/\∀ i (h:i<l.length),w.cell? (a.add i)=some (.string l[i])
theorem xh {w:World} {a:Addr} {v:Value} (h:w.cell? a=some v):a.block<w.heap.size:=by
 rcases Nat.lt_or_ge a.block w.heap.size with h'|h'
 ·exact h'
 ·simp [World.cell?,Array.getElem?_eq_none h'] at h
theorem Tx.ext {w w':World} {v:Value} {l:List ByteArray} (h:Tx w v l) (e:Ext w w'):Tx w' v l:=by
 rcases h with h|⟨a,cap,h1,h2,h3,h4⟩
 ·exact Or.inl h
 ·exact Or.inr ⟨a,cap,h1,h2,h3,fun i hi=>(e.cell (xh (h4 i hi))).trans (h4 i hi)⟩
structure T3 where
 x:ByteArray
 y:ByteArray
 z:ByteArray
abbrev tv (t:T3):Value:=.agg #[.string t.x,.string t.y,.string t.z]
def T3.l (t:T3):List ByteArray:=[t.x,t.y,t.z]
structure TS (t:T3):Prop where
 x:t.x.size<=1000000
 y:t.y.size<=1000000
 z:t.z.size<=1000000
structure T2 where
 x:ByteArray
 y:ByteArray
abbrev tp (t:T2):Value:=.agg #[.string t.x,.string t.y]
def T2.l (t:T2):List ByteArray:=[t.x,t.y]
structure DU (t:T2):Prop where
 x:t.x.size<=1000000
 y:t.y.size<=1000000
theorem fD {q:Rat} (h:QB 200 q):rq (qs q)=true :=
 j6.2 ⟨q,dZ q,bU af h.num,bU af h.den⟩
theorem FH {w:World} {b:Nat} {x y z:ByteArray} {t:TypeId} (h:ak w b #[.string x,.string y,.string z] t):∀ (i:Nat) (hi:i<[x,y,z].length),w.cell? ⟨b,i,none⟩=some (.string [x,y,z][i])
 | 0,_=>h.cell 0 rfl
 | 1,_=>h.cell 1 rfl
 | 2,_=>h.cell 2 rfl
theorem FI {w:World} {b:Nat} {x y:ByteArray} {t:TypeId} (h:ak w b #[.string x,.string y] t):∀ (i:Nat) (hi:i<[x,y].length),w.cell? ⟨b,i,none⟩=some (.string [x,y][i])
 | 0,_=>h.cell 0 rfl
 | 1,_=>h.cell 1 rfl
theorem Ea {x y z:ByteArray} (h1:x.size<=1000000) (h2:y.size<=1000000) (h3:z.size<=1000000):∀ (i:Nat) (hi:i<[x,y,z].length),([x,y,z][i]).size<=1000000
 | 0,_=>h1
 | 1,_=>h2
 | 2,_=>h3
theorem Eb {x y:ByteArray} (h1:x.size<=1000000) (h2:y.size<=1000000):∀ (i:Nat) (hi:i<[x,y].length),([x,y][i]).size<=1000000
 | 0,_=>h1
 | 1,_=>h2
theorem du (t:T3) (w:World) (g:Gd w) (hs:TS t):Calls Tryz.prog 101 #[tv t] w (aC w (.int .i64 (bQ t.l))):=by
 have HG:=ai g;have HS:=ai hs;clear g hs;go_enter Tryz.func101,Tryz.ntmps101;go_wp2_with (go_at_call 96;refine cto (iV [t.x,t.y,t.z] (w.heap.size+1) 3 3 _ (HG.o.ext (((Ext.refl _).alloc _).alloc _)) rfl af (Ea HS.o.x HS.o.y HS.o.z) (by simp) (FH (by have:=ak.new (w.alloc (.cells #[.string t.x,.string t.y,.string t.z] 67)) #[.string t.x,.string t.y,.string t.z] 34;simpa using this))) fun w1 e1=>?_);go_ret;exact ⟨rfl,(((Ext.refl _).alloc _).alloc _).trans e1⟩
theorem iQ (t:T2) (w:World) (g:Gd w) (hs:DU t):Calls Tryz.prog 111 #[tp t] w (aC w (.int .i64 (bQ t.l))):=by
 have HG:=ai g;have HS:=ai hs;clear g hs;go_enter Tryz.func111,Tryz.ntmps111;go_wp2_with (go_at_call 96;refine cto (iV [t.x,t.y] (w.heap.size+1) 2 2 _ (HG.o.ext (((Ext.refl _).alloc _).alloc _)) rfl af (Eb HS.o.x HS.o.y) (by simp) (FI (by have:=ak.new (w.alloc (.cells #[.string t.x,.string t.y] 58)) #[.string t.x,.string t.y] 34;simpa using this))) fun w1 e1=>?_);go_ret;exact ⟨rfl,(((Ext.refl _).alloc _).alloc _).trans e1⟩
theorem nq (t e:TypeId) (K:Nat) (hu:Tryz.prog.underlying t=some (.slice e)) (hs:∀ w,(sizeOf e).run Tryz.prog w = .ok K w) {ad:Option Addr} {n cap b off:Nat} (h:0<n->ad=some ⟨b,off,none⟩) (i:Nat) (hi:i<n) (w:World) :
    (Instr.indexAt t (.slice ad n cap) (.int .i64 (i:Int))).run Tryz.prog w = .ok (.pointer (some ⟨b,off+i*K,none⟩)) w:=by
 rw [h ae];simp [Instr.indexAt,asIntOf,run_underlying hu,hs,go_sem,hi,Addr.add]
theorem Tryz.BO (w:World):(sizeOf 67).run Tryz.prog w = .ok 3 w:=ag
theorem Tryz.Ec (w:World):(sizeOf 58).run Tryz.prog w = .ok 2 w:=ag
noncomputable def qo (l:List T3):Int:=if l.all (fun t=>t.l.all rq) then 0 else 2
noncomputable def xS (l:List T2):Int:=if l.all (fun t=>t.l.all rq) then 0 else 2
theorem mY {l:List ByteArray} (h:l.all rq=true):bQ l=0:=by unfold bQ;rw [h];rfl
theorem y4 {l:List ByteArray} (h:l.all rq=false):bQ l=2:=by unfold bQ;rw [h];rfl
theorem pD {α:Type} {f:α->Bool} {l:List α} (h:∀ (i:Nat) (hi:i<l.length),f l[i]=true):l.all f=true:=by
 rw [List.all_eq_true];intro x hx;obtain ⟨i,hi,rfl⟩:=List.getElem_of_mem hx;exact h i hi
theorem n6 {α:Type} {f:α->Bool} {l:List α} {i:Nat} (hi:i<l.length) (h:f l[i]=false):l.all f=false:=by
 rw [List.all_eq_false];exact ⟨_,List.getElem_mem hi,by simp [h]⟩
set_option maxHeartbeats 1000000 in
theorem oZ (ts:List T3) (b n cap:Nat) (w:World) (g:Gd w) (hn:ts.length=n) (hn9:n<=100) (hl:∀ (i:Nat) (hi:i<ts.length),TS ts[i]) (hb:b<w.heap.size)
    (hc:∀ (i:Nat) (hi:i<ts.length),w.cell? ⟨b,i*3,none⟩=some (.string (ts[i]).x)/\w.cell? ⟨b,i*3+1,none⟩=some (.string (ts[i]).y)/\w.cell? ⟨b,i*3+2,none⟩=some (.string (ts[i]).z)) :
    Calls Tryz.prog 95 #[.slice (some ⟨b,0,none⟩) n cap] w (aC w (.int .i64 (qo ts))):=by
 have HG:=ai g;have HL:=ai hl;have HC:=ai hc;have HN:=ai hn;have HBB:=ai hb;clear g hl hc hn hb;go_enter Tryz.func95,Tryz.ntmps95;go_wp2;go_loopw [8] (fun x W=>∃ k:Nat,x = .int .i64 k/\k<=n/\Ext w W/\Hid (∀ (i:Nat) (_:i<k) (hi:i<ts.length),ts[i].l.all rq=true)) (fun x _=>n-(intOf x).toNat)
 case atStart=>exact ⟨0,rfl,ae,Ext.refl _,ai (fun i h=>ae)⟩
 case round =>
  obtain ⟨k,rfl,hk,hx,HR⟩:=hrel;by_cases hkn:k<n
  ·have hks:k<ts.length:=by have:=HN.o;omega
   obtain ⟨s,hs⟩:∃ s,s=ts[k]:=⟨_,rfl⟩
   have hsl:TS s:=by rw [hs];exact HL.o k hks
   obtain ⟨d1,d2,d3⟩:=HC.o k hks;rw [← hs] at d1 d2 d3;have c1:=(hx.cell (p:=⟨b,k*3,none⟩) HBB.o).trans d1;have c2:=(hx.cell (p:=⟨b,k*3+1,none⟩) HBB.o).trans d2;have c3:=(hx.cell (p:=⟨b,k*3+2,none⟩) HBB.o).trans d3;have hix:=nq 55 67 3 rfl Tryz.BO (ad:=some ⟨b,0,none⟩) (n:=n) (cap:=cap) (fun _=>rfl) k hkn;have HS:=ai hs;have HSL:=ai hsl;clear hs d1 d2 d3 hsl;cases hq:s.l.all rq with
   | true =>
    have HQ:=ai hq;have HT:=ai (mY hq);clear hq;go_wp2_with (go_at_call 101;refine (du s _ (HG.o.ext (by repeat (first|assumption|apply Ext.alloc|(refine Ext.setCell ?_ (by have:=hx.size;simp;omega) _)))) HSL.o).mono ?_;rw [HT.o];rintro e w2 ⟨rfl,e2⟩);go_roundw
    case rel=>exact ⟨k+1,by go_num,ae,(hx.alloc _).trans e2,ai (fun i h hi=>by
     by_cases e:i=k
     ·subst e;rw [← HS.o];exact HQ.o
     ·exact HR.o i ae hi)⟩
    case measure=>simp [intOf];omega
   | false =>
    have HQ:=ai hq;have HT:=ai (y4 hq);clear hq;go_wp2_with (go_at_call 101;refine (du s _ (HG.o.ext (by repeat (first|assumption|apply Ext.alloc|(refine Ext.setCell ?_ (by have:=hx.size;simp;omega) _)))) HSL.o).mono ?_;rw [HT.o];rintro e w2 ⟨rfl,e2⟩);go_ret;exact ⟨by unfold qo;rw [n6 hks (by rw [← HS.o];exact HQ.o)];rfl,(hx.alloc _).trans e2⟩
  ·obtain rfl:k=n:=ae;go_wp2;go_ret;exact ⟨by unfold qo;rw [pD (fun i hi=>HR.o i (by have:=HN.o;omega) hi)];rfl,hx⟩
set_option maxHeartbeats 1000000 in
theorem zQ (ts:List T2) (b n cap:Nat) (w:World) (g:Gd w) (hn:ts.length=n) (hn9:n<=100) (hl:∀ (i:Nat) (hi:i<ts.length),DU ts[i]) (hb:b<w.heap.size)
    (hc:∀ (i:Nat) (hi:i<ts.length),w.cell? ⟨b,i*2,none⟩=some (.string (ts[i]).x)/\w.cell? ⟨b,i*2+1,none⟩=some (.string (ts[i]).y)) :
    Calls Tryz.prog 89 #[.slice (some ⟨b,0,none⟩) n cap] w (aC w (.int .i64 (xS ts))):=by
 have HG:=ai g;have HL:=ai hl;have HC:=ai hc;have HN:=ai hn;have HBB:=ai hb;clear g hl hc hn hb;go_enter Tryz.func89,Tryz.ntmps89;go_wp2;go_loopw [8] (fun x W=>∃ k:Nat,x = .int .i64 k/\k<=n/\Ext w W/\Hid (∀ (i:Nat) (_:i<k) (hi:i<ts.length),ts[i].l.all rq=true)) (fun x _=>n-(intOf x).toNat)
 case atStart=>exact ⟨0,rfl,ae,Ext.refl _,ai (fun i h=>ae)⟩
 case round =>
  obtain ⟨k,rfl,hk,hx,HR⟩:=hrel;by_cases hkn:k<n
  ·have hks:k<ts.length:=by have:=HN.o;omega
   obtain ⟨s,hs⟩:∃ s,s=ts[k]:=⟨_,rfl⟩
   have hsl:DU s:=by rw [hs];exact HL.o k hks
   obtain ⟨d1,d2⟩:=HC.o k hks;rw [← hs] at d1 d2;have c1:=(hx.cell (p:=⟨b,k*2,none⟩) HBB.o).trans d1;have c2:=(hx.cell (p:=⟨b,k*2+1,none⟩) HBB.o).trans d2;have hix:=nq 220 58 2 rfl Tryz.Ec (ad:=some ⟨b,0,none⟩) (n:=n) (cap:=cap) (fun _=>rfl) k hkn;have HS:=ai hs;have HSL:=ai hsl;clear hs d1 d2 hsl;cases hq:s.l.all rq with
   | true =>
    have HQ:=ai hq;have HT:=ai (mY hq);clear hq;go_wp2_with (go_at_call 111;refine (iQ s _ (HG.o.ext (by repeat (first|assumption|apply Ext.alloc|(refine Ext.setCell ?_ (by have:=hx.size;simp;omega) _)))) HSL.o).mono ?_;rw [HT.o];rintro e w2 ⟨rfl,e2⟩);go_roundw
    case rel=>exact ⟨k+1,by go_num,ae,(hx.alloc _).trans e2,ai (fun i h hi=>by
     by_cases e:i=k
     ·subst e;rw [← HS.o];exact HQ.o
     ·exact HR.o i ae hi)⟩
    case measure=>simp [intOf];omega
   | false =>
    have HQ:=ai hq;have HT:=ai (y4 hq);clear hq;go_wp2_with (go_at_call 111;refine (iQ s _ (HG.o.ext (by repeat (first|assumption|apply Ext.alloc|(refine Ext.setCell ?_ (by have:=hx.size;simp;omega) _)))) HSL.o).mono ?_;rw [HT.o];rintro e w2 ⟨rfl,e2⟩);go_ret;exact ⟨by unfold xS;rw [n6 hks (by rw [← HS.o];exact HQ.o)];rfl,(hx.alloc _).trans e2⟩
  ·obtain rfl:k=n:=ae;go_wp2;go_ret;exact ⟨by unfold xS;rw [pD (fun i hi=>HR.o i (by have:=HN.o;omega) hi)];rfl,hx⟩
theorem uO (s:ByteArray) (w:World) (g:Gd w) (hl:s.size<=1000000) (h:rq s=true):Calls Tryz.prog 114 #[.string s] w (aC w (.bool true)) :=
 pF s w g true hl ⟨fun _=>rfl,fun e=>absurd (j6.1 h) e⟩
theorem yk (s:ByteArray) (w:World) (g:Gd w) (hl:s.size<=1000000) (h:rq s=false):Calls Tryz.prog 114 #[.string s] w (aC w (.bool false)) :=
 pF s w g false hl ⟨fun e=>absurd e (ns.1 h),fun _=>rfl⟩
theorem Dv (n:Int):(zs (n.natAbs:Int)).size=(Lib.decDigits n.natAbs).length:=by rw [dm,cY]
theorem QB.Fe (q:Rat):QB 200 q ↔ (Lib.decDigits q.num.natAbs).length<=200/\(Lib.decDigits q.den).length<=200 :=
 ⟨fun h=>⟨bU af h.num,bU af h.den⟩,fun h=>⟨aZ h.1,aZ h.2⟩⟩
theorem qT (q:Rat) (w:World) (hq:QB 200 q):Calls Tryz.prog 174 #[.string (qs q)] w (aC w (.bool false)):=by
 have h:=(QB.Fe q).1 hq;have h1:¬ (200:Int)<((zs (q.num.natAbs:Int)).size:Int):=by rw [Dv];omega
 have h2:¬ (200:Int)<((zs (q.den:Int)).size:Int):=by rw [dm,cY];omega
 have HQ:=ai hq;clear h hq;go_enter Tryz.func174,Tryz.ntmps174;go_wp2_with (first
  | (go_at_call 86;refine cto (bN q w HQ.o af) fun w1 e1=>?_)
  | (go_at_call 244;refine (GO q.num _).mono ?_;rintro e w2 ⟨rfl,rfl⟩))
 go_ret;exact ⟨by show Ending.returned (.bool (_ || _))=_;rw [decide_eq_false (show ¬ (200:Int)<((zs (q.num.natAbs:Int)).size:Int) by omega),decide_eq_false (show ¬ (200:Int)<((zs (q.den:Int)).size:Int) by omega)];rfl,e1⟩
theorem EX (x:T3) (w:World):Calls Tryz.prog 227 #[tv x] w (aC w (tv x)):=by
 go_enter Tryz.func227,Tryz.ntmps227;go_wp2;refine bodyPost_ret (v:=tv x) (by simp [results,Tryz.results227,go_sem]) rfl ⟨rfl,((Ext.refl _).alloc _).alloc _⟩
theorem rL (x:T3) (w:World):Calls Tryz.prog 175 #[tv x] w (aC w (tv x)):=by
 go_enter Tryz.func175,Tryz.ntmps175;go_wp2;refine bodyPost_ret (v:=tv x) (by simp [results,Tryz.results175,go_sem]) rfl ⟨rfl,((Ext.refl _).alloc _).alloc _⟩
theorem Fh (x y z:ByteArray) (w:World):(Instr.index 161 (.agg #[.string x,.string y,.string z]) (.int .i64 0)).run Tryz.prog w = .ok (.string x) w:=ag
theorem Fg (x y z:ByteArray) (w:World):(Instr.index 161 (.agg #[.string x,.string y,.string z]) (.int .i64 1)).run Tryz.prog w = .ok (.string y) w:=ag
theorem Ff (x y z:ByteArray) (w:World):(Instr.index 161 (.agg #[.string x,.string y,.string z]) (.int .i64 2)).run Tryz.prog w = .ok (.string z) w:=ag
set_option maxHeartbeats 1000000 in
theorem r4 (x y z:Rat) (w:World) (h0:QB 200 x) (h1:QB 200 y) (h2:QB 200 z):Calls Tryz.prog 97 #[.agg #[.string (qs x),.string (qs y),.string (qs z)]] w (aC w (.tuple #[.agg #[.string (qs x),.string (qs y),.string (qs z)],.int .i64 0])):=by
 have Hh0:=ai h0;have Hh1:=ai h1;have Hh2:=ai h2;clear h0 h1 h2;have ix0:=Fh (qs x) (qs y) (qs z);have ix1:=Fg (qs x) (qs y) (qs z);have ix2:=Ff (qs x) (qs y) (qs z);go_enter Tryz.func97,Tryz.ntmps97;go_wp2;refine wp_loop_rounds 4 ?_;rw [rounds_succ];go_wp2_with (go_at_call 174;refine cto (qT x _ Hh0.o) fun w1 e1=>?_);rw [rounds_succ];go_wp2_with (go_at_call 174;refine cto (qT y _ Hh1.o) fun w2 e2=>?_);rw [rounds_succ];go_wp2_with (go_at_call 174;refine cto (qT z _ Hh2.o) fun w3 e3=>?_;have B:ak w3 w.heap.size #[.string (qs x),.string (qs y),.string (qs z)] 161:=((ak.new w #[.string (qs x),.string (qs y),.string (qs z)] 161).alloc (.cells #[.string ⟨#[]⟩,.string ⟨#[]⟩,.string ⟨#[]⟩] 67)).ext (by repeat (first|assumption|exact Ext.refl _|apply Ext.drew|apply Ext.alloc|(refine Ext.setCell ?_ (by simp only [];omega) _)|(refine Ext.trans ?_ (by assumption))));have d0:=B.cell 0 rfl;have d1:=B.cell 1 rfl;have d2:=B.cell 2 rfl;clear B);rw [rounds_succ];go_wp2_with (go_at_call 175;refine cto (rL ⟨qs x,qs y,qs z⟩ _) fun w4 e4=>?_;have R:ak w4 (w.heap.size+1) #[.string ⟨#[]⟩,.string ⟨#[]⟩,.string ⟨#[]⟩] 67:=(by have:=ak.new (w.alloc (.cells #[.string (qs x),.string (qs y),.string (qs z)] 161)) #[.string ⟨#[]⟩,.string ⟨#[]⟩,.string ⟨#[]⟩] 67;simpa using this:ak ((w.alloc (.cells #[.string (qs x),.string (qs y),.string (qs z)] 161)).alloc (.cells #[.string ⟨#[]⟩,.string ⟨#[]⟩,.string ⟨#[]⟩] 67)) (w.heap.size+1) #[.string ⟨#[]⟩,.string ⟨#[]⟩,.string ⟨#[]⟩] 67).ext (by repeat (first|assumption|exact Ext.refl _|apply Ext.drew|apply Ext.alloc|(refine Ext.setCell ?_ (by simp only [];omega) _)|(refine Ext.trans ?_ (by assumption))));have c0:=R.cell 0 rfl;have c1:=R.cell 1 rfl;have c2:=R.cell 2 rfl;have f0:=R.free 0;have f1:=R.free 1;have f2:=R.free 2;have HR:=ai R;clear R);clear c0 c1 c2 f0 f1 f2;have R3:=(((HR.o.set 0 (.string (qs x))).set 1 (.string (qs y))).set 2 (.string (qs z)))
 have ex:Ext w (((w4.setCell ⟨w.heap.size+1,0,none⟩ (.string (qs x))).setCell ⟨w.heap.size+1,1,none⟩ (.string (qs y))).setCell ⟨w.heap.size+1,2,none⟩ (.string (qs z))):=((((((((((Ext.refl _).alloc _).alloc _).trans e1).trans e2).trans e3).trans e4).setCell (by simp) _).setCell (by simp) _).setCell (by simp) _)
 have g0:=R3.cell 0 rfl;have g1:=R3.cell 1 rfl;have g2:=R3.cell 2 rfl;clear R3;generalize (((w4.setCell ⟨w.heap.size+1,0,none⟩ (.string (qs x))).setCell ⟨w.heap.size+1,1,none⟩ (.string (qs y))).setCell ⟨w.heap.size+1,2,none⟩ (.string (qs z)))=W' at *;refine bodyPost_ret (v:=.tuple #[.agg #[.string (qs x),.string (qs y),.string (qs z)],.int .i64 0]) (by simp [results,Tryz.results97,go_sem,g0,g1,g2]) rfl ⟨rfl,ex⟩
theorem ak.uD {w:World} {k:Nat} {cs:Array Value} {t:TypeId} (hk:k=w.heap.size):ak (w.alloc (.cells cs t)) k cs t:=by subst hk;exact ak.new w cs t
theorem ak.nw {w:World} {k:Nat} (cs:Array Value) (t:TypeId) (hk:k = w.heap.size:=by first|rfl|(simp only [World.size_alloc];done)|(simp only [World.size_alloc];omega)|simp):ak (w.alloc (.cells cs t)) k cs t:=ak.uD hk
theorem au {P:World->Prop} {w0:World} (I:World->Prop) (h:I w0) (k:∀ W,I W->P W):P w0:=k w0 h
theorem iL {w:World} {b b2 o o2:Nat} {u:Value} (h:b≠b2):(w.setCell ⟨b2,o2,none⟩ u).cell? ⟨b,o,none⟩=w.cell? ⟨b,o,none⟩:=by
 have:=Below.heap_setCell w ⟨b2,o2,none⟩ u b h;simp only [World.cell?,this]
theorem rA {w:World} {b o o2:Nat} {u:Value} (h:o≠o2):(w.setCell ⟨b,o2,none⟩ u).cell? ⟨b,o,none⟩=w.cell? ⟨b,o,none⟩:=by
 simp only [World.setCell,World.cell?,Array.getElem?_modify,ite_true];cases hb:w.heap[b]? with
 | none=>rfl
 | some x=>cases x <;> simp [h.symm]
theorem QB.min {k m:Nat} {a b:Rat} (ha:QB k a) (hb:QB m b):QB (max k m) (Ga a b):=by
 unfold Ga;split
 ·exact hb.mono (Nat.le_max_right _ _)
 ·exact ha.mono (Nat.le_max_left _ _)
theorem QB.max {k m:Nat} {a b:Rat} (ha:QB k a) (hb:QB m b):QB (Nat.max k m) (ke a b):=by
 unfold ke;split
 ·exact hb.mono (Nat.le_max_right _ _)
 ·exact ha.mono (Nat.le_max_left _ _)
theorem CH {w w':World} (e:Ext w w') {b0 o0:Nat} {x0:Value} (h:w.cell? ⟨b0,o0,none⟩=some x0):w'.cell? ⟨b0,o0,none⟩=some x0 :=
 e.keeps h
def kR (v:V3) (k:Nat):Rat:=if k=0 then v.x else if k=1 then v.y else v.z
def mS (r v:V3) (k:Nat):Array Value:=#[.string (qs (if 0<k then r.x else v.x)),.string (qs (if 1<k then r.y else v.y)),.string (qs (if 2<k then r.z else v.z))]
theorem BD (r v:V3):mS r v 0=#[.string (qs v.x),.string (qs v.y),.string (qs v.z)]:=rfl
theorem Bz (r v:V3):mS r v 3=#[.string (qs r.x),.string (qs r.y),.string (qs r.z)]:=rfl
theorem rO {r v:V3} {k:Nat} (h:k<3):(mS r v k)[k]?=some (.string (qs (kR v k))):=by
 match k,h with
 | 0,_=>rfl
 | 1,_=>rfl
 | 2,_=>rfl
theorem xv {r v:V3} {k:Nat} (h:k<3) {q:Rat} (hq:q=kR r k):(mS r v k).setIfInBounds k (.string (qs q))=mS r v (k+1):=by
 subst hq
 match k,h with
 | 0,_=>rfl
 | 1,_=>rfl
 | 2,_=>rfl
theorem tJ {v:V3} {k:Nat} (h:k<3):(#[.string (qs v.x),.string (qs v.y),.string (qs v.z)]:Array Value)[k]?=some (.string (qs (kR v k))):=by
 match k,h with
 | 0,_=>rfl
 | 1,_=>rfl
 | 2,_=>rfl
theorem VB.at {n:Nat} {v:V3} (h:VB n v) (k:Nat):QB n (kR v k):=by
 unfold kR;split
 ·exact h.x
 ·split
  ·exact h.y
  ·exact h.z
theorem tN (w:World) (b:Nat):(Instr.indexAt 161 (.pointer (some ⟨b,0,none⟩)) (.int .i64 0)).run Tryz.prog w = .ok (.pointer (some ⟨b,0,none⟩)) w:=ag
theorem tM (w:World) (b:Nat):(Instr.indexAt 161 (.pointer (some ⟨b,0,none⟩)) (.int .i64 1)).run Tryz.prog w = .ok (.pointer (some ⟨b,1,none⟩)) w:=ag
theorem tL (w:World) (b:Nat):(Instr.indexAt 161 (.pointer (some ⟨b,0,none⟩)) (.int .i64 2)).run Tryz.prog w = .ok (.pointer (some ⟨b,2,none⟩)) w:=ag
theorem xx (w:World) (b k:Nat) (h:k<3):(Instr.indexAt 161 (.pointer (some ⟨b,0,none⟩)) (.int .i64 (k:Int))).run Tryz.prog w = .ok (.pointer (some ⟨b,k,none⟩)) w:=by
 have e:k=0∨k=1∨k=2:=ae;rcases e with rfl|rfl|rfl
 ·exact tN w b
 ·exact tM w b
 ·exact tL w b
theorem Am (x:T3) (w:World):Calls Tryz.prog 227 #[tv x] w fun e w'=>e = .returned (tv x)/\w'=(w.alloc (.cells #[.string x.x,.string x.y,.string x.z] 67)).alloc (.cells #[.string x.x,.string x.y,.string x.z] 161):=by
 go_enter Tryz.func227,Tryz.ntmps227;go_wp2;refine bodyPost_ret (v:=tv x) (by simp [results,Tryz.results227,go_sem]) rfl ⟨rfl,rfl⟩
theorem vK (v:V3) (w:World):Calls Tryz.prog 103 #[vv v] w (aC w (.bool (decide (v.x=0/\v.y=0/\v.z=0)))):=by
 by_cases hx:v.x=0
 ·by_cases hy:v.y=0
  ·by_cases hz:v.z=0
   ·have h1:=cE hx;have h2:=cE hy;have h3:=cE hz;have H:Hid (decide (v.x=0/\v.y=0/\v.z=0)=true):=ai (by simp [hx,hy,hz]);clear hx hy hz;go_enter Tryz.func103,Tryz.ntmps103;go_wp2;go_ret;exact ⟨by rw [H.o];rfl,(Ext.refl _).alloc _⟩
   ·have h1:=cE hx;have h2:=cE hy;have h3:=aX hz;have H:Hid (decide (v.x=0/\v.y=0/\v.z=0)=false):=ai (by simp [hz]);clear hx hy hz;go_enter Tryz.func103,Tryz.ntmps103;go_wp2;go_ret;exact ⟨by rw [H.o];rfl,(Ext.refl _).alloc _⟩
  ·have h1:=cE hx;have h2:=aX hy;have H:Hid (decide (v.x=0/\v.y=0/\v.z=0)=false):=ai (by simp [hy]);clear hx hy;go_enter Tryz.func103,Tryz.ntmps103;go_wp2;go_ret;exact ⟨by rw [H.o];rfl,(Ext.refl _).alloc _⟩
 ·have h1:=aX hx;have H:Hid (decide (v.x=0/\v.y=0/\v.z=0)=false):=ai (by simp [hx]);clear hx;go_enter Tryz.func103,Tryz.ntmps103;go_wp2;go_ret;exact ⟨by rw [H.o];rfl,(Ext.refl _).alloc _⟩
theorem VB.mono {k m:Nat} {v:V3} (h:VB k v) (hk:k<=m):VB m v:=⟨h.x.mono hk,h.y.mono hk,h.z.mono hk⟩
theorem PB.mono {k m:Nat} {v:P2} (h:PB k v) (hk:k<=m):PB m v:=⟨h.x.mono hk,h.y.mono hk⟩
theorem VB.ts {v:V3} (h:VB 200 v):TS ⟨qs v.x,qs v.y,qs v.z⟩:=⟨h.x.len af,h.y.len af,h.z.len af⟩
theorem PB.ts {p:P2} (h:PB 200 p):DU ⟨qs p.x,qs p.y⟩:=⟨h.x.len af,h.y.len af⟩
theorem VB.all {v:V3} (h:VB 200 v):(T3.l ⟨qs v.x,qs v.y,qs v.z⟩).all rq=true:=by simp [T3.l,fD h.x,fD h.y,fD h.z]
theorem PB.all {p:P2} (h:PB 200 p):(T2.l ⟨qs p.x,qs p.y⟩).all rq=true:=by simp [T2.l,fD h.x,fD h.y]
theorem tH (a:T3) (kb:Nat) (w:World) (g:Gd w) (ha:TS a) (hB:ak w kb #[.string a.x,.string a.y,.string a.z] 67):Calls Tryz.prog 95 #[.slice (some ⟨kb,0,none⟩) 1 1] w (aC w (.int .i64 (qo [a]))) :=
 oZ [a] kb 1 1 w g rfl af (fun i hi=>match i,hi with|0,_=>ha) hB.lt (fun i hi=>match i,hi with|0,_=>⟨hB.cell 0 rfl,hB.cell 1 rfl,hB.cell 2 rfl⟩)
theorem lA (a:V3) (kb:Nat) (w:World) (g:Gd w) (ha:VB 200 a) (hB:ak w kb #[.string (qs a.x),.string (qs a.y),.string (qs a.z)] 67):Calls Tryz.prog 95 #[.slice (some ⟨kb,0,none⟩) 1 1] w (aC w (.int .i64 0)):=by
 have:=tH ⟨qs a.x,qs a.y,qs a.z⟩ kb w g ha.ts hB;rwa [show qo [⟨qs a.x,qs a.y,qs a.z⟩]=0 by unfold qo;simp only [List.all_cons,List.all_nil,ha.all];rfl] at this
theorem tG (a b:T3) (kb:Nat) (w:World) (g:Gd w) (ha:TS a) (hb:TS b) (hB:ak w kb #[.string a.x,.string a.y,.string a.z,.string b.x,.string b.y,.string b.z] 67):Calls Tryz.prog 95 #[.slice (some ⟨kb,0,none⟩) 2 2] w (aC w (.int .i64 (qo [a,b]))) :=
 oZ [a,b] kb 2 2 w g rfl af (fun i hi=>match i,hi with|0,_=>ha|1,_=>hb) hB.lt (fun i hi=>match i,hi with|0,_=>⟨hB.cell 0 rfl,hB.cell 1 rfl,hB.cell 2 rfl⟩|1,_=>⟨hB.cell 3 rfl,hB.cell 4 rfl,hB.cell 5 rfl⟩)
theorem rK (a b:V3) (kb:Nat) (w:World) (g:Gd w) (ha:VB 200 a) (hb:VB 200 b) (hB:ak w kb #[.string (qs a.x),.string (qs a.y),.string (qs a.z),.string (qs b.x),.string (qs b.y),.string (qs b.z)] 67):Calls Tryz.prog 95 #[.slice (some ⟨kb,0,none⟩) 2 2] w (aC w (.int .i64 0)):=by
 have:=tG ⟨qs a.x,qs a.y,qs a.z⟩ ⟨qs b.x,qs b.y,qs b.z⟩ kb w g ha.ts hb.ts hB;rwa [show qo [⟨qs a.x,qs a.y,qs a.z⟩,⟨qs b.x,qs b.y,qs b.z⟩]=0 by unfold qo;simp only [List.all_cons,List.all_nil,ha.all,hb.all];rfl] at this
theorem xR (a b c:T2) (kb:Nat) (w:World) (g:Gd w) (ha:DU a) (hb:DU b) (hc:DU c) (hB:ak w kb #[.string a.x,.string a.y,.string b.x,.string b.y,.string c.x,.string c.y] 58):Calls Tryz.prog 89 #[.slice (some ⟨kb,0,none⟩) 3 3] w (aC w (.int .i64 (xS [a,b,c]))) :=
 zQ [a,b,c] kb 3 3 w g rfl af (fun i hi=>match i,hi with|0,_=>ha|1,_=>hb|2,_=>hc) hB.lt (fun i hi=>match i,hi with|0,_=>⟨hB.cell 0 rfl,hB.cell 1 rfl⟩|1,_=>⟨hB.cell 2 rfl,hB.cell 3 rfl⟩|2,_=>⟨hB.cell 4 rfl,hB.cell 5 rfl⟩)
theorem ux (a b c:P2) (kb:Nat) (w:World) (g:Gd w) (ha:PB 200 a) (hb:PB 200 b) (hc:PB 200 c) (hB:ak w kb #[.string (qs a.x),.string (qs a.y),.string (qs b.x),.string (qs b.y),.string (qs c.x),.string (qs c.y)] 58):Calls Tryz.prog 89 #[.slice (some ⟨kb,0,none⟩) 3 3] w (aC w (.int .i64 0)):=by
 have:=xR ⟨qs a.x,qs a.y⟩ ⟨qs b.x,qs b.y⟩ ⟨qs c.x,qs c.y⟩ kb w g ha.ts hb.ts hc.ts hB;rwa [show xS [⟨qs a.x,qs a.y⟩,⟨qs b.x,qs b.y⟩,⟨qs c.x,qs c.y⟩]=0 by unfold xS;simp only [List.all_cons,List.all_nil,ha.all,hb.all,hc.all];rfl] at this
theorem uC (a:ByteArray) (kb:Nat) (w:World) (g:Gd w) (ha:a.size<=1000000) (hB:ak w kb #[.string a] 34):Calls Tryz.prog 96 #[.slice (some ⟨kb,0,none⟩) 1 1] w (aC w (.int .i64 (bQ [a]))) :=
 iV [a] kb 1 1 w g rfl af (fun i hi=>match i,hi with|0,_=>ha) hB.lt (fun i hi=>match i,hi with|0,_=>hB.cell 0 rfl)
theorem sB (a:Rat) (kb:Nat) (w:World) (g:Gd w) (ha:QB 200 a) (hB:ak w kb #[.string (qs a)] 34):Calls Tryz.prog 96 #[.slice (some ⟨kb,0,none⟩) 1 1] w (aC w (.int .i64 0)):=by
 have:=uC (qs a) kb w g (ha.len af) hB;rwa [show bQ [qs a]=0 from mY (by simp only [List.all_cons,List.all_nil,fD ha];rfl)] at this
theorem uB (a b c:ByteArray) (kb:Nat) (w:World) (g:Gd w) (ha:a.size<=1000000) (hb:b.size<=1000000) (hc:c.size<=1000000) (hB:ak w kb #[.string a,.string b,.string c] 34):Calls Tryz.prog 96 #[.slice (some ⟨kb,0,none⟩) 3 3] w (aC w (.int .i64 (bQ [a,b,c]))) :=
 iV [a,b,c] kb 3 3 w g rfl af (fun i hi=>match i,hi with|0,_=>ha|1,_=>hb|2,_=>hc) hB.lt (fun i hi=>match i,hi with|0,_=>hB.cell 0 rfl|1,_=>hB.cell 1 rfl|2,_=>hB.cell 2 rfl)
theorem Ez (b:Rat) {k:Nat} (w:World) (g:Gd w) (hb:QB k b) (hk:k<=3000):Calls Tryz.prog 115 #[.string ⟨#[48]⟩,.string (qs b)] w (aC w (.string (qs b))):=by
 have:=fF 0 b w g (⟨af,af⟩:QB 1 0) hb af hk;rwa [bX,Rat.zero_add] at this
theorem tU (x y z:Rat) (cb:Nat) {k:Nat} {ty:TypeId} (w:World) (g:Gd w) (hx:QB k x) (hy:QB k y) (hz:QB k z) (hcb:ak w cb #[.string (qs x),.string (qs y),.string (qs z)] ty) (hk:k<=1490):Calls Tryz.prog 183 #[.slice (some ⟨cb,0,none⟩) 3 3] w (aC w (.string (qs (x+y+z)))):=by
 have HG:=ai g;have HX0:=ai hx;have HY0:=ai hy;have HZ0:=ai hz;have HCB:=ai hcb;clear g hx hy hz hcb;go_enter Tryz.func183,Tryz.ntmps183;go_wp2_with fail;refine wp_loop_rounds 4 ?_;rw [rounds_succ];have cP_0:=HCB.o.cell 0 rfl;go_wp2_with fail;refine cto (Ez x _ (HG.o.ext (Ext.refl w)) HX0.o ae) fun w1 e1=>?_
 have HX1:Hid (Ext w w1):=ai ((Ext.refl w).trans e1);have HBP_1:=ai (ak.ext HCB.o e1);clear e1 cP_0;go_wp2_with fail;rw [rounds_succ];have cP_1:=HBP_1.o.cell 1 rfl;go_wp2_with fail;refine cto (fF x y _ (HG.o.ext HX1.o) HX0.o HY0.o ae ae) fun w2 e2=>?_
 have HX2:=ai (HX1.o.trans e2);have HBP_2:=ai (ak.ext HBP_1.o e2);clear e2 cP_1;go_wp2_with fail;rw [rounds_succ];have cP_2:=HBP_2.o.cell 2 rfl;go_wp2_with fail;refine cto (fF (x+y) z _ (HG.o.ext HX2.o) (HX0.o.add HY0.o) HZ0.o ae ae) fun w3 e3=>?_
 have HX3:=ai (HX2.o.trans e3);clear e3 cP_2;go_wp2_with fail;rw [rounds_succ];go_wp2;go_ret;exact ⟨rfl,HX3.o⟩
theorem zi (x y q:Rat) (cb:Nat) {k m:Nat} (w:World) (g:Gd w) (hx:QB k x) (hq:QB m q) (hcb:ak w cb #[.string (qs q)] 34) (hk:k<=3000) (hm:m<=3000):Calls Tryz.prog 177 #[.string (qs x),.string (qs y),.pointer (some ⟨cb,0,none⟩)] w (aC w (.string (qs (x*q)))):=by
 have HG:=ai g;have HX0:=ai hx;have HQ:=ai hq;have HCB:=ai hcb;clear g hx hq hcb;go_enter Tryz.func177,Tryz.ntmps177;have cP_0:=HCB.o.cell 0 rfl;go_wp2_with fail;refine cto (cD x q _ (HG.o.ext (Ext.refl w)) HX0.o HQ.o ae ae) fun w1 e1=>?_
 have HX1:Hid (Ext w w1):=ai ((Ext.refl w).trans e1);clear e1 cP_0;go_wp2;go_ret;exact ⟨rfl,HX1.o⟩
set_option maxHeartbeats 4000000 in
theorem uZ (a b:V3) (q:Rat) (cb:Nat) {k m n:Nat} (w:World) (g:Gd w) (ha:VB k a) (hb:VB m b) (hq:QB n q) (hcb:ak w cb #[.string (qs q)] 34) (hk:k<=3000) (hn:n<=3000):Calls Tryz.prog 176 #[vv a,vv b,.func (.func 177) #[] #[.pointer (some ⟨cb,0,none⟩)]] w (aC w (vv ⟨a.x*q,a.y*q,a.z*q⟩)):=by
 have HG:=ai g;have HA:=ai ha;have HB:=ai hb;have HQ:=ai hq;have HCB:=ai hcb;clear g ha hb hq hcb;obtain ⟨r,hr⟩:∃ r:V3,r=⟨a.x*q,a.y*q,a.z*q⟩:=⟨_,rfl⟩
 have hat:∀ k:Nat,(kR a k)*q=kR r k:=by intro k;rw [hr];unfold kR;split <;> (try split) <;> rfl
 have HAT:=ai hat;have HR0:=ai hr;rw [show (⟨a.x*q,a.y*q,a.z*q⟩:V3)=r from hr.symm];clear hat hr;go_enter Tryz.func176,Tryz.ntmps176;go_wp2_with fail;refine au (fun W=>Ext w W/\ak W w.heap.size #[.string (qs a.x),.string (qs a.y),.string (qs a.z)] 67/\ak W (w.heap.size+1) #[.string (qs b.x),.string (qs b.y),.string (qs b.z)] 67/\ak W (w.heap.size+1+1) #[.string ⟨#[]⟩,.string ⟨#[]⟩,.string ⟨#[]⟩] 161) ⟨(((Ext.refl _).alloc _).alloc _).alloc _,((ak.uD rfl).alloc _).alloc _,(ak.uD (by first|rfl|simp)).alloc _,ak.uD (by first|rfl|simp)⟩ ?_;rintro W ⟨ew,b0,b1,b2⟩;have HC:=ai (And.intro (b0.cell 0 rfl) (And.intro (b0.cell 1 rfl) (And.intro (b0.cell 2 rfl) (And.intro (b1.cell 0 rfl) (And.intro (b1.cell 1 rfl) (b1.cell 2 rfl))))));have HEW:=ai ew;have HB2:=ai b2;clear b0 b1 b2 ew;go_cut [7,8] from 10 to 13 (fun p q wx=>∃ i j:Nat,p = .pointer (some ⟨i,0,none⟩)/\q = .pointer (some ⟨j,0,none⟩)/\i≠j/\W.heap.size<=i/\W.heap.size<=j/\Ext W wx/\ak wx i #[.string (qs a.x),.string (qs a.y),.string (qs a.z)] 161/\ak wx j #[.string (qs b.x),.string (qs b.y),.string (qs b.z)] 161)
 case first =>
  go_region_held3 (fun w'=>w'.cell? ⟨w.heap.size,0,none⟩=some (.string (qs a.x))/\w'.cell? ⟨w.heap.size,1,none⟩=some (.string (qs a.y))/\w'.cell? ⟨w.heap.size,2,none⟩=some (.string (qs a.z))/\w'.cell? ⟨w.heap.size+1,0,none⟩=some (.string (qs b.x))/\w'.cell? ⟨w.heap.size+1,1,none⟩=some (.string (qs b.y))/\w'.cell? ⟨w.heap.size+1,2,none⟩=some (.string (qs b.z)))
   (exact qU (by repeat (first|exact Ext.refl _|apply Ext.drew|apply Ext.alloc|(refine Ext.setCell ?_ (by simp) _))) HC.o) (first
   | (go_at_call 227;((with_reducible refine (Am ⟨qs a.x,qs a.y,qs a.z⟩ _).mono ?_);rintro e w' ⟨rfl,rfl⟩))
   | (go_at_call 227;refine (Am ⟨qs b.x,qs b.y,qs b.z⟩ _).mono ?_;rintro e w' ⟨rfl,rfl⟩))
  all_goals (go_wp2;go_meet)
  all_goals (refine ⟨_,_,rfl,rfl,ae,ae,ae,by (repeat (first|exact Ext.refl _|apply Ext.drew|apply Ext.alloc|(refine Ext.setCell ?_ (by simp) _))),?_,?_⟩)
  all_goals (repeat (first|(refine ak.uD ?_;first|rfl|(simp only [World.size_alloc];done)|(simp only [World.size_alloc];omega))|apply ak.alloc|apply ak.drew))
 case rest =>
  obtain ⟨i,j,rfl,rfl,hij,hi,hj,hx,B1,B2⟩:=hcut;have HIJ:=ai hij;have HI:=ai hi;have HJ:=ai hj;have H1:=ai B1;have H2:=ai B2;have HX:=ai hx;clear B1 B2 hx hij hi hj;go_wp2_with fail;go_loopw [14] (fun x wx=>∃ k:Nat,x = .int .i64 k/\k<=3/\Hid (Ext W wx/\ak wx i (mS r a k) 161/\ak wx j #[.string (qs b.x),.string (qs b.y),.string (qs b.z)] 161)) (fun x _=>3-(intOf x).toNat)
  case atStart=>exact ⟨0,rfl,ae,ai ⟨HX.o,by rw [BD];exact H1.o,H2.o⟩⟩
  case round =>
   rename_i wx;obtain ⟨k,rfl,hk,HH⟩:=hrel;by_cases hk3:k<3
   ·have hix:∀ (w:World) (b:Nat),(Instr.indexAt 161 (.pointer (some ⟨b,0,none⟩)) (.int .i64 (k:Int))).run Tryz.prog w = .ok (.pointer (some ⟨b,k,none⟩)) w:=fun w b=>xx w b k hk3
    have c0:=HH.o.2.1.drew.cell k (rO hk3);have k0:=HH.o.2.2.drew.cell k (tJ hk3);go_upto_region 5 with fail
    go_region_with (first
     | (go_at_call 177;refine cto (zi (kR a k) (kR b k) q cb _ (HG.o.ext (HEW.o.trans HH.o.1.drew)) (HA.o.at k) HQ.o (HCB.o.ext (HEW.o.trans HH.o.1.drew)) ae ae) fun w1 e0=>?_;have R:=HH.o.2.1.drew.ext e0;have d0:=R.cell k (rO hk3);have f0:=R.free k;have HR:=ai R;clear R))
    all_goals
     have HN:Hid (Ext W (w1.setCell ⟨i,k,none⟩ (.string (qs ((kR a k)*q))))/\ak (w1.setCell ⟨i,k,none⟩ (.string (qs ((kR a k)*q)))) i (mS r a (k+1)) 161/\ak (w1.setCell ⟨i,k,none⟩ (.string (qs ((kR a k)*q)))) j #[.string (qs b.x),.string (qs b.y),.string (qs b.z)] 161) :=
      ai ⟨(HH.o.1.drew.trans e0).setCell (p:=⟨i,k,none⟩) HI.o _,by rw [← xv hk3 (HAT.o k)];exact HR.o.set k _,(HH.o.2.2.drew.ext e0).other (a:=⟨i,k,none⟩) _ (fun h=>HIJ.o h.symm)⟩
     clear c0 d0 f0 k0 HR;go_wp2_with fail;go_roundw
     case rel=>exact ⟨k+1,by go_num,ae,HN⟩
     case measure=>simp [intOf];omega
   ·obtain rfl:k=3:=ae;have h3:=HH.o.2.1;rw [Bz] at h3;have c0:=h3.cell 0 rfl;have c1:=h3.cell 1 rfl;have c2:=h3.cell 2 rfl;have RR:=HB2.o.ext HH.o.1;have r0:=RR.cell 0 rfl;have r1:=RR.cell 1 rfl;have r2:=RR.cell 2 rfl;have q0:=RR.free 0;have q1:=RR.free 1;have q2:=RR.free 2;have HRR:=ai RR;clear RR h3 hk3;go_wp2;refine au (fun W'=>Ext w W'/\ak W' (w.heap.size+1+1) #[.string (qs r.x),.string (qs r.y),.string (qs r.z)] 161) ⟨((((HEW.o.trans HH.o.1).setCell (by simp only [];omega) _).setCell (by simp only [];omega) _).setCell (by simp only [];omega) _),((HRR.o.set 0 _).set 1 _).set 2 _⟩ ?_;clear c0 c1 c2 r0 r1 r2 q0 q1 q2;rintro W' ⟨ex,R3⟩;have g0:=R3.cell 0 rfl;have g1:=R3.cell 1 rfl;have g2:=R3.cell 2 rfl;refine bodyPost_ret (v:=.agg #[.string (qs r.x),.string (qs r.y),.string (qs r.z)]) (by simp [results,Tryz.results176,go_sem,g0,g1,g2]) rfl ⟨rfl,ex⟩
theorem Bu (v:V3) (w:World) (h:¬ (v.x=0/\v.y=0/\v.z=0)):Calls Tryz.prog 103 #[vv v] w (aC w (.bool false)):=by
 have:=vK v w;rwa [decide_eq_false h] at this
def z3 (x y z:Rat):Bool:=decide (x=0/\y=0/\z=0)
theorem Bv (x y z:Rat) (w:World):Calls Tryz.prog 103 #[.agg #[.string (qs x),.string (qs y),.string (qs z)]] w (aC w (.bool (z3 x y z))):=vK ⟨x,y,z⟩ w
theorem jY (a b c d:Rat) {k m n o:Nat} (w:World) (g:Gd w) (ha:QB k a) (hb:QB m b) (hc:QB n c) (hd:QB o d) (hk:k<=1400) (hm:m<=1400) (hn:n<=1400) (ho:o<=1400):Calls Tryz.prog 172 #[.string (qs a),.string (qs b),.string (qs c),.string (qs d)] w (aC w (.string (qs (a*d-b*c)))):=by
 have HA:=ai ha;have HB:=ai hb;have HC:=ai hc;have HD:=ai hd;have HG:=ai g;clear ha hb hc hd g;go_enter Tryz.func172,Tryz.ntmps172;go_wp2_with fail;refine cto (cD a d _ (HG.o.ext (Ext.refl w)) HA.o HD.o ae ae) fun w1 e1=>?_
 have HX1:Hid (Ext w w1):=ai ((Ext.refl w).trans e1);clear e1;go_wp2_with fail;refine cto (cD b c _ (HG.o.ext HX1.o) HB.o HC.o ae ae) fun w2 e2=>?_
 have HX2:=ai (HX1.o.trans e2);clear e2;go_wp2_with fail;refine cto (jB (a*d) (b*c) _ (HG.o.ext HX2.o) (HA.o.mul HD.o) (HB.o.mul HC.o) ae ae) fun w3 e3=>?_
 have HX3:=ai (HX2.o.trans e3);clear e3;go_wp2;go_ret;exact ⟨rfl,HX3.o⟩
theorem xu (a b:V3) {k m:Nat} (w:World) (g:Gd w) (ha:VB k a) (hb:VB m b) (hk:k<=900) (hm:m<=900):Calls Tryz.prog 104 #[.agg #[.string (qs a.x),.string (qs a.y),.string (qs a.z)],.agg #[.string (qs b.x),.string (qs b.y),.string (qs b.z)]] w (aC w (.agg #[.string (qs (a.y*b.z-a.z*b.y)),.string (qs (a.z*b.x-a.x*b.z)),.string (qs (a.x*b.y-a.y*b.x))])):=by
 have HA:=ai ha;have HB:=ai hb;have HG:=ai g;clear ha hb g;go_enter Tryz.func104,Tryz.ntmps104;go_wp2_with fail;refine au (fun W=>Ext w W/\ak W (w.heap.size) #[.string (qs a.x),.string (qs a.y),.string (qs a.z)] 67/\ak W (w.heap.size+1) #[.string (qs b.x),.string (qs b.y),.string (qs b.z)] 67/\ak W (w.heap.size+1+1) #[.string ⟨#[]⟩,.string ⟨#[]⟩,.string ⟨#[]⟩] 67) ⟨((((Ext.refl w).alloc _).alloc _).alloc _),(((ak.nw (#[.string (qs a.x),.string (qs a.y),.string (qs a.z)]) 67).alloc _).alloc _),((ak.nw (#[.string (qs b.x),.string (qs b.y),.string (qs b.z)]) 67).alloc _),(ak.nw (#[.string ⟨#[]⟩,.string ⟨#[]⟩,.string ⟨#[]⟩]) 67)⟩ ?_;rintro w1 ⟨e1,bB0_1,bB1_1,bB2_1⟩;have HX1:=ai e1;have HB0_1:=ai bB0_1;have HB1_1:=ai bB1_1;have HB2_1:=ai bB2_1;have HGEB0:Hid (w.heap.size<=w.heap.size):=ai ah;have HGEB1:Hid (w.heap.size<=w.heap.size+1):=ai ah;have HGEB2:Hid (w.heap.size<=w.heap.size+1+1):=ai ah;clear e1 bB0_1 bB1_1 bB2_1;have hS1:w1.cell? ⟨w.heap.size,1,none⟩=some (.string (qs a.y))/\w1.cell? ⟨w.heap.size,2,none⟩=some (.string (qs a.z))/\w1.cell? ⟨w.heap.size+1,1,none⟩=some (.string (qs b.y))/\w1.cell? ⟨w.heap.size+1,2,none⟩=some (.string (qs b.z))/\w1.cell? ⟨w.heap.size,0,none⟩=some (.string (qs a.x))/\w1.cell? ⟨w.heap.size+1,0,none⟩=some (.string (qs b.x)):=⟨HB0_1.o.cell 1 rfl,HB0_1.o.cell 2 rfl,HB1_1.o.cell 1 rfl,HB1_1.o.cell 2 rfl,HB0_1.o.cell 0 rfl,HB1_1.o.cell 0 rfl⟩
 have HS1:=ai hS1;clear hS1;go_region_held3 (fun w'=>w'.cell? ⟨w.heap.size,1,none⟩=some (.string (qs a.y))/\w'.cell? ⟨w.heap.size,2,none⟩=some (.string (qs a.z))/\w'.cell? ⟨w.heap.size+1,1,none⟩=some (.string (qs b.y))/\w'.cell? ⟨w.heap.size+1,2,none⟩=some (.string (qs b.z))/\w'.cell? ⟨w.heap.size,0,none⟩=some (.string (qs a.x))/\w'.cell? ⟨w.heap.size+1,0,none⟩=some (.string (qs b.x)))
  (((try simp only [iL (show w.heap.size≠w.heap.size+1+1 from ah),iL (show w.heap.size+1≠w.heap.size+1+1 from ah)]);exact qU (by repeat (first|assumption|exact Ext.refl _|apply Ext.drew|apply Ext.alloc|(refine Ext.setCell ?_ ah _)|(refine Ext.trans ?_ (by assumption)))) HS1.o)) ((first
   | (go_at_call 172;((with_reducible refine (jY a.y a.z b.y b.z _ (HG.o.ext (HX1.o.trans (by repeat (first|assumption|exact Ext.refl _|apply Ext.drew|apply Ext.alloc|(refine Ext.setCell ?_ ah _)|(refine Ext.trans ?_ (by assumption)))))) HA.o.y HA.o.z HB.o.y HB.o.z ae ae ae ae).mono ?_);rintro e w2 ⟨rfl,e2⟩))
   | (go_at_call 172;((with_reducible refine (jY a.z a.x b.z b.x _ (HG.o.ext (HX1.o.trans (by repeat (first|assumption|exact Ext.refl _|apply Ext.drew|apply Ext.alloc|(refine Ext.setCell ?_ ah _)|(refine Ext.trans ?_ (by assumption)))))) HA.o.z HA.o.x HB.o.z HB.o.x ae ae ae ae).mono ?_);rintro e w3 ⟨rfl,e3⟩))
   | (go_at_call 172;((with_reducible refine (jY a.x a.y b.x b.y _ (HG.o.ext (HX1.o.trans (by repeat (first|assumption|exact Ext.refl _|apply Ext.drew|apply Ext.alloc|(refine Ext.setCell ?_ ah _)|(refine Ext.trans ?_ (by assumption)))))) HA.o.x HA.o.y HB.o.x HB.o.y ae ae ae ae).mono ?_);rintro e w4 ⟨rfl,e4⟩;have RB2:=ak.ext HB2_1.o (w':=w4) (by repeat (first|assumption|exact Ext.refl _|apply Ext.drew|(refine Ext.trans ?_ (by assumption))));have cB2_0:=RB2.cell 0 rfl;have fB2_0:=RB2.free 0;have cB2_1:=RB2.cell 1 rfl;have fB2_1:=RB2.free 1;have cB2_2:=RB2.cell 2 rfl;have fB2_2:=RB2.free 2;have HRB2:=ai RB2;clear RB2))))
 refine au (fun W=>Ext w W/\ak W (w.heap.size+1+1) #[.string (qs (a.y*b.z-a.z*b.y)),.string (qs (a.z*b.x-a.x*b.z)),.string (qs (a.x*b.y-a.y*b.x))] 67) ⟨((((HX1.o.trans ((((Ext.refl _).drew.trans e2).trans e3).trans e4)).setCell (by have:=HGEB2.o;first|omega|(simp only [];omega)|(simp;omega)) _).setCell (by have:=HGEB2.o;first|omega|(simp only [];omega)|(simp;omega)) _).setCell (by have:=HGEB2.o;first|omega|(simp only [];omega)|(simp;omega)) _),((((ak.ext HB2_1.o ((((Ext.refl _).drew.trans e2).trans e3).trans e4)).set 0 (.string (qs (a.y*b.z-a.z*b.y)))).set 1 (.string (qs (a.z*b.x-a.x*b.z)))).set 2 (.string (qs (a.x*b.y-a.y*b.x))))⟩ ?_;clear cB2_0 fB2_0 cB2_1 fB2_1 cB2_2 fB2_2;rintro w5 ⟨e5,bB2_5⟩;have HX5:=ai e5;have HB2_5:=ai bB2_5;clear e5 bB2_5;go_wp2_with fail;have gB2_0:=HB2_5.o.cell 0 rfl;have gB2_1:=HB2_5.o.cell 1 rfl;have gB2_2:=HB2_5.o.cell 2 rfl;refine bodyPost_ret (v:=.agg #[.string (qs (a.y*b.z-a.z*b.y)),.string (qs (a.z*b.x-a.x*b.z)),.string (qs (a.x*b.y-a.y*b.x))]) (by simp [results,Tryz.results104,go_sem,gB2_0,gB2_1,gB2_2]) rfl ⟨rfl,HX5.o⟩
theorem yV (a b c:P2) {k m n:Nat} (w:World) (g:Gd w) (ha:PB k a) (hb:PB m b) (hc:PB n c) (hk:k<=600) (hm:m<=600) (hn:n<=600):Calls Tryz.prog 90 #[.agg #[.string (qs a.x),.string (qs a.y)],.agg #[.string (qs b.x),.string (qs b.y)],.agg #[.string (qs c.x),.string (qs c.y)]] w (aC w (.string (qs ((b.x-a.x)*(c.y-a.y)-(b.y-a.y)*(c.x-a.x))))):=by
 have HA:=ai ha;have HB:=ai hb;have HC:=ai hc;have HG:=ai g;clear ha hb hc g;go_enter Tryz.func90,Tryz.ntmps90;go_wp2_with fail;refine au (fun W=>Ext w W/\ak W (w.heap.size) #[.string (qs a.x),.string (qs a.y)] 58/\ak W (w.heap.size+1) #[.string (qs b.x),.string (qs b.y)] 58/\ak W (w.heap.size+1+1) #[.string (qs c.x),.string (qs c.y)] 58) ⟨((((Ext.refl w).alloc _).alloc _).alloc _),(((ak.nw (#[.string (qs a.x),.string (qs a.y)]) 58).alloc _).alloc _),((ak.nw (#[.string (qs b.x),.string (qs b.y)]) 58).alloc _),(ak.nw (#[.string (qs c.x),.string (qs c.y)]) 58)⟩ ?_;rintro w1 ⟨e1,bB0_1,bB1_1,bB2_1⟩;have HX1:=ai e1;have HB0_1:=ai bB0_1;have HB1_1:=ai bB1_1;have HB2_1:=ai bB2_1;have HGEB0:Hid (w.heap.size<=w.heap.size):=ai ah;have HGEB1:Hid (w.heap.size<=w.heap.size+1):=ai ah;have HGEB2:Hid (w.heap.size<=w.heap.size+1+1):=ai ah;clear e1 bB0_1 bB1_1 bB2_1;have hS1:w1.cell? ⟨w.heap.size+1,0,none⟩=some (.string (qs b.x))/\w1.cell? ⟨w.heap.size,0,none⟩=some (.string (qs a.x))/\w1.cell? ⟨w.heap.size+1,1,none⟩=some (.string (qs b.y))/\w1.cell? ⟨w.heap.size,1,none⟩=some (.string (qs a.y))/\w1.cell? ⟨w.heap.size+1+1,0,none⟩=some (.string (qs c.x))/\w1.cell? ⟨w.heap.size+1+1,1,none⟩=some (.string (qs c.y)):=⟨HB1_1.o.cell 0 rfl,HB0_1.o.cell 0 rfl,HB1_1.o.cell 1 rfl,HB0_1.o.cell 1 rfl,HB2_1.o.cell 0 rfl,HB2_1.o.cell 1 rfl⟩
 have HS1:=ai hS1;clear hS1;go_region_held3 (fun w'=>w'.cell? ⟨w.heap.size+1,0,none⟩=some (.string (qs b.x))/\w'.cell? ⟨w.heap.size,0,none⟩=some (.string (qs a.x))/\w'.cell? ⟨w.heap.size+1,1,none⟩=some (.string (qs b.y))/\w'.cell? ⟨w.heap.size,1,none⟩=some (.string (qs a.y))/\w'.cell? ⟨w.heap.size+1+1,0,none⟩=some (.string (qs c.x))/\w'.cell? ⟨w.heap.size+1+1,1,none⟩=some (.string (qs c.y)))
  ((exact qU (by repeat (first|assumption|exact Ext.refl _|apply Ext.drew|apply Ext.alloc|(refine Ext.setCell ?_ ah _)|(refine Ext.trans ?_ (by assumption)))) HS1.o)) ((first
   | (go_at_call 117;((with_reducible refine (jB b.x a.x _ (HG.o.ext (HX1.o.trans (by repeat (first|assumption|exact Ext.refl _|apply Ext.drew|apply Ext.alloc|(refine Ext.setCell ?_ ah _)|(refine Ext.trans ?_ (by assumption)))))) HB.o.x HA.o.x ae ae).mono ?_);rintro e w2 ⟨rfl,e2⟩))
   | (go_at_call 117;((with_reducible refine (jB b.y a.y _ (HG.o.ext (HX1.o.trans (by repeat (first|assumption|exact Ext.refl _|apply Ext.drew|apply Ext.alloc|(refine Ext.setCell ?_ ah _)|(refine Ext.trans ?_ (by assumption)))))) HB.o.y HA.o.y ae ae).mono ?_);rintro e w3 ⟨rfl,e3⟩))
   | (go_at_call 117;((with_reducible refine (jB c.x a.x _ (HG.o.ext (HX1.o.trans (by repeat (first|assumption|exact Ext.refl _|apply Ext.drew|apply Ext.alloc|(refine Ext.setCell ?_ ah _)|(refine Ext.trans ?_ (by assumption)))))) HC.o.x HA.o.x ae ae).mono ?_);rintro e w4 ⟨rfl,e4⟩))
   | (go_at_call 117;((with_reducible refine (jB c.y a.y _ (HG.o.ext (HX1.o.trans (by repeat (first|assumption|exact Ext.refl _|apply Ext.drew|apply Ext.alloc|(refine Ext.setCell ?_ ah _)|(refine Ext.trans ?_ (by assumption)))))) HC.o.y HA.o.y ae ae).mono ?_);rintro e w5 ⟨rfl,e5⟩))
   | (go_at_call 172;((with_reducible refine (jY (b.x-a.x) (b.y-a.y) (c.x-a.x) (c.y-a.y) _ (HG.o.ext (HX1.o.trans (by repeat (first|assumption|exact Ext.refl _|apply Ext.drew|apply Ext.alloc|(refine Ext.setCell ?_ ah _)|(refine Ext.trans ?_ (by assumption)))))) (HB.o.x.sub HA.o.x) (HB.o.y.sub HA.o.y) (HC.o.x.sub HA.o.x) (HC.o.y.sub HA.o.y) ae ae ae ae).mono ?_);rintro e w6 ⟨rfl,e6⟩))))
 refine au (fun W=>Ext w W) (HX1.o.trans ((((((Ext.refl _).drew.trans e2).trans e3).trans e4).trans e5).trans e6)) ?_;rintro w7 e7;have HX7:=ai e7;clear e7;go_wp2;go_ret;exact ⟨rfl,HX7.o⟩
theorem kP (a:V3) (q:Rat) {k m:Nat} (w:World) (g:Gd w) (ha:VB k a) (hq:QB m q) (hk:k<=3000) (hm:m<=3000):Calls Tryz.prog 98 #[.agg #[.string (qs a.x),.string (qs a.y),.string (qs a.z)],.string (qs q)] w (aC w (.agg #[.string (qs (a.x*q)),.string (qs (a.y*q)),.string (qs (a.z*q))])):=by
 have HA:=ai ha;have HQ:=ai hq;have HG:=ai g;clear ha hq g;go_enter Tryz.func98,Tryz.ntmps98;go_wp2_with fail;refine cto (uZ a a q (w.heap.size+1) _ (HG.o.ext ((((Ext.refl w).alloc _).alloc _).alloc _)) HA.o HA.o HQ.o ((ak.nw (#[.string (qs q)]) 34).alloc _) ae ae) fun w1 e1=>?_
 have HX1:Hid (Ext w w1):=ai (((((Ext.refl w).alloc _).alloc _).alloc _).trans e1);have HB1_1:Hid (ak w1 (w.heap.size+1) #[.string (qs q)] 34):=ai (ak.ext ((ak.nw (#[.string (qs q)]) 34).alloc _) e1);have HB2_1:Hid (ak w1 (w.heap.size+1+1) #[.string ⟨#[]⟩,.string ⟨#[]⟩,.string ⟨#[]⟩] 161):=ai (ak.ext (ak.nw (#[.string ⟨#[]⟩,.string ⟨#[]⟩,.string ⟨#[]⟩]) 161) e1);have HGEB1:Hid (w.heap.size<=w.heap.size+1):=ai ah;have HGEB2:Hid (w.heap.size<=w.heap.size+1+1):=ai ah;clear e1;have c2_0:=HB2_1.o.cell 0 rfl;have f2_0:=HB2_1.o.free 0;have c2_1:=HB2_1.o.cell 1 rfl;have f2_1:=HB2_1.o.free 1;have c2_2:=HB2_1.o.cell 2 rfl;have f2_2:=HB2_1.o.free 2;go_wp2_with fail;refine au (fun W=>Ext w W/\ak W (w.heap.size+1+1) #[.string (qs (a.x*q)),.string (qs (a.y*q)),.string (qs (a.z*q))] 161) ⟨(((HX1.o.setCell (by have:=HGEB2.o;first|omega|(simp only [];omega)|(simp;omega)) _).setCell (by have:=HGEB2.o;first|omega|(simp only [];omega)|(simp;omega)) _).setCell (by have:=HGEB2.o;first|omega|(simp only [];omega)|(simp;omega)) _),(((HB2_1.o.set 0 (.string (qs (a.x*q)))).set 1 (.string (qs (a.y*q)))).set 2 (.string (qs (a.z*q))))⟩ ?_;rintro w2 ⟨e2,bB2_2⟩;have HX2:=ai e2;have HB2_2:=ai bB2_2;clear e2 bB2_2 c2_0 f2_0 c2_1 f2_1 c2_2 f2_2;have gB2_0:=HB2_2.o.cell 0 rfl;have gB2_1:=HB2_2.o.cell 1 rfl;have gB2_2:=HB2_2.o.cell 2 rfl;refine bodyPost_ret (v:=.agg #[.string (qs (a.x*q)),.string (qs (a.y*q)),.string (qs (a.z*q))]) (by simp [results,Tryz.results98,go_sem,gB2_0,gB2_1,gB2_2]) rfl ⟨rfl,HX2.o⟩
theorem o7 (a:V3) (q:Rat) (w:World) (g:Gd w) (ha:VB 200 a) (hq:QB 200 q) (hr:VB 200 ⟨a.x*q,a.y*q,a.z*q⟩):Calls Tryz.prog 32 #[.agg #[.string (qs a.x),.string (qs a.y),.string (qs a.z)],.string (qs q)] w (aC w (.tuple #[.agg #[.string (qs (a.x*q)),.string (qs (a.y*q)),.string (qs (a.z*q))],.int .i64 0])):=by
 have HA:=ai ha;have HQ:=ai hq;have HR:=ai hr;have HG:=ai g;clear ha hq hr g;go_enter Tryz.func32,Tryz.ntmps32;go_wp2_with fail;refine cto (lA a (w.heap.size+1+1) _ (HG.o.ext ((((Ext.refl w).alloc _).alloc _).alloc _)) (HA.o.mono ae) (ak.nw (#[.string (qs a.x),.string (qs a.y),.string (qs a.z)]) 67)) fun w1 e1=>?_
 have HX1:Hid (Ext w w1):=ai (((((Ext.refl w).alloc _).alloc _).alloc _).trans e1);have HB0_1:Hid (ak w1 (w.heap.size) #[.string (qs a.x),.string (qs a.y),.string (qs a.z)] 67):=ai (ak.ext (((ak.nw (#[.string (qs a.x),.string (qs a.y),.string (qs a.z)]) 67).alloc _).alloc _) e1);have HB1_1:Hid (ak w1 (w.heap.size+1) #[.string ⟨#[]⟩,.string ⟨#[]⟩,.string ⟨#[]⟩] 67):=ai (ak.ext ((ak.nw (#[.string ⟨#[]⟩,.string ⟨#[]⟩,.string ⟨#[]⟩]) 67).alloc _) e1);have HB2_1:Hid (ak w1 (w.heap.size+1+1) #[.string (qs a.x),.string (qs a.y),.string (qs a.z)] 67):=ai (ak.ext (ak.nw (#[.string (qs a.x),.string (qs a.y),.string (qs a.z)]) 67) e1);have HGEB0:Hid (w.heap.size<=w.heap.size):=ai ah;have HGEB1:Hid (w.heap.size<=w.heap.size+1):=ai ah;have HGEB2:Hid (w.heap.size<=w.heap.size+1+1):=ai ah;clear e1;go_wp2_with fail;refine cto (sB q (w1.heap.size) _ (HG.o.ext (HX1.o.alloc _)) HQ.o (ak.nw (#[.string (qs q)]) 34)) fun w2 e2=>?_
 have HX2:Hid (Ext w w2):=ai ((HX1.o.alloc _).trans e2);have HB0_2:Hid (ak w2 (w.heap.size) #[.string (qs a.x),.string (qs a.y),.string (qs a.z)] 67):=ai (ak.ext (HB0_1.o.alloc _) e2);have HB1_2:Hid (ak w2 (w.heap.size+1) #[.string ⟨#[]⟩,.string ⟨#[]⟩,.string ⟨#[]⟩] 67):=ai (ak.ext (HB1_1.o.alloc _) e2);have HB3_2:Hid (ak w2 (w1.heap.size) #[.string (qs q)] 34):=ai (ak.ext (ak.nw (#[.string (qs q)]) 34) e2);have HGEB3:Hid (w.heap.size<=w1.heap.size):=ai (by have:=HX1.o.size;first|omega|(simp only [];omega)|(simp;omega));clear e2;have c0_0:=HB0_2.o.cell 0 rfl;have c0_1:=HB0_2.o.cell 1 rfl;have c0_2:=HB0_2.o.cell 2 rfl;go_wp2_with fail;refine cto (kP a q _ (HG.o.ext HX2.o) HA.o HQ.o ae ae) fun w3 e3=>?_
 have HX3:=ai (HX2.o.trans e3);have HB1_3:=ai (ak.ext HB1_2.o e3);clear e3 c0_0 c0_1 c0_2;go_wp2_with fail;refine cto (r4 (a.x*q) (a.y*q) (a.z*q) _ HR.o.x HR.o.y HR.o.z) fun w4 e4=>?_
 have HX4:=ai (HX3.o.trans e4);have HB1_4:=ai (ak.ext HB1_3.o e4);clear e4;have c1_0:=HB1_4.o.cell 0 rfl;have f1_0:=HB1_4.o.free 0;have c1_1:=HB1_4.o.cell 1 rfl;have f1_1:=HB1_4.o.free 1;have c1_2:=HB1_4.o.cell 2 rfl;have f1_2:=HB1_4.o.free 2;go_wp2_with fail;refine au (fun W=>Ext w W/\ak W (w.heap.size+1) #[.string (qs (a.x*q)),.string (qs (a.y*q)),.string (qs (a.z*q))] 67) ⟨(((HX4.o.setCell (by have:=HGEB1.o;first|omega|(simp only [];omega)|(simp;omega)) _).setCell (by have:=HGEB1.o;first|omega|(simp only [];omega)|(simp;omega)) _).setCell (by have:=HGEB1.o;first|omega|(simp only [];omega)|(simp;omega)) _),(((HB1_4.o.set 0 (.string (qs (a.x*q)))).set 1 (.string (qs (a.y*q)))).set 2 (.string (qs (a.z*q))))⟩ ?_;rintro w5 ⟨e5,bB1_5⟩;have HX5:=ai e5;have HB1_5:=ai bB1_5;clear e5 bB1_5 c1_0 f1_0 c1_1 f1_1 c1_2 f1_2;have gB1_0:=HB1_5.o.cell 0 rfl;have gB1_1:=HB1_5.o.cell 1 rfl;have gB1_2:=HB1_5.o.cell 2 rfl;refine bodyPost_ret (v:=.tuple #[.agg #[.string (qs (a.x*q)),.string (qs (a.y*q)),.string (qs (a.z*q))],.int .i64 0]) (by simp [results,Tryz.results32,go_sem,gB1_0,gB1_1,gB1_2]) rfl ⟨rfl,HX5.o⟩
theorem jZ (a b:V3) (w:World) (g:Gd w) (ha:VB 200 a) (hb:VB 200 b):Calls Tryz.prog 35 #[.agg #[.string (qs a.x),.string (qs a.y),.string (qs a.z)],.agg #[.string (qs b.x),.string (qs b.y),.string (qs b.z)]] w (aC w (.tuple #[.bool (z3 (a.y*b.z-a.z*b.y) (a.z*b.x-a.x*b.z) (a.x*b.y-a.y*b.x)),.int .i64 0])):=by
 have HA:=ai ha;have HB:=ai hb;have HG:=ai g;clear ha hb g;go_enter Tryz.func35,Tryz.ntmps35;go_wp2_with fail;refine cto (rK a b (w.heap.size+1+1) _ (HG.o.ext ((((Ext.refl w).alloc _).alloc _).alloc _)) (HA.o.mono ae) (HB.o.mono ae) (ak.nw (#[.string (qs a.x),.string (qs a.y),.string (qs a.z),.string (qs b.x),.string (qs b.y),.string (qs b.z)]) 67)) fun w1 e1=>?_
 have HX1:Hid (Ext w w1):=ai (((((Ext.refl w).alloc _).alloc _).alloc _).trans e1);have HB0_1:Hid (ak w1 (w.heap.size) #[.string (qs a.x),.string (qs a.y),.string (qs a.z)] 67):=ai (ak.ext (((ak.nw (#[.string (qs a.x),.string (qs a.y),.string (qs a.z)]) 67).alloc _).alloc _) e1);have HB1_1:Hid (ak w1 (w.heap.size+1) #[.string (qs b.x),.string (qs b.y),.string (qs b.z)] 67):=ai (ak.ext ((ak.nw (#[.string (qs b.x),.string (qs b.y),.string (qs b.z)]) 67).alloc _) e1);have HB2_1:Hid (ak w1 (w.heap.size+1+1) #[.string (qs a.x),.string (qs a.y),.string (qs a.z),.string (qs b.x),.string (qs b.y),.string (qs b.z)] 67):=ai (ak.ext (ak.nw (#[.string (qs a.x),.string (qs a.y),.string (qs a.z),.string (qs b.x),.string (qs b.y),.string (qs b.z)]) 67) e1);have HGEB0:Hid (w.heap.size<=w.heap.size):=ai ah;have HGEB1:Hid (w.heap.size<=w.heap.size+1):=ai ah;have HGEB2:Hid (w.heap.size<=w.heap.size+1+1):=ai ah;clear e1;have c0_0:=HB0_1.o.cell 0 rfl;have c0_1:=HB0_1.o.cell 1 rfl;have c0_2:=HB0_1.o.cell 2 rfl;have c1_0:=HB1_1.o.cell 0 rfl;have c1_1:=HB1_1.o.cell 1 rfl;have c1_2:=HB1_1.o.cell 2 rfl;go_wp2_with fail;refine cto (xu a b _ (HG.o.ext HX1.o) HA.o HB.o ae ae) fun w2 e2=>?_
 have HX2:=ai (HX1.o.trans e2);clear e2 c0_0 c0_1 c0_2 c1_0 c1_1 c1_2;go_wp2_with fail;refine cto (Bv (a.y*b.z-a.z*b.y) (a.z*b.x-a.x*b.z) (a.x*b.y-a.y*b.x) _) fun w3 e3=>?_
 have HX3:=ai (HX2.o.trans e3);clear e3;go_wp2;go_ret2;exact ⟨rfl,HX3.o⟩
theorem rN (a b c:P2) (w:World) (g:Gd w) (ha:PB 200 a) (hb:PB 200 b) (hc:PB 200 c):Calls Tryz.prog 28 #[.agg #[.string (qs a.x),.string (qs a.y)],.agg #[.string (qs b.x),.string (qs b.y)],.agg #[.string (qs c.x),.string (qs c.y)]] w (aC w (.tuple #[.int .i64 (((b.x-a.x)*(c.y-a.y)-(b.y-a.y)*(c.x-a.x)).num.sign),.int .i64 0])):=by
 have HA:=ai ha;have HB:=ai hb;have HC:=ai hc;have HG:=ai g;clear ha hb hc g;go_enter Tryz.func28,Tryz.ntmps28;go_wp2_with fail;refine cto (ux a b c (w.heap.size+1+1+1) _ (HG.o.ext (((((Ext.refl w).alloc _).alloc _).alloc _).alloc _)) (HA.o.mono ae) (HB.o.mono ae) (HC.o.mono ae) (ak.nw (#[.string (qs a.x),.string (qs a.y),.string (qs b.x),.string (qs b.y),.string (qs c.x),.string (qs c.y)]) 58)) fun w1 e1=>?_
 have HX1:Hid (Ext w w1):=ai ((((((Ext.refl w).alloc _).alloc _).alloc _).alloc _).trans e1);have HB0_1:Hid (ak w1 (w.heap.size) #[.string (qs a.x),.string (qs a.y)] 58):=ai (ak.ext ((((ak.nw (#[.string (qs a.x),.string (qs a.y)]) 58).alloc _).alloc _).alloc _) e1);have HB1_1:Hid (ak w1 (w.heap.size+1) #[.string (qs b.x),.string (qs b.y)] 58):=ai (ak.ext (((ak.nw (#[.string (qs b.x),.string (qs b.y)]) 58).alloc _).alloc _) e1);have HB2_1:Hid (ak w1 (w.heap.size+1+1) #[.string (qs c.x),.string (qs c.y)] 58):=ai (ak.ext ((ak.nw (#[.string (qs c.x),.string (qs c.y)]) 58).alloc _) e1);have HB3_1:Hid (ak w1 (w.heap.size+1+1+1) #[.string (qs a.x),.string (qs a.y),.string (qs b.x),.string (qs b.y),.string (qs c.x),.string (qs c.y)] 58):=ai (ak.ext (ak.nw (#[.string (qs a.x),.string (qs a.y),.string (qs b.x),.string (qs b.y),.string (qs c.x),.string (qs c.y)]) 58) e1);have HGEB0:Hid (w.heap.size<=w.heap.size):=ai ah;have HGEB1:Hid (w.heap.size<=w.heap.size+1):=ai ah;have HGEB2:Hid (w.heap.size<=w.heap.size+1+1):=ai ah;have HGEB3:Hid (w.heap.size<=w.heap.size+1+1+1):=ai ah;clear e1;have c0_0:=HB0_1.o.cell 0 rfl;have c0_1:=HB0_1.o.cell 1 rfl;have c1_0:=HB1_1.o.cell 0 rfl;have c1_1:=HB1_1.o.cell 1 rfl;have c2_0:=HB2_1.o.cell 0 rfl;have c2_1:=HB2_1.o.cell 1 rfl;go_wp2_with fail;refine cto (yV a b c _ (HG.o.ext HX1.o) HA.o HB.o HC.o ae ae ae) fun w2 e2=>?_
 have HX2:=ai (HX1.o.trans e2);clear e2 c0_0 c0_1 c1_0 c1_1 c2_0 c2_1;go_wp2_with fail;refine (aU ((b.x-a.x)*(c.y-a.y)-(b.y-a.y)*(c.x-a.x)) _).mono ?_;rintro e _ ⟨rfl,rfl⟩;go_wp2;go_ret2;exact ⟨rfl,HX2.o⟩
theorem o8 (v:V3) (w:World) (g:Gd w) (hv:VB 200 v):Calls Tryz.prog 101 #[vv v] w (aC w (.int .i64 0)):=by
 have:=du ⟨qs v.x,qs v.y,qs v.z⟩ w g hv.ts;rwa [show bQ (T3.l ⟨qs v.x,qs v.y,qs v.z⟩)=0 from mY hv.all] at this
theorem mR (v:P2) (w:World) (g:Gd w) (hv:PB 200 v):Calls Tryz.prog 111 #[pv v] w (aC w (.int .i64 0)):=by
 have:=iQ ⟨qs v.x,qs v.y⟩ w g hv.ts;rwa [show bQ (T2.l ⟨qs v.x,qs v.y⟩)=0 from mY hv.all] at this
theorem QB.x9 {k:Nat} {q:Rat} (h:QB k q):IB k q.num:=⟨h.num⟩
theorem QB.jK {k:Nat} {q:Rat} (h:QB k q):IB k (q.den:Int):=⟨by simpa using h.den⟩
theorem IB.zero:IB 1 0:=⟨af⟩
theorem IB.one:IB 1 1:=⟨af⟩
theorem IB.gcd {k m:Nat} {a b:Int} (ha:IB k a) (hb:IB m b):IB (max k m) (Int.gcd a b:Int):=by
 by_cases h:b=0
 ·subst h;have:=ha.mono (Nat.le_max_left k m);exact this.of_le (by simp)
 ·exact (hb.mono (Nat.le_max_right k m)).of_le (by rw [Int.natAbs_natCast];exact Nat.le_of_dvd ae (Int.gcd_dvd_natAbs_right a b))
theorem IB.div {k:Nat} {a:Int} (ha:IB k a) (b:Int):IB k (a / b):=ha.of_le (Int.natAbs_ediv_le_natAbs a b)
theorem Gt (b:Int) {m:Nat} (w:World) (g:Gd w) (hb:IB m b) (hm:m<=9000):Calls Tryz.prog 182 #[.string ⟨#[49]⟩,.string (zs b)] w (aC w (.string (zs (Int.gcd 1 b:Int)))):=by
 have:=jr 1 b w g IB.one hb af hm;rwa [eU] at this
theorem Gu (b:Int) {m:Nat} (w:World) (g:Gd w) (hb:IB m b) (hm:m<=9000):Calls Tryz.prog 182 #[.string ⟨#[48]⟩,.string (zs b)] w (aC w (.string (zs (Int.gcd 0 b:Int)))):=by
 have:=jr 0 b w g IB.zero hb af hm;rwa [p8] at this
theorem AB (b:Int) {m:Nat} (w:World) (g:Gd w) (hb:IB m b) (hm:m<=9000):Calls Tryz.prog 88 #[.string ⟨#[49]⟩,.string (zs b)] w (aC w (.string (zs (1*b)))):=by
 have:=eA 1 b w g IB.one hb af hm;rwa [eU] at this
theorem xr (a:V3) (n:Int) {k m:Nat} (w:World) (g:Gd w) (ha:VB k a) (hn:IB m n) (hk:k<=3000) (hm:m<=3000) (h1:1<=m):Calls Tryz.prog 98 #[vv a,.string (zs n)] w (aC w (.agg #[.string (qs (a.x*(n:Rat))),.string (qs (a.y*(n:Rat))),.string (qs (a.z*(n:Rat)))])):=by
 have:=kP a (n:Rat) w g ha (QB.int hn h1) hk hm;rwa [jF] at this
theorem Gi (d:Nat) (hd:d≠0) {m:Nat} (w:World) (g:Gd w) (hdb:IB m (d:Int)) (hm:m<=8000) :
    Calls Tryz.prog 229 #[.string ⟨#[49]⟩,.string (zs (d:Int))] w (aC w (.tuple #[.string (qs (mkRat 1 d)),.int .i64 0])):=by
 have:=DF 1 d hd w g IB.one hdb af hm;rwa [eU] at this
theorem QB.Iq {m:Nat} {d:Nat} (hd:d≠0) (h:IB m (d:Int)) (hm:1<=m):QB m (mkRat 1 d):=QB.mk' hd (Nat.one_lt_pow ae af) (by simpa using h.out)
theorem uN {a b:Int} (h:b≠0):(Int.gcd a b:Int)≠0:=by
 intro e;have e':Int.gcd a b=0:=ae;exact h (Int.gcd_eq_zero_iff.1 e').2
theorem vh (q:Rat):(q.den:Int)≠0:=by have:=q.den_nz;omega
def zU (v:V3):Int:=(Int.gcd 1 (v.x.den:Int):Int)
def sq (v:V3):Int:=1*((v.x.den:Int) / zU v)
def sk (v:V3):Int:=sq v*((v.y.den:Int) / (Int.gcd (sq v) (v.y.den:Int):Int))
def nE (v:V3):Int:=sk v*((v.z.den:Int) / (Int.gcd (sk v) (v.z.den:Int):Int))
def Cg (v:V3):Int:=(Int.gcd 0 v.x.num:Int)
def Cf (v:V3):Int:=(Int.gcd (Cg v) v.y.num:Int)
def fX (v:V3):Nat:=Int.gcd (Cf v) v.z.num
def aB (v:V3):V3:=⟨v.x*(nE v:Rat),v.y*(nE v:Rat),v.z*(nE v:Rat)⟩
def az (v:V3):V3:=⟨(aB v).x*mkRat 1 (fX (aB v)),(aB v).y*mkRat 1 (fX (aB v)),(aB v).z*mkRat 1 (fX (aB v))⟩
theorem Io (v:V3) {m:Nat} (w:World) (g:Gd w) (hb:IB m (v.x.den:Int)) (hm:m<=9000):Calls Tryz.prog 182 #[.string ⟨#[49]⟩,.string (zs (v.x.den:Int))] w (aC w (.string (zs (zU v)))):=Gt _ w g hb hm
theorem EI (v:V3):zU v≠0:=uN (vh _)
theorem IB.zU {k:Nat} {v:V3} (h:VB k v):IB (max 1 k) (zU v):=IB.one.gcd (QB.jK h.x)
theorem Ij (v:V3) {m:Nat} (w:World) (g:Gd w) (hb:IB m ((v.x.den:Int) / zU v)) (hm:m<=9000):Calls Tryz.prog 88 #[.string ⟨#[49]⟩,.string (zs ((v.x.den:Int) / zU v))] w (aC w (.string (zs (sq v)))):=AB _ w g hb hm
theorem Ii (v:V3) {k m:Nat} (w:World) (g:Gd w) (ha:IB k (sq v)) (hb:IB m ((v.y.den:Int) / (Int.gcd (sq v) (v.y.den:Int):Int))) (hk:k<=9000) (hm:m<=9000):Calls Tryz.prog 88 #[.string (zs (sq v)),.string (zs ((v.y.den:Int) / (Int.gcd (sq v) (v.y.den:Int):Int)))] w (aC w (.string (zs (sk v)))):=eA _ _ w g ha hb hk hm
theorem Ih (v:V3) {k m:Nat} (w:World) (g:Gd w) (ha:IB k (sk v)) (hb:IB m ((v.z.den:Int) / (Int.gcd (sk v) (v.z.den:Int):Int))) (hk:k<=9000) (hm:m<=9000):Calls Tryz.prog 88 #[.string (zs (sk v)),.string (zs ((v.z.den:Int) / (Int.gcd (sk v) (v.z.den:Int):Int)))] w (aC w (.string (zs (nE v)))):=eA _ _ w g ha hb hk hm
theorem Im (v:V3) {m:Nat} (w:World) (g:Gd w) (hb:IB m v.x.num) (hm:m<=9000):Calls Tryz.prog 182 #[.string ⟨#[48]⟩,.string (zs v.x.num)] w (aC w (.string (zs (Cg v)))):=Gu _ w g hb hm
theorem Il (v:V3) {k m:Nat} (w:World) (g:Gd w) (ha:IB k (Cg v)) (hb:IB m v.y.num) (hk:k<=9000) (hm:m<=9000):Calls Tryz.prog 182 #[.string (zs (Cg v)),.string (zs v.y.num)] w (aC w (.string (zs (Cf v)))):=jr _ _ w g ha hb hk hm
theorem Ik (v:V3) {k m:Nat} (w:World) (g:Gd w) (ha:IB k (Cf v)) (hb:IB m v.z.num) (hk:k<=9000) (hm:m<=9000):Calls Tryz.prog 182 #[.string (zs (Cf v)),.string (zs v.z.num)] w (aC w (.string (zs (fX v:Int)))):=jr _ _ w g ha hb hk hm
theorem IB.sq {k:Nat} {v:V3} (h:VB k v):IB (1+k) (sq v):=IB.one.mul ((QB.jK h.x).div _)
theorem IB.sk {k:Nat} {v:V3} (h:VB k v):IB (1+k+k) (sk v):=(IB.sq h).mul ((QB.jK h.y).div _)
theorem IB.nE {k:Nat} {v:V3} (h:VB k v):IB (1+k+k+k) (nE v):=(IB.sk h).mul ((QB.jK h.z).div _)
theorem IB.Cg {k:Nat} {v:V3} (h:VB k v):IB (max 1 k) (Cg v):=IB.zero.gcd (QB.x9 h.x)
theorem IB.Cf {k:Nat} {v:V3} (h:VB k v):IB (max (max 1 k) k) (Cf v):=(IB.Cg h).gcd (QB.x9 h.y)
theorem IB.fX {k:Nat} {v:V3} (h:VB k v):IB (max (max (max 1 k) k) k) (fX v:Int):=(IB.Cf h).gcd (QB.x9 h.z)
theorem Bw (a:V3) {k:Nat} (w:World) (g:Gd w) (ha:VB k a) (hk:k<=900):Calls Tryz.prog 98 #[vv a,.string (zs (nE a))] w (aC w (vv (aB a))) :=
 xr a (nE a) w g ha (IB.nE ha) ae ae ae
theorem Bx (a:V3) {k m:Nat} (w:World) (g:Gd w) (ha:VB k (aB a)) (hq:QB m (mkRat 1 (fX (aB a)))) (hk:k<=3000) (hm:m<=3000):Calls Tryz.prog 98 #[vv (aB a),.string (qs (mkRat 1 (fX (aB a))))] w (aC w (vv (az a))) :=
 kP (aB a) (mkRat 1 (fX (aB a))) w g ha hq hk hm
set_option maxHeartbeats 16000000 in
theorem mQ (a:V3) (w:World) (g:Gd w) (ha:VB 24 a) (hz:¬ (a.x=0/\a.y=0/\a.z=0)) (hw:VB 97 (aB a)) (hg0:fX (aB a)≠0) (hr:VB 200 (az a)):Calls Tryz.prog 158 #[.agg #[.string (qs a.x),.string (qs a.y),.string (qs a.z)]] w (aC w (.tuple #[.agg #[.string (qs ((az a).x)),.string (qs ((az a).y)),.string (qs ((az a).z))],.int .i64 0])):=by
 have HA:=ai ha;have HZ:=ai hz;have HW:=ai hw;have HG0:=ai hg0;have HR:=ai hr;have HG:=ai g;clear ha hz hw hg0 hr g;have HQG:Hid (QB 97 (mkRat 1 (fX (aB a)))):=ai (QB.Iq HG0.o ((IB.fX HW.o).mono af) af);have ix0:∀ W,(Instr.index 161 (.agg #[.string (qs a.x),.string (qs a.y),.string (qs a.z)]) (.int .i64 0)).run Tryz.prog W = .ok (.string (qs a.x)) W:=fun W=>ag
 have ix1:∀ W,(Instr.index 161 (.agg #[.string (qs a.x),.string (qs a.y),.string (qs a.z)]) (.int .i64 1)).run Tryz.prog W = .ok (.string (qs a.y)) W:=fun W=>ag
 have ix2:∀ W,(Instr.index 161 (.agg #[.string (qs a.x),.string (qs a.y),.string (qs a.z)]) (.int .i64 2)).run Tryz.prog W = .ok (.string (qs a.z)) W:=fun W=>ag
 have ix3:∀ W,(Instr.index 161 (.agg #[.string (qs ((aB a).x)),.string (qs ((aB a).y)),.string (qs ((aB a).z))]) (.int .i64 0)).run Tryz.prog W = .ok (.string (qs ((aB a).x))) W:=fun W=>ag
 have ix4:∀ W,(Instr.index 161 (.agg #[.string (qs ((aB a).x)),.string (qs ((aB a).y)),.string (qs ((aB a).z))]) (.int .i64 1)).run Tryz.prog W = .ok (.string (qs ((aB a).y))) W:=fun W=>ag
 have ix5:∀ W,(Instr.index 161 (.agg #[.string (qs ((aB a).x)),.string (qs ((aB a).y)),.string (qs ((aB a).z))]) (.int .i64 2)).run Tryz.prog W = .ok (.string (qs ((aB a).z))) W:=fun W=>ag
 go_enter Tryz.func158,Tryz.ntmps158;go_wp2_with fail;refine cto (lA a (w.heap.size+1+1) _ (HG.o.ext ((((Ext.refl w).alloc _).alloc _).alloc _)) (HA.o.mono ae) (ak.nw (#[.string (qs a.x),.string (qs a.y),.string (qs a.z)]) 67)) fun w1 e1=>?_
 have HX1:Hid (Ext w w1):=ai (((((Ext.refl w).alloc _).alloc _).alloc _).trans e1);have HB0_1:Hid (ak w1 (w.heap.size) #[.string (qs a.x),.string (qs a.y),.string (qs a.z)] 67):=ai (ak.ext (((ak.nw (#[.string (qs a.x),.string (qs a.y),.string (qs a.z)]) 67).alloc _).alloc _) e1);have HB1_1:Hid (ak w1 (w.heap.size+1) #[.string ⟨#[]⟩,.string ⟨#[]⟩,.string ⟨#[]⟩] 67):=ai (ak.ext ((ak.nw (#[.string ⟨#[]⟩,.string ⟨#[]⟩,.string ⟨#[]⟩]) 67).alloc _) e1);have HB2_1:Hid (ak w1 (w.heap.size+1+1) #[.string (qs a.x),.string (qs a.y),.string (qs a.z)] 67):=ai (ak.ext (ak.nw (#[.string (qs a.x),.string (qs a.y),.string (qs a.z)]) 67) e1);have HGEB0:Hid (w.heap.size<=w.heap.size):=ai ah;have HGEB1:Hid (w.heap.size<=w.heap.size+1):=ai ah;have HGEB2:Hid (w.heap.size<=w.heap.size+1+1):=ai ah;clear e1;have c0_0:=HB0_1.o.cell 0 rfl;have c0_1:=HB0_1.o.cell 1 rfl;have c0_2:=HB0_1.o.cell 2 rfl;go_wp2_with fail;refine cto (Bu a _ HZ.o) fun w2 e2=>?_
 have HX2:=ai (HX1.o.trans e2);have HB0_2:=ai (ak.ext HB0_1.o e2);have HB1_2:=ai (ak.ext HB1_1.o e2);clear e2 c0_0 c0_1 c0_2;have c0_0:=HB0_2.o.cell 0 rfl;have c0_1:=HB0_2.o.cell 1 rfl;have c0_2:=HB0_2.o.cell 2 rfl;go_wp2_with fail;refine cto (EX ⟨qs a.x,qs a.y,qs a.z⟩ _) fun w3 e3=>?_
 have HX3:=ai (HX2.o.trans e3);have HB0_3:=ai (ak.ext HB0_2.o e3);have HB1_3:=ai (ak.ext HB1_2.o e3);clear e3 c0_0 c0_1 c0_2;go_wp2_with fail;refine wp_loop_rounds 4 ?_;rw [rounds_succ];go_wp2_with fail;refine cto (bN a.x _ HA.o.x ae) fun w4 e4=>?_
 have HX4:=ai (HX3.o.trans e4);have HB0_4:=ai (ak.ext HB0_3.o e4);have HB1_4:=ai (ak.ext HB1_3.o e4);clear e4;go_wp2_with fail;refine cto (Io a _ (HG.o.ext HX4.o) (QB.jK HA.o.x) ae) fun w5 e5=>?_
 have HX5:=ai (HX4.o.trans e5);have HB0_5:=ai (ak.ext HB0_4.o e5);have HB1_5:=ai (ak.ext HB1_4.o e5);clear e5;go_wp2_with fail;refine cto (iJ (a.x.den:Int) (zU a) _ (HG.o.ext HX5.o) (QB.jK HA.o.x) (IB.zU HA.o) ae ae (EI a)) fun w6 e6=>?_
 have HX6:=ai (HX5.o.trans e6);have HB0_6:=ai (ak.ext HB0_5.o e6);have HB1_6:=ai (ak.ext HB1_5.o e6);clear e6;go_wp2_with fail;refine cto (Ij a _ (HG.o.ext HX6.o) (IB.div (QB.jK HA.o.x) (zU a)) ae) fun w7 e7=>?_
 have HX7:=ai (HX6.o.trans e7);have HB0_7:=ai (ak.ext HB0_6.o e7);have HB1_7:=ai (ak.ext HB1_6.o e7);clear e7;go_wp2_with fail;rw [rounds_succ];go_wp2_with fail;refine cto (bN a.y _ HA.o.y ae) fun w8 e8=>?_
 have HX8:=ai (HX7.o.trans e8);have HB0_8:=ai (ak.ext HB0_7.o e8);have HB1_8:=ai (ak.ext HB1_7.o e8);clear e8;go_wp2_with fail;refine cto (jr (sq a) (a.y.den:Int) _ (HG.o.ext HX8.o) (IB.sq HA.o) (QB.jK HA.o.y) ae ae) fun w9 e9=>?_
 have HX9:=ai (HX8.o.trans e9);have HB0_9:=ai (ak.ext HB0_8.o e9);have HB1_9:=ai (ak.ext HB1_8.o e9);clear e9;go_wp2_with fail;refine cto (iJ (a.y.den:Int) (Int.gcd (sq a) (a.y.den:Int):Int) _ (HG.o.ext HX9.o) (QB.jK HA.o.y) (IB.gcd (IB.sq HA.o) (QB.jK HA.o.y)) ae ae (uN (vh _))) fun w10 e10=>?_
 have HX10:=ai (HX9.o.trans e10);have HB0_10:=ai (ak.ext HB0_9.o e10);have HB1_10:=ai (ak.ext HB1_9.o e10);clear e10;go_wp2_with fail;refine cto (Ii a _ (HG.o.ext HX10.o) (IB.sq HA.o) (IB.div (QB.jK HA.o.y) (Int.gcd (sq a) (a.y.den:Int):Int)) ae ae) fun w11 e11=>?_
 have HX11:=ai (HX10.o.trans e11);have HB0_11:=ai (ak.ext HB0_10.o e11);have HB1_11:=ai (ak.ext HB1_10.o e11);clear e11;go_wp2_with fail;rw [rounds_succ];go_wp2_with fail;refine cto (bN a.z _ HA.o.z ae) fun w12 e12=>?_
 have HX12:=ai (HX11.o.trans e12);have HB0_12:=ai (ak.ext HB0_11.o e12);have HB1_12:=ai (ak.ext HB1_11.o e12);clear e12;go_wp2_with fail;refine cto (jr (sk a) (a.z.den:Int) _ (HG.o.ext HX12.o) (IB.sk HA.o) (QB.jK HA.o.z) ae ae) fun w13 e13=>?_
 have HX13:=ai (HX12.o.trans e13);have HB0_13:=ai (ak.ext HB0_12.o e13);have HB1_13:=ai (ak.ext HB1_12.o e13);clear e13;go_wp2_with fail;refine cto (iJ (a.z.den:Int) (Int.gcd (sk a) (a.z.den:Int):Int) _ (HG.o.ext HX13.o) (QB.jK HA.o.z) (IB.gcd (IB.sk HA.o) (QB.jK HA.o.z)) ae ae (uN (vh _))) fun w14 e14=>?_
 have HX14:=ai (HX13.o.trans e14);have HB0_14:=ai (ak.ext HB0_13.o e14);have HB1_14:=ai (ak.ext HB1_13.o e14);clear e14;go_wp2_with fail;refine cto (Ih a _ (HG.o.ext HX14.o) (IB.sk HA.o) (IB.div (QB.jK HA.o.z) (Int.gcd (sk a) (a.z.den:Int):Int)) ae ae) fun w15 e15=>?_
 have HX15:=ai (HX14.o.trans e15);have HB0_15:=ai (ak.ext HB0_14.o e15);have HB1_15:=ai (ak.ext HB1_14.o e15);clear e15;go_wp2_with fail;rw [rounds_succ];have c0_0:=HB0_15.o.cell 0 rfl;have c0_1:=HB0_15.o.cell 1 rfl;have c0_2:=HB0_15.o.cell 2 rfl;go_wp2_with fail;refine cto (Bw a _ (HG.o.ext HX15.o) HA.o ae) fun w16 e16=>?_
 have HX16:=ai (HX15.o.trans e16);have HB1_16:=ai (ak.ext HB1_15.o e16);clear e16 c0_0 c0_1 c0_2;go_wp2_with fail;refine wp_loop_rounds 4 ?_;rw [rounds_succ];go_wp2_with fail;refine cto (bN ((aB a).x) _ HW.o.x ae) fun w17 e17=>?_
 have HX17:Hid (Ext w w17):=ai ((HX16.o.alloc _).trans e17);have HB1_17:Hid (ak w17 (w.heap.size+1) #[.string ⟨#[]⟩,.string ⟨#[]⟩,.string ⟨#[]⟩] 67):=ai (ak.ext (HB1_16.o.alloc _) e17);have HB3_17:Hid (ak w17 (w16.heap.size) #[.string (qs ((aB a).x)),.string (qs ((aB a).y)),.string (qs ((aB a).z))] 161):=ai (ak.ext (ak.nw (#[.string (qs ((aB a).x)),.string (qs ((aB a).y)),.string (qs ((aB a).z))]) 161) e17);have HGEB3:Hid (w.heap.size<=w16.heap.size):=ai (by have:=HX16.o.size;first|omega|(simp only [];omega)|(simp;omega));clear e17;go_wp2_with fail;refine cto (Im (aB a) _ (HG.o.ext HX17.o) (QB.x9 HW.o.x) ae) fun w18 e18=>?_
 have HX18:=ai (HX17.o.trans e18);have HB1_18:=ai (ak.ext HB1_17.o e18);have HB3_18:Hid (ak w18 (w16.heap.size) #[.string (qs ((aB a).x)),.string (qs ((aB a).y)),.string (qs ((aB a).z))] 161):=ai (ak.ext HB3_17.o e18);clear e18;go_wp2_with fail;rw [rounds_succ];go_wp2_with fail;refine cto (bN ((aB a).y) _ HW.o.y ae) fun w19 e19=>?_
 have HX19:=ai (HX18.o.trans e19);have HB1_19:=ai (ak.ext HB1_18.o e19);have HB3_19:Hid (ak w19 (w16.heap.size) #[.string (qs ((aB a).x)),.string (qs ((aB a).y)),.string (qs ((aB a).z))] 161):=ai (ak.ext HB3_18.o e19);clear e19;go_wp2_with fail;refine cto (Il (aB a) _ (HG.o.ext HX19.o) (IB.Cg HW.o) (QB.x9 HW.o.y) ae ae) fun w20 e20=>?_
 have HX20:=ai (HX19.o.trans e20);have HB1_20:=ai (ak.ext HB1_19.o e20);have HB3_20:Hid (ak w20 (w16.heap.size) #[.string (qs ((aB a).x)),.string (qs ((aB a).y)),.string (qs ((aB a).z))] 161):=ai (ak.ext HB3_19.o e20);clear e20;go_wp2_with fail;rw [rounds_succ];go_wp2_with fail;refine cto (bN ((aB a).z) _ HW.o.z ae) fun w21 e21=>?_
 have HX21:=ai (HX20.o.trans e21);have HB1_21:=ai (ak.ext HB1_20.o e21);have HB3_21:Hid (ak w21 (w16.heap.size) #[.string (qs ((aB a).x)),.string (qs ((aB a).y)),.string (qs ((aB a).z))] 161):=ai (ak.ext HB3_20.o e21);clear e21;go_wp2_with fail;refine cto (Ik (aB a) _ (HG.o.ext HX21.o) (IB.Cf HW.o) (QB.x9 HW.o.z) ae ae) fun w22 e22=>?_
 have HX22:=ai (HX21.o.trans e22);have HB1_22:=ai (ak.ext HB1_21.o e22);have HB3_22:Hid (ak w22 (w16.heap.size) #[.string (qs ((aB a).x)),.string (qs ((aB a).y)),.string (qs ((aB a).z))] 161):=ai (ak.ext HB3_21.o e22);clear e22;go_wp2_with fail;rw [rounds_succ];go_wp2_with fail;refine cto (Gi (fX (aB a)) HG0.o _ (HG.o.ext HX22.o) (IB.fX HW.o) ae) fun w23 e23=>?_
 have HX23:=ai (HX22.o.trans e23);have HB1_23:=ai (ak.ext HB1_22.o e23);have HB3_23:Hid (ak w23 (w16.heap.size) #[.string (qs ((aB a).x)),.string (qs ((aB a).y)),.string (qs ((aB a).z))] 161):=ai (ak.ext HB3_22.o e23);clear e23;have c3_0:=HB3_23.o.cell 0 rfl;have c3_1:=HB3_23.o.cell 1 rfl;have c3_2:=HB3_23.o.cell 2 rfl;go_wp2_with fail;refine cto (rL ⟨qs ((aB a).x),qs ((aB a).y),qs ((aB a).z)⟩ _) fun w24 e24=>?_
 have HX24:=ai (HX23.o.trans e24);have HB1_24:=ai (ak.ext HB1_23.o e24);clear e24 c3_0 c3_1 c3_2;go_wp2_with fail;refine cto (Bx a _ (HG.o.ext HX24.o) HW.o HQG.o ae ae) fun w25 e25=>?_
 have HX25:=ai (HX24.o.trans e25);have HB1_25:=ai (ak.ext HB1_24.o e25);clear e25;go_wp2_with fail;refine cto (r4 (az a).x (az a).y (az a).z _ HR.o.x HR.o.y HR.o.z) fun w26 e26=>?_
 have HX26:=ai (HX25.o.trans e26);have HB1_26:=ai (ak.ext HB1_25.o e26);clear e26;have c1_0:=HB1_26.o.cell 0 rfl;have f1_0:=HB1_26.o.free 0;have c1_1:=HB1_26.o.cell 1 rfl;have f1_1:=HB1_26.o.free 1;have c1_2:=HB1_26.o.cell 2 rfl;have f1_2:=HB1_26.o.free 2;go_wp2_with fail;refine au (fun W=>Ext w W/\ak W (w.heap.size+1) #[.string (qs ((az a).x)),.string (qs ((az a).y)),.string (qs ((az a).z))] 67) ⟨(((HX26.o.setCell (by have:=HGEB1.o;first|omega|(simp only [];omega)|(simp;omega)) _).setCell (by have:=HGEB1.o;first|omega|(simp only [];omega)|(simp;omega)) _).setCell (by have:=HGEB1.o;first|omega|(simp only [];omega)|(simp;omega)) _),(((HB1_26.o.set 0 (.string (qs ((az a).x)))).set 1 (.string (qs ((az a).y)))).set 2 (.string (qs ((az a).z))))⟩ ?_;rintro w27 ⟨e27,bB1_27⟩;have HX27:=ai e27;have HB1_27:=ai bB1_27;clear e27 bB1_27 c1_0 f1_0 c1_1 f1_1 c1_2 f1_2;have gB1_0:=HB1_27.o.cell 0 rfl;have gB1_1:=HB1_27.o.cell 1 rfl;have gB1_2:=HB1_27.o.cell 2 rfl;refine bodyPost_ret (v:=.tuple #[.agg #[.string (qs ((az a).x)),.string (qs ((az a).y)),.string (qs ((az a).z))],.int .i64 0]) (by simp [results,Tryz.results158,go_sem,gB1_0,gB1_1,gB1_2]) rfl ⟨rfl,HX27.o⟩
def sm (n:Int) (d:Nat):Rat:=mkRat n (1+d)
theorem rU {n:Int} {d:Nat} (h0:-32768<=n) (h1:n<=32767) (h2:d<=255):QB 5 (sm n d):=QB.mk' ae ae ae
structure GQ where
 n0:Int
 d0:Nat
 n1:Int
 d1:Nat
 n2:Int
 d2:Nat
structure xq (p:GQ):Prop where
 a0:-32768<=p.n0
 b0:p.n0<=32767
 c0:p.d0<=255
 a1:-32768<=p.n1
 b1:p.n1<=32767
 c1:p.d1<=255
 a2:-32768<=p.n2
 b2:p.n2<=32767
 c2:p.d2<=255
def Hg (p:GQ):V3:=⟨sm p.n0 p.d0,sm p.n1 p.d1,sm p.n2 p.d2⟩
def Ig (p:GQ):P2:=⟨sm p.n0 p.d0,sm p.n1 p.d1⟩
theorem xq.v {p:GQ} (h:xq p):VB 5 (Hg p):=⟨rU h.a0 h.b0 h.c0,rU h.a1 h.b1 h.c1,rU h.a2 h.b2 h.c2⟩
theorem xq.p {p:GQ} (h:xq p):PB 5 (Ig p):=⟨rU h.a0 h.b0 h.c0,rU h.a1 h.b1 h.c1⟩
theorem gK {q:Rat} (h:0<q):q.num.sign=1:=by
 have h1:=(Rat.lt_iff 0 q).1 h;simp at h1;exact Int.sign_eq_one_of_pos h1
structure QD (n d:Nat) (q:Rat):Prop where
 num:q.num.natAbs<10 ^ n
 den:q.den<10 ^ d
theorem QD.qb {n d k:Nat} {q:Rat} (h:QD n d q) (h1:n<=k) (h2:d<=k):QB k q :=
 ⟨Nat.lt_of_lt_of_le h.num (Nat.pow_le_pow_right af h1),Nat.lt_of_lt_of_le h.den (Nat.pow_le_pow_right af h2)⟩
theorem QD.mk' {n d:Nat} {x:Int} {y:Nat} (h0:y≠0) (h1:x.natAbs<10 ^ n) (h2:y<10 ^ d):QD n d (mkRat x y) :=
 ⟨Nat.lt_of_le_of_lt (kk _ _) h1,Nat.lt_of_le_of_lt (kl _ _ h0) h2⟩
theorem QD.neg {n d:Nat} {a:Rat} (ha:QD n d a):QD n d (-a):=⟨by rw [Rat.neg_num,Int.natAbs_neg];exact ha.num,ha.den⟩
theorem QD.add {n d m e:Nat} {a b:Rat} (ha:QD n d a) (hb:QD m e b):QD (max (n+e) (d+m)+1) (d+e) (a+b):=by
 rw [Rat.add_def'];refine QD.mk' (Nat.mul_ne_zero a.den_nz b.den_nz) ?_ (cj ha.den hb.den);refine Nat.lt_of_le_of_lt (Int.natAbs_add_le _ _) ?_;rw [Int.natAbs_mul,Int.natAbs_mul,Int.natAbs_natCast,Int.natAbs_natCast,Nat.mul_comm b.num.natAbs];exact nN (cj ha.num hb.den) (cj ha.den hb.num)
theorem QD.sub {n d m e:Nat} {a b:Rat} (ha:QD n d a) (hb:QD m e b):QD (max (n+e) (d+m)+1) (d+e) (a-b):=by
 rw [Rat.sub_eq_add_neg];exact ha.add hb.neg
theorem QD.mul {n d m e:Nat} {a b:Rat} (ha:QD n d a) (hb:QD m e b):QD (n+m) (d+e) (a*b):=by
 rw [Rat.mul_def'];exact QD.mk' (Nat.mul_ne_zero a.den_nz b.den_nz) (by rw [Int.natAbs_mul];exact cj ha.num hb.num) (cj ha.den hb.den)
theorem QD.inv {n d:Nat} {a:Rat} (ha:QD n d a) (hn:1<=n):QD d n a⁻¹:=by
 constructor
 ·rw [Rat.num_inv,Int.natAbs_mul,Int.natAbs_natCast];have:a.num.sign.natAbs<=1:=by rw [Int.natAbs_sign];split <;> omega
  exact Nat.lt_of_le_of_lt (Nat.mul_le_mul_right _ this) (by rw [Nat.one_mul];exact ha.den)
 ·rw [Rat.den_inv];split
  ·exact Nat.one_lt_pow ae af
  ·exact ha.num
theorem QD.div {n d m e:Nat} {a b:Rat} (ha:QD n d a) (hb:QD m e b) (hm:1<=m):QD (n+e) (d+m) (a / b):=by
 rw [Rat.div_def];exact ha.mul (hb.inv hm)
structure VD (n d:Nat) (v:V3):Prop where
 x:QD n d v.x
 y:QD n d v.y
 z:QD n d v.z
theorem gL {q:Rat} (h:q<0):q.num.sign=-1:=by
 have h1:=(Rat.lt_iff q 0).1 h;simp at h1;exact Int.sign_eq_neg_one_of_neg h1
theorem xP (x y:Rat):dr x y=(x-y).num.sign:=by
 unfold dr;split
 ·rename_i h;rw [gL (by grind)]
 ·split
  ·rename_i h;subst h;rw [show x-x=0 by grind];rfl
  ·rename_i h1 h2;rw [gK (by grind)]
theorem VD.vb {n d k:Nat} {v:V3} (h:VD n d v) (h1:n<=k) (h2:d<=k):VB k v:=⟨h.x.qb h1 h2,h.y.qb h1 h2,h.z.qb h1 h2⟩
def fr (n s:Int):Rat:=mkRat n s.toNat
def aR (a b:V3):Rat:=a.x*b.x+a.y*b.y+a.z*b.z
-- the same for quaternions of ints
theorem cG.Cx {w:World} {ad:Option Addr} {n c N:Nat} (h:cG w (.slice ad n c) N) (h0:0<N) (h1:N<1000000000):n=1:=by
 obtain ⟨l,⟨ad',cap,b,off,hv,_⟩,hc,hm⟩:=h;simp only [Value.slice.injEq] at hv;rw [hv.2.1];have hne:l≠[]:=by intro e;subst e;simp [mv] at hm;omega
 have hl:0<l.length:=List.length_pos_iff.2 hne;have hg:=hc.ge hne;rcases Nat.lt_or_ge 1 l.length with e|e
 ·have h2:1000000000 ^ 1<=1000000000 ^ (l.length-1):=Nat.pow_le_pow_right af ae;omega
 ·omega
theorem FJ (e:TypeId) (t:Nat):2<=(Question.appendCap 2 1 e).cut t/\(Question.appendCap 2 1 e).cut t<=9223372036854775807:=by
 have h:(Question.appendCap 2 1 e).cut t=2+t % (2 ^ 63-2):=rfl;have:=Nat.mod_lt t (show 0<2 ^ 63-2 by decide);rw [h];omega
theorem kB {n:Nat} (h:n<=1000000000):Fd n:=((⟨af⟩:IB 10 (1000000000:Int)).fit af).mono h
theorem xL {r x:Nat} (hr:0<r) (hx:r<=x):r<=(x+r*r / x) / 2/\(r<x->(x+r*r / x) / 2<x)/\(r=x->(x+r*r / x) / 2=x):=by
 have hx0:0<x:=ae;obtain ⟨d,rfl⟩:∃ d,x=r+d:=⟨x-r,ae⟩
 have k1:d<=r->r-d<=r*r / (r+d):=by
  intro hd;rw [Nat.le_div_iff_mul_le hx0];obtain ⟨e,rfl⟩:∃ e,r=d+e:=⟨r-d,ae⟩
  have:(d+e-d)*(d+e+d)+d*d=(d+e)*(d+e):=by rw [Nat.add_sub_cancel_left];grind
  omega
 have k2:r<r+d->r*r / (r+d)<r:=by
  intro h;rw [Nat.div_lt_iff_lt_mul hx0];exact Nat.mul_lt_mul_of_pos_left h hr
 have k3:d=0->r*r / (r+d)=r:=by intro h;subst h;rw [Nat.add_zero,Nat.mul_div_cancel _ hr]
 generalize r*r / (r+d)=q at *;refine ⟨?_,?_,?_⟩
 ·rcases Nat.le_total d r with h|h
  ·have:=k1 h;omega
  ·omega
 ·intro h;have:=k2 h;omega
 ·intro h;have:=k3 ae;omega
theorem wJ (r:Nat) (w:World) (g:Gd w) (h0:0<r) (h1:r*r<1000000000):Calls Tryz.prog 276 #[.string (zs ((r*r:Nat):Int))] w (aC w (.tuple #[.string (zs (r:Int)),.int .i64 0])):=by
 have hp:0<r*r:=Nat.mul_pos h0 h0;obtain ⟨N,hN⟩:∃ N,r*r=N:=⟨_,rfl⟩
 rw [hN] at h1 hp ⊢;have hs:(N:Int).sign=1:=Int.sign_eq_one_of_pos ae;have la:(zl (N:Int)).length<=100000:=Nat.le_trans (eB (k:=9) af (by simpa using h1)) af;have HS:=ai hs;have HLA:=ai la;have HN:=ai hN;have HP:=ai hp;have H1:=ai h1;have H0:=ai h0;have HG:=ai g;clear hs la hN hp h1 h0 g;have hfp:=wS;have hmk:∀ W,(Instr.makeSlice 214 (.int .i64 1) (.int .i64 1)).run Tryz.prog W = .ok (.slice (some ⟨W.heap.size,0,none⟩) 1 1) (W.alloc (.cells #[.int .u64 0] 245)):=fun W=>ag
 go_enter Tryz.func276,Tryz.ntmps276;go_wp2_with (first
  | (go_at_call 164;refine (HS.o▸dI (N:Int) _).mono ?_;rintro e _ ⟨rfl,rfl⟩)
  | (go_at_call 169;refine (bT (N:Int) _ HLA.o).mono ?_;rintro e w3 ⟨va,rfl,e3,ad,na,ca,rfl,ma⟩;obtain rfl:na=1:=ma.Cx (by simpa using HP.o) (by simpa using H1.o)))
 generalize hc0:(Question.appendCap 2 1 245).cut (w3.tape w3.drawn (Question.appendCap 2 1 245))=c0;have hcb:2<=c0/\c0<=9223372036854775807:=hc0▸FJ _ _;clear hc0;refine au (fun W=>Ext w W/\cG W (.slice ad 1 ca) N/\cG W (.slice (Option.some ⟨w3.heap.size+1+1,0,none⟩) 2 c0) 1000000000) ⟨(((e3.alloc _).alloc _).alloc _).drew,(by simpa using ma.ext (((((Ext.refl _).alloc _).alloc _).alloc _).drew)),?_⟩ ?_
 ·have hB:ak _ (w3.heap.size+1+1) _ 245:=(ak.uD (w:=(w3.alloc (.cells #[.int .u64 0] 245)).alloc (.cells #[.int .u64 1] 245)) (cs:=#[.int .u64 0,.int .u64 1] ++ Builtin.zeroCells #[.int .u64 0] (c0-2)) (t:=245) (by simp)).drew;have g1:((#[.int .u64 0,.int .u64 1]:Array Value) ++ Builtin.zeroCells #[.int .u64 0] (c0-2))[0]?=Option.some (.int .u64 0):=by rw [Array.getElem?_append_left af];rfl
  have g2:((#[.int .u64 0,.int .u64 1]:Array Value) ++ Builtin.zeroCells #[.int .u64 0] (c0-2))[1]?=Option.some (.int .u64 1):=by rw [Array.getElem?_append_left af];rfl
  have c1:=hB.cell 0 g1;have c2:=hB.cell 1 g2;refine ⟨[0,1],Holds.some rfl ae ae hB.lt (fun i hi=>?_),⟨fun x hx=>?_,af⟩,rfl⟩
  ·match i,hi with
   | 0,_=>exact c1
   | 1,_=>exact c2
  ·simp at hx;omega
 rintro w4 ⟨e4,ma4,mx4⟩;have HR4:Hid (r<=1000000000):=ai (by have:=H1.o;rw [← HN.o] at this;have h:=H0.o;have:=Nat.le_mul_of_pos_right r h;omega);clear ma e3;go_loopg [5] 1000000000 (fun gk x W=>∃ (X:Nat) (xa:Option Addr) (xn xc:Nat),x = .slice xa xn xc/\Hid (cG W (.slice xa xn xc) X/\X<=1000000000/\r<=X/\Ext w W/\cG W (.slice ad 1 ca) N)/\X<=gk)
 case atStart=>exact ⟨1000000000,_,_,_,rfl,ai ⟨mx4,Nat.le_refl _,HR4.o,e4,ma4⟩,Nat.le_refl _⟩
 case round =>
  rename World=>wL
  obtain ⟨X,xa,xn,xc,rfl,HH,hgk⟩:=hrel;have HX0:Hid (0<X):=ai (Nat.lt_of_lt_of_le H0.o HH.o.2.2.1);obtain ⟨q,hq⟩:∃ q,N / X=q:=⟨_,rfl⟩
  obtain ⟨Y,hY⟩:∃ Y,(X+q) / 2=Y:=⟨_,rfl⟩
  have hst:=xL H0.o HH.o.2.2.1;rw [HN.o,hq,hY] at hst;have HST:=ai hst;have hqs:q<=1000000000:=by rw [← hq];exact Nat.le_trans (Nat.div_le_self _ _) (Nat.le_of_lt H1.o)
  have HQS:=ai hqs;have HQ:=ai hq;have HY:=ai hY;have HGK:=ai hgk;clear hst hqs hq hY hgk;go_wp2_with fail;refine (fK N X _ _ _ HH.o.2.2.2.2 HH.o.1 HX0.o (kB (Nat.le_of_lt H1.o))).mono ?_;rintro e w5 ⟨vq,vr,rfl,e5,mq,mr⟩;obtain ⟨qa,ql,qc,rfl⟩:=mq.slice;obtain ⟨ra,rl,rc,rfl⟩:=mr.slice;rw [HQ.o] at mq;go_wp2_with fail;refine (qK X q _ _ _ (HH.o.1.ext e5) mq (kB HH.o.2.1).fit (kB HQS.o).fit).mono ?_;rintro e w6 ⟨vs,rfl,e6,ms⟩;obtain ⟨sa,sl,sc,rfl⟩:=ms.slice;go_wp2_with fail;refine (fK (X+q) 2 _ _ _ (ms.ext ((Ext.refl _).alloc _)) ⟨[2],Holds.one _ .u64 2 _,⟨fun x hx=>by simp at hx;omega,af⟩,rfl⟩ af ((⟨af⟩:IB 10 (2000000000:Int)).fit af |>.mono (by have:=HH.o.2.1;have:=HQS.o;simp;omega))).mono ?_;rintro e w7 ⟨vy,vz,rfl,e7,my,mz⟩;obtain ⟨ya,yl,yc,rfl⟩:=my.slice;obtain ⟨za,zl9,zc,rfl⟩:=mz.slice;rw [HY.o] at my;have HE:Hid (Ext w w7):=ai (((HH.o.2.2.2.1.trans e5).trans e6).trans (((Ext.refl _).alloc _).trans e7));have HE2:Hid (Ext wL w7):=ai ((e5.trans e6).trans (((Ext.refl _).alloc _).trans e7));have HMY:=ai my;clear e5 e6 e7 mq mr ms my mz;by_cases hlt:r<X
  ·have hyl:=HST.o.2.1 hlt;have hnc:eG Y X=-1:=by unfold eG;rw [if_pos hyl]
   have HNC:=ai hnc;have HYL:=ai hyl;clear hnc hyl;go_wp2_with fail;refine (HNC.o▸c7 Y X _ _ _ HMY.o (HH.o.1.ext HE2.o)).mono ?_;rintro e w8 ⟨rfl,e8⟩;go_wp2_with fail;go_roundg Y
   case rel=>exact ⟨Y,ya,yl,yc,rfl,ai ⟨HMY.o.ext e8,Nat.le_trans (Nat.le_of_lt HYL.o) HH.o.2.1,HST.o.1,HE.o.trans e8,(HH.o.2.2.2.2.ext HE2.o).ext e8⟩,Nat.le_refl _⟩
   case measure=>have:=HYL.o;have:=HGK.o;omega
  ·have hX:X=r:=Nat.le_antisymm (Nat.le_of_not_lt hlt) HH.o.2.2.1;have hnc:eG Y X=0:=by have:=HST.o.2.2 hX.symm;unfold eG;rw [if_neg ae,if_neg ae]
   have HNC:=ai hnc;have HXR:=ai hX;clear hnc hX hlt;go_wp2_with fail;refine (HNC.o▸c7 Y X _ _ _ HMY.o (HH.o.1.ext HE2.o)).mono ?_;rintro e w8 ⟨rfl,e8⟩;go_wp2_with fail;refine cto (cx false X _ _ _ _ ((HH.o.1.ext HE2.o).ext e8) (kB HH.o.2.1).fit.lR (HG.o.ext (HE.o.trans e8))) fun w9 e9=>?_
   go_wp2;go_ret2;exact ⟨by first|rfl|(rw [show ep false X=(r:Int) by rw [HXR.o];rfl];rfl)|(have:=HXR.o;subst this;rfl),(HE.o.trans e8).trans e9⟩
end Go.Proofs.YtmahadmefplbnaaGreatDoor
