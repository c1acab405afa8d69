/- Part 18. -/
import Derived.Test.YtmahadmefplbnaaGreatDoorQTDB
import Derived.Test.YtmahadmefplbnaaGreatDoorQTD10
import Derived.Test.YtmahadmefplbnaaGreatDoorQTD16
import Derived.Test.YtmahadmefplbnaaGreatDoorQTD17
set_option maxRecDepth 100000
set_option maxHeartbeats 2000000
open Go.Proofs.Tryz
namespace Go.Proofs.YtmahadmefplbnaaGreatDoor
open Go Go.RowKit Go.Shelf
attribute [local go_sem] Oper.semAt_some
def lQ(L:List Nat)(k:Nat):List UInt8:=if k=0 then[] else Lib.decDigits (mv 1000000000 (L.drop (L.length-k)))
def nF(x:Nat):List UInt8:=List.replicate (9-(Lib.decDigits x).length) 48 ++ Lib.decDigits x
theorem pT{x:Nat}(h:x<1000000000):(Lib.decDigits x).length<=9:=bB (k:=9) af ae
theorem qP{x:Nat}(h:x<1000000000):(nF x).length=9:=by
 unfold nF;have:=pT h;simp;omega
theorem yf(x:Nat):val (nF x)=x:=by unfold nF;rw[nS,cG]
theorem vB(x:Nat):∀ b ∈ nF x,cC b=true:=by
 intro b hb;rcases List.mem_append.1 hb with hb|hb
 ·rw[(List.mem_replicate.1 hb).2];decide
 ·exact a7 _ _ hb
theorem zi{m x:Nat}(hm:m≠0)(hx:x<1000000000):Lib.decDigits (x+1000000000*m)=Lib.decDigits m ++ nF x:=by
 have hv:val (Lib.decDigits m ++ nF x)=x+1000000000*m:=by
  rw[bS,yf,qP hx,cG];omega
 rw[← hv];obtain⟨b,t,e,hb⟩:=iH m hm;refine gh _ (by simp[gr]) (fun b hb=>?_) (Or.inl ?_)
 ·rcases List.mem_append.1 hb with h|h
  ·exact a7 _ _ h
  ·exact vB _ _ h
 ·rw[e];simp[hb]
theorem Canon.drop{B:Nat}{L:List Nat}(h:Canon B L)(k:Nat):Canon B (L.drop k) :=
 ⟨fun x hx=>h.lt x (List.mem_of_mem_drop hx),by rw[List.getLast?_drop];simp;intro _;exact h.last⟩
theorem iO(L:List Nat):lQ L 0=[]:=by simp[lQ]
theorem nU(L:List Nat)(h:L≠[]):lQ L L.length=Lib.decDigits (mv 1000000000 L):=by
 unfold lQ;rw[if_neg (by intro e;exact h (List.length_eq_zero_iff.1 e)),Nat.sub_self,List.drop_zero]
theorem lP{L:List Nat}{i:Nat}(hi:i<L.length)(h:i=L.length-1-0):lQ L 1=Lib.decDigits (L[i]?.getD 0):=by
 unfold lQ;rw[if_neg af,show L.length-1=i by omega,List.drop_eq_getElem_cons hi,List.drop_eq_nil_of_le ae,cS];simp[hi]
theorem nT{L:List Nat}{i k:Nat}(hL:Canon 1000000000 L)(hk:k≠0)(hi:i<L.length)(h:i=L.length-1-k)(hkl:k<L.length):lQ L (k+1)=lQ L k ++ nF (L[i]?.getD 0):=by
 unfold lQ;rw[if_neg ae,if_neg hk,show L.length-(k+1)=i by omega,List.drop_eq_getElem_cons hi,show i+1=L.length-k by omega];have hc:=hL.drop (L.length-k);have hpos:=hc.pos af (by intro e;have:=congrArg List.length e;simp at this;omega);rw[show L[i]?.getD 0=L[i] by simp[hi],← zi ae (hL.lt _ (List.getElem_mem hi))];rfl
def xz(s:Bool):List UInt8:=if s then[45] else[]
def eI(s:Bool)(N:Nat):Int:=if s then -(N:Int) else N
theorem wS(s:Bool)(N:Nat)(h:N≠0):zl (eI s N)=xz s ++ Lib.decDigits N:=by
 cases s
 ·simp[eI,xz,dr]
 ·simp only[eI,xz,if_true];rw[bZ ae,Int.natAbs_neg,Int.natAbs_natCast];rfl
theorem qA(s:Bool):eI s 0=0:=by cases s <;> rfl
theorem byteCells_append(a b:List UInt8):Lib.byteCells (a ++ b)=Lib.byteCells a ++ Lib.byteCells b:=by simp[Lib.byteCells]
theorem cO(l:List UInt8):Lib.strCells ⟨l.toArray⟩=Lib.byteCells l:=by simp[Lib.strCells,Lib.byteCells]
theorem kF(d:Nat):(⟨#[48,48,48,48,48,48,48,48,48]⟩:ByteArray).extract d 9=⟨(List.replicate (9-d) (48:UInt8)).toArray⟩:=by
 apply bO;rw[ByteArray.data_extract,Array.toList_extract];show(([48,48,48,48,48,48,48,48,48]:List UInt8).drop d).take (9-d)=List.replicate (9-d) 48;rw[show([48,48,48,48,48,48,48,48,48]:List UInt8)=List.replicate 9 48 from rfl,List.drop_replicate,List.take_replicate,Nat.min_self]
theorem ax.qk{A B:World}{row:Option Nat}{k:Nat}{cs:Array Value}{t:TypeId}(h:ax A k cs t)(hg:A.grownBy B row)(hr:∀ r,row=some r->∃ o:Obj,A.heap[r]?=some o/\o.isCells=false):ax B k cs t :=
 h.grown hg (fun e=>by
  obtain⟨o,ho,hc⟩:=hr k e.symm;rw[h.out] at ho;cases ho;simp[Obj.isCells] at hc)
theorem qQ{w w':World}{B e n:Nat}{v:Value}{xs:List Value}(h:w.ownsRow B e 1 v n xs)(he:Ext w w'):w'.ownsRow B e 1 v n xs:=by
 refine⟨h.1,?_⟩;rcases h.2 with h|⟨g,cap,cur,rfl,hg,hh,h1,h2,h3,h4⟩
 ·exact Or.inl h
 ·refine Or.inr ⟨g,cap,cur,rfl,hg,?_,h1,h2,h3,h4⟩;rw[Below.block he g (Array.getElem?_eq_some_iff.1 hh).1];exact hh
theorem sF{w w':World}{B e n:Nat}{v:Value}{xs:List Value}{row:Option Nat}(h:w.ownsRow B e 1 v n xs)(hg:w.grownBy w' row)(hr:∀ r,row=some r->∃ o:Obj,w.heap[r]?=some o/\o.isCells=false):w'.ownsRow B e 1 v n xs:=by
 refine⟨h.1,?_⟩;rcases h.2 with h|⟨g,cap,cur,rfl,hB,hh,h1,h2,h3,h4⟩
 ·exact Or.inl h
 ·exact Or.inr ⟨g,cap,cur,rfl,hB,((⟨hh⟩:ax w g cur e).qk hg hr).out,h1,h2,h3,h4⟩
theorem zM.ext{B b:Nat}{p:Value}{bs:List Value}{w w':World}(h:zM B b p bs w)(he:Ext w w'):zM B b p bs w':=by
 obtain⟨hB,v,hbk,hown,hne⟩:=h;exact⟨hB,v,by rw[Below.block he b (Array.getElem?_eq_some_iff.1 hbk).1];exact hbk,qQ hown he,hne⟩
theorem ts.ext{B b:Nat}{bs:List Value}{w w':World}(h:ts B b bs w)(he:Ext w w'):ts B b bs w':=by
 rcases h with h|h
 ·exact Or.inl (zM.ext h he)
 ·exact Or.inr (zM.ext h he)
theorem zM.ke{B b:Nat}{p:Value}{bs:List Value}{w w':World}{row:Option Nat}(h:zM B b p bs w)(hg:w.grownBy w' row)(hr:∀ r,row=some r->∃ o:Obj,w.heap[r]?=some o/\o.isCells=false):zM B b p bs w':=by
 obtain⟨hB,v,hbk,hown,hne⟩:=h;exact⟨hB,v,((⟨hbk⟩:ax w b #[p,v] 276).qk hg hr).out,sF hown hg hr,hne⟩
theorem ts.ke{B b:Nat}{bs:List Value}{w w':World}{row:Option Nat}(h:ts B b bs w)(hg:w.grownBy w' row)(hr:∀ r,row=some r->∃ o:Obj,w.heap[r]?=some o/\o.isCells=false):ts B b bs w':=by
 rcases h with h|h
 ·exact Or.inl (zM.ke h hg hr)
 ·exact Or.inr (zM.ke h hg hr)
theorem ts.heap{B b:Nat}{bs:List Value}{w:World}(h:ts B b bs w):∃ cs,w.heap[b]?=some (.cells cs 276 (0,0)):=by
 rcases h with⟨_,v,hbk,_⟩|⟨_,v,hbk,_⟩
 ·exact⟨_,hbk⟩
 ·exact⟨_,hbk⟩
structure ch(w:World)(sl:Value)(s:Bool)(W:World)(bs:List Value):Prop where
 b:ts (w.heap.size+1) (w.heap.size+1) bs W
 box:ax W w.heap.size #[.bool s,sl] 216
 ext:Ext w W
theorem ch.ke{w:World}{sl:Value}{s:Bool}{A B:World}{bs:List Value}{row:Option Nat}(h:ch w sl s A bs)(hg:A.grownBy B row)(hr:∀ r,row=some r->w.heap.size<=r/\∃ o:Obj,A.heap[r]?=some o/\o.isCells=false):ch w sl s B bs :=
 ⟨h.b.ke hg (fun r e=>(hr r e).2),h.box.qk hg (fun r e=>(hr r e).2),h.ext.grown hg (fun r e=>(hr r e).1)⟩
theorem ch.grow{w:World}{sl:Value}{s:Bool}{A B:World}{bs:List Value}(h:ch w sl s A bs)(e:Ext A B):ch w sl s B bs :=
 ⟨h.b.ext e,h.box.ext e,h.ext.trans e⟩
theorem ch.write{w:World}{sl:Value}{s:Bool}{A B:World}{bs cs:List Value}(h:ch w sl s A bs)(e:rP (w.heap.size+1) (w.heap.size+1) cs A B):ch w sl s B cs :=
 ⟨Or.inr e.1,h.box.below e.2.1 ae,Below.trans h.ext (Below.mono e.2.1 ae)⟩
theorem jU{n₀ Bs:Nat}{A B:World}{cs:Array Value}{t:TypeId}(e:Ext A B)(hn:n₀<=A.heap.size)(hb:ax A Bs cs t):KeepsOthers A B/\cr n₀ Bs A B :=
 ⟨⟨e.size,fun k o hk _=>by rw[Below.block e k (Array.getElem?_eq_some_iff.1 hk).1];exact hk⟩,e.below.mono hn,Below.block e Bs hb.lt⟩
theorem eF{n₀ Bs B0 b:Nat}{A B:World}{cs:Array Value}{bs0 bs:List Value}(h0:ts B0 b bs0 A)(e:rP B0 b bs A B)(hn:n₀<=B0)(hb:ax A Bs cs 214)(hne:Bs≠b):KeepsOthers A B/\cr n₀ Bs A B:=by
 obtain⟨_,h1,h2⟩:=e;obtain⟨cb,hcb⟩:=h0.heap;refine⟨⟨h1.size,fun k o hk ho=>h2 k o hk ?_ ?_⟩,h1.mono hn,?_⟩
 ·intro e;cases e;rw[hcb] at hk;cases hk;simp[Obj.isCells] at ho
 ·intro c fz e;subst e;simp[Obj.isCells] at ho
 ·rw[hb.out];exact h2 Bs _ hb.out (by intro e;cases e;exact hne rfl) (by intro c fz e;cases e)
theorem tf (s:Bool) (ad:Option Addr) (c:Nat) (w:World) :
    Calls prog 171 #[.agg #[.bool s,.slice ad 0 c]] w (aR w (.string (zs 0))):=by
 rw[tv];go_enter func171,ntmps171;go_wp2;go_ret;exact⟨rfl,(Ext.refl w).alloc _⟩
set_option maxHeartbeats 4000000 in
theorem tg (N:Nat) (ad:Option Addr) (n c:Nat) (w:World) (hm:cz w (.slice ad n c) N) (hn0:0<n) (hn:n<=10000) (g:Gd w) :
    Calls prog 171 #[.agg #[.bool true,.slice ad n c]] w (aR w (.string (zs (eI true N)))):=by
 obtain⟨L,hL,cL,hLv⟩:=hm;obtain⟨ad',ca,ba,oa,heq,h1a,hca,hba,hCa⟩:=hL;simp only[Value.slice.injEq] at heq;obtain⟨rfl,hnl,rfl⟩:=heq;have HN:=aj hnl;have HLV:=aj hLv;have HC:=aj cL;rw[← hnl] at h1a hba hCa;have H1:=aj hba;have H2:=aj hCa;have HG:=aj g;clear hnl hLv hba hCa cL g;refine(callsIn_wide (n:=5)).1 ?_;refine callsIn_of_wp_marks func171 rfl trivial ?_ rfl;refine wpIn_wide.2 ?_;simp only[ntmps171,List.size_toArray,List.length_cons,List.length_nil,Nat.reduceAdd,Nat.reduceSub,Array.replicate_succ,Array.replicate_zero,List.push_toArray,List.append_toArray,List.nil_append,List.cons_append];have hb0:ts (w.heap.size+1) (w.heap.size+1) [] ((w.alloc (.cells #[.bool true,.slice ad n c] 216)).alloc (.cells #[.pointer none,.slice none 0 0] 276)):=by
  have:=Lib.fresh_isBuilder 276 5 (w.alloc (.cells #[.bool true,.slice ad n c] 216));simpa using this
 have hst0:ch w (.slice ad n c) true ((w.alloc (.cells #[.bool true,.slice ad n c] 216)).alloc (.cells #[.pointer none,.slice none 0 0] 276)) [] :=
  ⟨hb0,(ax.new w #[.bool true,.slice ad n c] 216).alloc _,((Ext.refl w).alloc _).alloc _⟩
 have HST:=aj hst0;clear hst0 hb0;go_wp2_with (first
  | (go_at_call 239;refine(lI (w.heap.size+1) (w.heap.size+1) [] 45 _ HST.o.b (by simp) (by simp)).mono ?_;rintro e w1 ⟨rfl,hbp⟩;have hst1:=HST.o.write hbp;have c0:=hst1.box.cell 0 rfl;have c1:=hst1.box.cell 1 rfl;have hsz:=hst1.b.heap)
  | (go_at_call 240;refine(callsIn_wide.1 (iI Fence.wide 1 trivial rfl _ _ _ _)).mono ?_;rintro e w' ⟨rfl,rfl⟩))
 obtain⟨Bs,hBs⟩:∃ Bs,Bs=w1.heap.size:=⟨_,rfl⟩
 obtain⟨WB,hWB⟩:∃ WB,WB=w1:=⟨_,rfl⟩
 have hst2:ch w (.slice ad n c) true WB (Lib.byteCells (xz true)):=by rw[hWB];exact hst1
 rw[← hWB] at hBs ⊢;rw[← hBs];obtain⟨W3,hW3⟩:∃ W3,WB.alloc (.cells #[.slice ad n c] 214)=W3:=⟨_,rfl⟩
 rw[hW3];clear c0 c1 hsz hst1 hbp hWB HST;have hbs:ax W3 Bs #[.slice ad n c] 214:=by rw[← hW3,hBs];exact ax.new WB #[.slice ad n c] 214
 have hst:ch w (.slice ad n c) true W3 (Lib.byteCells (xz true)):=by rw[← hW3];exact hst2.grow ((Ext.refl WB).alloc _)
 have e3:Ext w W3:=hst.ext;have sz3:W3.heap.size=Bs+1:=by rw[← hW3,hBs];simp
 have sz4:w.heap.size+2<=Bs:=by
  obtain⟨cb,hcb⟩:=hst2.b.heap;have:=(Array.getElem?_eq_some_iff.1 hcb).1;omega
 clear hW3 hst2 hBs;refine(wpIn_wide (n:=5)).1 ?_;refine wpIn_rangeFunc_ownG (α:=Fin n) rfl af (gf:=271) (lb:=#[.pointer (some ⟨Bs,0,none⟩)]) rfl trivial (enters_of func271 ag rfl)
  (jv Fence.wide 4 trivial rfl af Bs w.heap.size ba oa c ad L n ae W3 ae ae H1.o (hbs.cell 0 rfl) (fun j hj=>(e3.cell (p:=⟨ba,oa+j,none⟩) (H1.o ae).2).trans (H2.o j hj)))
  cr.trans (cr.put (w:=W3) ae ae) (Below.refl _ _) (fun _=>rfl)
  (fun pre W=>∃ bs,ch w (.slice ad n c) true W bs/\ax W Bs #[.slice ad n c] 214/\(pre.length<n->bs.length<=1+20*pre.length) /\
   (∀ k,k<=n->pre=bk n k->bs=Lib.byteCells (xz true ++ lQ L k)))
  (fun _ _ _=>False)
  (fun pre A B row hs hg hr=>by
   obtain⟨bs,h1,h2,h3⟩:=hs;exact⟨bs,h1.ke hg (fun r e=>⟨by have:=(hr r e).1;omega,(hr r e).2⟩),h2.qk hg (fun r e=>(hr r e).2),h3⟩)
  (fun _ _ _ _ _ hs _ _=>hs)
  ⟨_,hst,hbs,fun _=>by simp[Lib.byteCells_length,xz],fun k hk e=>by
   have hk0:k=0:=by have:=congrArg List.length e;rw[iY n k hk] at this;simpa using this.symm
   subst hk0;rw[iO,List.append_nil]⟩
  (fun x=>{ tmps:=#[.agg #[.bool true,.slice ad n c],.pointer (some ⟨w.heap.size,0,none⟩),.string ⟨#[]⟩,.pointer (some ⟨w.heap.size+1,0,none⟩),.int .i64 (x.val:Int),.int .u64 ((L[x.val]?.getD 0:Nat):Int),undef,.pointer (some ⟨w.heap.size,1,none⟩),.slice ad n c,.int .i64 (n:Int),.bool false,.pointer (some ⟨w.heap.size,0,none⟩),.bool true,.nilIface,.pointer (some ⟨w.heap.size,1,none⟩),.slice ad n c,.func (.func 271) #[] #[.pointer (some ⟨Bs,0,none⟩)],.int .i64 (x.val:Int),.int .u64 ((L[x.val]?.getD 0:Nat):Int),undef,undef,undef,undef,undef,undef,undef,undef,undef,undef,undef,undef,undef,undef,undef],defers:=[] }) ?assign ?body ?done ?stop
 case assign =>
  intro l x W K hK;gi_wp2;exact hK
 case body =>
  rintro l pre x W ⟨bs,hS,hB,hlb,hQ⟩ hlen;obtain⟨i,hin⟩:=x;obtain⟨x,hx⟩:∃ x,x=L[i]?.getD 0:=⟨_,rfl⟩
  have hxlt:x<1000000000:=by rw[hx];exact aK af HC.o.lt i
  obtain⟨D,hD⟩:∃ D,D=Lib.decDigits x:=⟨_,rfl⟩
  have hD9:D.length<=9:=by rw[hD];exact pT hxlt
  have hbl:bs.length<=1000000:=by have:=hlb hlen;omega
  have HX:=aj hx;have HD:=aj hD;have HQ:=aj hQ;have HS:=aj hS;have HB:=aj hB;simp only[← hx];clear hx hD hQ hS hB;have hext:=HS.o.ext;have hsz0:w.heap.size<=W.heap.size:=hext.size;by_cases hi:i<n-1
  ·have hi':(i:Int)<(n:Int)-1:=ae;gi_wp2_with (first
    | (refine⟨trivial,?_⟩;gi_at_call 241;refine(CallsIn.inRound l (callsIn_wide.2 (uw x hxlt _ (HG.o.ext hext)))).mono ?_;rintro e w1 ⟨rfl,e1⟩;rw[← HD.o];have hS1:=HS.o.grow e1;have hB1:=HB.o.ext e1;have c1:=hS1.box.cell 1 rfl)
    | (refine⟨trivial,?_⟩;gi_at_call 242;(with_reducible refine(CallsIn.inRound l (callsIn_wide.2 (dh (w.heap.size+1) (w.heap.size+1) _ _ _ hS1.b (by simp;omega) (by have:=hS1.ext.size;have:=sz4;have:=hS1.b.heap;obtain⟨cb,hcb⟩:=this;have:=(Array.getElem?_eq_some_iff.1 hcb).1;omega)))).mono ?_);rintro e w2 ⟨rfl,hbp2⟩;have hS2:=hS1.write hbp2;have c2:=hS2.box.cell 1 rfl)
    | (refine⟨trivial,?_⟩;gi_at_call 242;refine(CallsIn.inRound l (callsIn_wide.2 (dh (w.heap.size+1) (w.heap.size+1) _ _ _ hS2.b (by simp[Lib.strCells_length,ByteArray.size];omega) (by have:=hS2.b.heap;obtain⟨cb,hcb⟩:=this;have:=(Array.getElem?_eq_some_iff.1 hcb).1;omega)))).mono ?_;rintro e w3 ⟨rfl,hbp3⟩;have hS3:=hS2.write hbp3))
   have k1:=jU (n₀:=w.heap.size) e1 hsz0 HB.o;have k2:=eF (n₀:=w.heap.size) hS1.b hbp2 ae hB1 ae;have hB2:ax w2 Bs #[.slice ad n c] 214:=⟨k2.2.2.trans hB1.out⟩
   have k3:=eF (n₀:=w.heap.size) hS2.b hbp3 ae hB2 ae;refine⟨((k1.1.trans k2.1).trans k3.1).from _,(k1.2.trans k2.2).trans k3.2,_,hS3,⟨k3.2.2.trans hB2.out⟩,?_,?_⟩
   ·intro h2;simp only[List.length_append,List.length_singleton,Lib.strCells_length] at h2 ⊢;have:=hlb hlen;simp[ByteArray.size];omega
   ·intro k hk e;obtain⟨k',rfl,rfl,hik⟩:=j4 hk e;rw[HQ.o k' ae rfl,nT HC.o ae (by rw[← HN.o];exact hin) (by rw[← HN.o];exact hik) (by rw[← HN.o];omega),← HX.o,kF,cO,cO];unfold nF;rw[← HD.o];simp[byteCells_append]
  ·have hi':¬ (i:Int)<(n:Int)-1:=ae;gi_wp2_with (first
    | (refine⟨trivial,?_⟩;gi_at_call 241;refine(CallsIn.inRound l (callsIn_wide.2 (uw x hxlt _ (HG.o.ext hext)))).mono ?_;rintro e w1 ⟨rfl,e1⟩;rw[← HD.o];have hS1:=HS.o.grow e1;have hB1:=HB.o.ext e1;have c1:=hS1.box.cell 1 rfl)
    | (refine⟨trivial,?_⟩;gi_at_call 242;refine(CallsIn.inRound l (callsIn_wide.2 (dh (w.heap.size+1) (w.heap.size+1) _ _ _ hS1.b (by simp[ByteArray.size];omega) (by have:=hS1.b.heap;obtain⟨cb,hcb⟩:=this;have:=(Array.getElem?_eq_some_iff.1 hcb).1;omega)))).mono ?_;rintro e w3 ⟨rfl,hbp3⟩;have hS3:=hS1.write hbp3))
   have k1:=jU (n₀:=w.heap.size) e1 hsz0 HB.o;have k3:=eF (n₀:=w.heap.size) hS1.b hbp3 ae hB1 ae;refine⟨(k1.1.trans k3.1).from _,k1.2.trans k3.2,_,hS3,⟨k3.2.2.trans hB1.out⟩,?_,?_⟩
   ·intro h2;simp only[List.length_append,List.length_singleton,Lib.strCells_length] at h2 ⊢;have:=hlb hlen;simp[ByteArray.size];omega
   ·intro k hk e;obtain⟨k',rfl,rfl,hik⟩:=j4 hk e;obtain rfl:k'=0:=ae;rw[HQ.o 0 ae rfl,iO,Nat.zero_add,lP (by rw[← HN.o];exact hin) (by rw[← HN.o];exact hik),← HX.o,← HD.o,cO];simp[byteCells_append]
 case done =>
  rintro D ys W hD rfl ⟨bs,hS,hB,hlb,hQ⟩ hK;have hbs:=hQ n (Nat.le_refl _) rfl;have hne:L≠[]:=by intro e;have:=HN.o;rw[e] at this;simp at this;omega
  have hN0:N≠0:=by have:=HC.o.pos af hne;have:=HLV.o;omega
  have hfin:bs=Lib.byteCells (zl (eI true N)):=by rw[hbs,wS _ _ hN0,HN.o,nU _ hne,HLV.o]
  subst hfin;clear hbs hQ;have HS:=aj hS;have HZ:=aj hK;clear hS hK;go_wp2_with (first
   | (go_at_call 243;refine(Builder_String_any_k (w.heap.size+1) (w.heap.size+1) _ _ (Lib.IsBuilderF.of HS.o.b) (by have:=HS.o.b.heap;obtain⟨cb,hcb⟩:=this;have:=(Array.getElem?_eq_some_iff.1 hcb).1;omega)).mono ?_;rintro e w4 ⟨rfl,_,he4,hk4⟩))
  have hK2:w4.heap[D]?=some (.deferred (some [])):=hk4 D _ HZ.o (by intro e;cases e;obtain⟨cb,hcb⟩:=HS.o.b.heap;rw[HZ.o] at hcb;cases hcb) (by intro c fz e;cases e);refine⟨by simp,.inl ⟨_,_,rfl,run_takeDeferred hK2,?_⟩⟩;exact⟨.string (zs (eI true N)),by simp[results,results171,go_sem,zs],rfl,Ext.grown (show Ext w w4 from Below.trans HS.o.ext (Below.mono he4 ae)) (grownBy_putObj' w4 D _) (fun k e=>by cases e;have:=e3.size;omega)⟩
 case stop =>
  rintro D c pre W _ _ h _;exact h.elim
set_option maxHeartbeats 4000000 in
theorem rI (N:Nat) (ad:Option Addr) (n c:Nat) (w:World) (hm:cz w (.slice ad n c) N) (hn0:0<n) (hn:n<=10000) (g:Gd w) :
    Calls prog 171 #[.agg #[.bool false,.slice ad n c]] w (aR w (.string (zs (eI false N)))):=by
 obtain⟨L,hL,cL,hLv⟩:=hm;obtain⟨ad',ca,ba,oa,heq,h1a,hca,hba,hCa⟩:=hL;simp only[Value.slice.injEq] at heq;obtain⟨rfl,hnl,rfl⟩:=heq;have HN:=aj hnl;have HLV:=aj hLv;have HC:=aj cL;rw[← hnl] at h1a hba hCa;have H1:=aj hba;have H2:=aj hCa;have HG:=aj g;clear hnl hLv hba hCa cL g;refine(callsIn_wide (n:=5)).1 ?_;refine callsIn_of_wp_marks func171 rfl trivial ?_ rfl;refine wpIn_wide.2 ?_;simp only[ntmps171,List.size_toArray,List.length_cons,List.length_nil,Nat.reduceAdd,Nat.reduceSub,Array.replicate_succ,Array.replicate_zero,List.push_toArray,List.append_toArray,List.nil_append,List.cons_append];have hb0:ts (w.heap.size+1) (w.heap.size+1) [] ((w.alloc (.cells #[.bool false,.slice ad n c] 216)).alloc (.cells #[.pointer none,.slice none 0 0] 276)):=by
  have:=Lib.fresh_isBuilder 276 5 (w.alloc (.cells #[.bool false,.slice ad n c] 216));simpa using this
 have hst0:ch w (.slice ad n c) false ((w.alloc (.cells #[.bool false,.slice ad n c] 216)).alloc (.cells #[.pointer none,.slice none 0 0] 276)) [] :=
  ⟨hb0,(ax.new w #[.bool false,.slice ad n c] 216).alloc _,((Ext.refl w).alloc _).alloc _⟩
 have HST:=aj hst0;clear hst0 hb0;go_wp2_with (first
  | (go_at_call 239;refine(lI (w.heap.size+1) (w.heap.size+1) [] 45 _ HST.o.b (by simp) (by simp)).mono ?_;rintro e w1 ⟨rfl,hbp⟩;have hst1:=HST.o.write hbp;have c0:=hst1.box.cell 0 rfl;have c1:=hst1.box.cell 1 rfl;have hsz:=hst1.b.heap)
  | (go_at_call 240;refine(callsIn_wide.1 (iI Fence.wide 1 trivial rfl _ _ _ _)).mono ?_;rintro e w' ⟨rfl,rfl⟩))
 obtain⟨Bs,hBs0⟩:∃ Bs,Bs=w.heap.size+1+1:=⟨_,rfl⟩
 obtain⟨WB,hWB⟩:∃ WB,WB=((w.alloc (.cells #[.bool false,.slice ad n c] 216)).alloc (.cells #[.pointer none,.slice none 0 0] 276)):=⟨_,rfl⟩
 have hst2:ch w (.slice ad n c) false WB (Lib.byteCells (xz false)):=by rw[hWB];exact HST.o
 have hBs:Bs=WB.heap.size:=by rw[hWB,hBs0];simp
 rw[← hWB];rw[← hBs0];obtain⟨W3,hW3⟩:∃ W3,WB.alloc (.cells #[.slice ad n c] 214)=W3:=⟨_,rfl⟩
 rw[hW3];clear hWB HST hBs0;have hbs:ax W3 Bs #[.slice ad n c] 214:=by rw[← hW3,hBs];exact ax.new WB #[.slice ad n c] 214
 have hst:ch w (.slice ad n c) false W3 (Lib.byteCells (xz false)):=by rw[← hW3];exact hst2.grow ((Ext.refl WB).alloc _)
 have e3:Ext w W3:=hst.ext;have sz3:W3.heap.size=Bs+1:=by rw[← hW3,hBs];simp
 have sz4:w.heap.size+2<=Bs:=by
  obtain⟨cb,hcb⟩:=hst2.b.heap;have:=(Array.getElem?_eq_some_iff.1 hcb).1;omega
 clear hW3 hst2 hBs;refine(wpIn_wide (n:=5)).1 ?_;refine wpIn_rangeFunc_ownG (α:=Fin n) rfl af (gf:=271) (lb:=#[.pointer (some ⟨Bs,0,none⟩)]) rfl trivial (enters_of func271 ag rfl)
  (jv Fence.wide 4 trivial rfl af Bs w.heap.size ba oa c ad L n ae W3 ae ae H1.o (hbs.cell 0 rfl) (fun j hj=>(e3.cell (p:=⟨ba,oa+j,none⟩) (H1.o ae).2).trans (H2.o j hj)))
  cr.trans (cr.put (w:=W3) ae ae) (Below.refl _ _) (fun _=>rfl)
  (fun pre W=>∃ bs,ch w (.slice ad n c) false W bs/\ax W Bs #[.slice ad n c] 214/\(pre.length<n->bs.length<=1+20*pre.length) /\
   (∀ k,k<=n->pre=bk n k->bs=Lib.byteCells (xz false ++ lQ L k)))
  (fun _ _ _=>False)
  (fun pre A B row hs hg hr=>by
   obtain⟨bs,h1,h2,h3⟩:=hs;exact⟨bs,h1.ke hg (fun r e=>⟨by have:=(hr r e).1;omega,(hr r e).2⟩),h2.qk hg (fun r e=>(hr r e).2),h3⟩)
  (fun _ _ _ _ _ hs _ _=>hs)
  ⟨_,hst,hbs,fun _=>by simp[Lib.byteCells_length,xz],fun k hk e=>by
   have hk0:k=0:=by have:=congrArg List.length e;rw[iY n k hk] at this;simpa using this.symm
   subst hk0;rw[iO,List.append_nil]⟩
  (fun x=>{ tmps:=#[.agg #[.bool false,.slice ad n c],.pointer (some ⟨w.heap.size,0,none⟩),.string ⟨#[]⟩,.pointer (some ⟨w.heap.size+1,0,none⟩),.int .i64 (x.val:Int),.int .u64 ((L[x.val]?.getD 0:Nat):Int),undef,.pointer (some ⟨w.heap.size,1,none⟩),.slice ad n c,.int .i64 (n:Int),.bool false,.pointer (some ⟨w.heap.size,0,none⟩),.bool false,undef,.pointer (some ⟨w.heap.size,1,none⟩),.slice ad n c,.func (.func 271) #[] #[.pointer (some ⟨Bs,0,none⟩)],.int .i64 (x.val:Int),.int .u64 ((L[x.val]?.getD 0:Nat):Int),undef,undef,undef,undef,undef,undef,undef,undef,undef,undef,undef,undef,undef,undef,undef],defers:=[] }) ?assign ?body ?done ?stop
 case assign =>
  intro l x W K hK;gi_wp2;exact hK
 case body =>
  rintro l pre x W ⟨bs,hS,hB,hlb,hQ⟩ hlen;obtain⟨i,hin⟩:=x;obtain⟨x,hx⟩:∃ x,x=L[i]?.getD 0:=⟨_,rfl⟩
  have hxlt:x<1000000000:=by rw[hx];exact aK af HC.o.lt i
  obtain⟨D,hD⟩:∃ D,D=Lib.decDigits x:=⟨_,rfl⟩
  have hD9:D.length<=9:=by rw[hD];exact pT hxlt
  have hbl:bs.length<=1000000:=by have:=hlb hlen;omega
  have HX:=aj hx;have HD:=aj hD;have HQ:=aj hQ;have HS:=aj hS;have HB:=aj hB;simp only[← hx];clear hx hD hQ hS hB;have hext:=HS.o.ext;have hsz0:w.heap.size<=W.heap.size:=hext.size;by_cases hi:i<n-1
  ·have hi':(i:Int)<(n:Int)-1:=ae;gi_wp2_with (first
    | (refine⟨trivial,?_⟩;gi_at_call 241;refine(CallsIn.inRound l (callsIn_wide.2 (uw x hxlt _ (HG.o.ext hext)))).mono ?_;rintro e w1 ⟨rfl,e1⟩;rw[← HD.o];have hS1:=HS.o.grow e1;have hB1:=HB.o.ext e1;have c1:=hS1.box.cell 1 rfl)
    | (refine⟨trivial,?_⟩;gi_at_call 242;(with_reducible refine(CallsIn.inRound l (callsIn_wide.2 (dh (w.heap.size+1) (w.heap.size+1) _ _ _ hS1.b (by simp;omega) (by have:=hS1.ext.size;have:=sz4;have:=hS1.b.heap;obtain⟨cb,hcb⟩:=this;have:=(Array.getElem?_eq_some_iff.1 hcb).1;omega)))).mono ?_);rintro e w2 ⟨rfl,hbp2⟩;have hS2:=hS1.write hbp2;have c2:=hS2.box.cell 1 rfl)
    | (refine⟨trivial,?_⟩;gi_at_call 242;refine(CallsIn.inRound l (callsIn_wide.2 (dh (w.heap.size+1) (w.heap.size+1) _ _ _ hS2.b (by simp[Lib.strCells_length,ByteArray.size];omega) (by have:=hS2.b.heap;obtain⟨cb,hcb⟩:=this;have:=(Array.getElem?_eq_some_iff.1 hcb).1;omega)))).mono ?_;rintro e w3 ⟨rfl,hbp3⟩;have hS3:=hS2.write hbp3))
   have k1:=jU (n₀:=w.heap.size) e1 hsz0 HB.o;have k2:=eF (n₀:=w.heap.size) hS1.b hbp2 ae hB1 ae;have hB2:ax w2 Bs #[.slice ad n c] 214:=⟨k2.2.2.trans hB1.out⟩
   have k3:=eF (n₀:=w.heap.size) hS2.b hbp3 ae hB2 ae;refine⟨((k1.1.trans k2.1).trans k3.1).from _,(k1.2.trans k2.2).trans k3.2,_,hS3,⟨k3.2.2.trans hB2.out⟩,?_,?_⟩
   ·intro h2;simp only[List.length_append,List.length_singleton,Lib.strCells_length] at h2 ⊢;have:=hlb hlen;simp[ByteArray.size];omega
   ·intro k hk e;obtain⟨k',rfl,rfl,hik⟩:=j4 hk e;rw[HQ.o k' ae rfl,nT HC.o ae (by rw[← HN.o];exact hin) (by rw[← HN.o];exact hik) (by rw[← HN.o];omega),← HX.o,kF,cO,cO];unfold nF;rw[← HD.o];simp[byteCells_append]
  ·have hi':¬ (i:Int)<(n:Int)-1:=ae;gi_wp2_with (first
    | (refine⟨trivial,?_⟩;gi_at_call 241;refine(CallsIn.inRound l (callsIn_wide.2 (uw x hxlt _ (HG.o.ext hext)))).mono ?_;rintro e w1 ⟨rfl,e1⟩;rw[← HD.o];have hS1:=HS.o.grow e1;have hB1:=HB.o.ext e1;have c1:=hS1.box.cell 1 rfl)
    | (refine⟨trivial,?_⟩;gi_at_call 242;refine(CallsIn.inRound l (callsIn_wide.2 (dh (w.heap.size+1) (w.heap.size+1) _ _ _ hS1.b (by simp[ByteArray.size];omega) (by have:=hS1.b.heap;obtain⟨cb,hcb⟩:=this;have:=(Array.getElem?_eq_some_iff.1 hcb).1;omega)))).mono ?_;rintro e w3 ⟨rfl,hbp3⟩;have hS3:=hS1.write hbp3))
   have k1:=jU (n₀:=w.heap.size) e1 hsz0 HB.o;have k3:=eF (n₀:=w.heap.size) hS1.b hbp3 ae hB1 ae;refine⟨(k1.1.trans k3.1).from _,k1.2.trans k3.2,_,hS3,⟨k3.2.2.trans hB1.out⟩,?_,?_⟩
   ·intro h2;simp only[List.length_append,List.length_singleton,Lib.strCells_length] at h2 ⊢;have:=hlb hlen;simp[ByteArray.size];omega
   ·intro k hk e;obtain⟨k',rfl,rfl,hik⟩:=j4 hk e;obtain rfl:k'=0:=ae;rw[HQ.o 0 ae rfl,iO,Nat.zero_add,lP (by rw[← HN.o];exact hin) (by rw[← HN.o];exact hik),← HX.o,← HD.o,cO];simp[byteCells_append]
 case done =>
  rintro D ys W hD rfl ⟨bs,hS,hB,hlb,hQ⟩ hK;have hbs:=hQ n (Nat.le_refl _) rfl;have hne:L≠[]:=by intro e;have:=HN.o;rw[e] at this;simp at this;omega
  have hN0:N≠0:=by have:=HC.o.pos af hne;have:=HLV.o;omega
  have hfin:bs=Lib.byteCells (zl (eI false N)):=by rw[hbs,wS _ _ hN0,HN.o,nU _ hne,HLV.o]
  subst hfin;clear hbs hQ;have HS:=aj hS;have HZ:=aj hK;clear hS hK;go_wp2_with (first
   | (go_at_call 243;refine(Builder_String_any_k (w.heap.size+1) (w.heap.size+1) _ _ (Lib.IsBuilderF.of HS.o.b) (by have:=HS.o.b.heap;obtain⟨cb,hcb⟩:=this;have:=(Array.getElem?_eq_some_iff.1 hcb).1;omega)).mono ?_;rintro e w4 ⟨rfl,_,he4,hk4⟩))
  have hK2:w4.heap[D]?=some (.deferred (some [])):=hk4 D _ HZ.o (by intro e;cases e;obtain⟨cb,hcb⟩:=HS.o.b.heap;rw[HZ.o] at hcb;cases hcb) (by intro c fz e;cases e);refine⟨by simp,.inl ⟨_,_,rfl,run_takeDeferred hK2,?_⟩⟩;exact⟨.string (zs (eI false N)),by simp[results,results171,go_sem,zs],rfl,Ext.grown (show Ext w w4 from Below.trans HS.o.ext (Below.mono he4 ae)) (grownBy_putObj' w4 D _) (fun k e=>by cases e;have:=e3.size;omega)⟩
 case stop =>
  rintro D c pre W _ _ h _;exact h.elim
end Go.Proofs.YtmahadmefplbnaaGreatDoor
