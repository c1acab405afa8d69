/- Part 15. -/
import Derived.Test.YtmahadmefplbnaaGreatDoorQVLB
import Derived.Test.YtmahadmefplbnaaGreatDoorQVL5
import Derived.Test.YtmahadmefplbnaaGreatDoorQVL13
import Derived.Test.YtmahadmefplbnaaGreatDoorQVL14
set_option maxRecDepth 100000
set_option maxHeartbeats 2000000
open Go.Proofs.Tryz
namespace Go.Proofs.YtmahadmefplbnaaGreatDoor
open Go Go.RowKit Go.Shelf
attribute [local go_sem] Oper.semAt_some
def vi(L:List Nat)(k:Nat):List UInt8:=if k=0 then[] else Lib.decDigits (mv 1000000000 (L.drop (L.length-k)))
def x9(x:Nat):List UInt8:=List.replicate (9-(Lib.decDigits x).length) 48 ++ Lib.decDigits x
theorem Bk{x:Nat}(h:x<1000000000):(Lib.decDigits x).length<=9:=dJ (k:=9) af ae
theorem Dk{x:Nat}(h:x<1000000000):(x9 x).length=9:=by
 unfold x9;have:=Bk h;simp;omega
theorem Nu(x:Nat):val (x9 x)=x:=by unfold x9;rw[yG,gB]
theorem KC(x:Nat):∀ b ∈ x9 x,fN b=true:=by
 intro b hb;rcases List.mem_append.1 hb with hb|hb
 ·rw[(List.mem_replicate.1 hb).2];decide
 ·exact di _ _ hb
theorem Pa{m x:Nat}(hm:m≠0)(hx:x<1000000000):Lib.decDigits (x+1000000000*m)=Lib.decDigits m ++ x9 x:=by
 have hv:val (Lib.decDigits m ++ x9 x)=x+1000000000*m:=by
  rw[eO,Nu,Dk hx,gB];omega
 rw[← hv];obtain⟨b,t,e,hb⟩:=mm m hm;refine iG _ (by simp[kN]) (fun b hb=>?_) (Or.inl ?_)
 ·rcases List.mem_append.1 hb with h|h
  ·exact di _ _ h
  ·exact KC _ _ h
 ·rw[e];simp[hb]
theorem Canon.drop{B:Nat}{L:List Nat}(h:Canon B L)(k:Nat):Canon B (L.drop k) :=
 ⟨fun x hx=>h.lt x (List.mem_of_mem_drop hx),by rw[List.getLast?_drop];simp;intro _;exact h.last⟩
theorem pg(L:List Nat):vi L 0=[]:=by simp[vi]
theorem yJ(L:List Nat)(h:L≠[]):vi L L.length=Lib.decDigits (mv 1000000000 L):=by
 unfold vi;rw[if_neg (by intro e;exact h (List.length_eq_zero_iff.1 e)),Nat.sub_self,List.drop_zero]
theorem vh{L:List Nat}{i:Nat}(hi:i<L.length)(h:i=L.length-1-0):vi L 1=Lib.decDigits (L[i]?.getD 0):=by
 unfold vi;rw[if_neg af,show L.length-1=i by omega,List.drop_eq_getElem_cons hi,List.drop_eq_nil_of_le ae,gP];simp[hi]
theorem yI{L:List Nat}{i k:Nat}(hL:Canon 1000000000 L)(hk:k≠0)(hi:i<L.length)(h:i=L.length-1-k)(hkl:k<L.length):vi L (k+1)=vi L k ++ x9 (L[i]?.getD 0):=by
 unfold vi;rw[if_neg ae,if_neg hk,show L.length-(k+1)=i by omega,List.drop_eq_getElem_cons hi,show i+1=L.length-k by omega];have hc:=hL.drop (L.length-k);have SJ:=hc.pos af (by intro e;have:=congrArg List.length e;simp at this;omega);rw[show L[i]?.getD 0=L[i] by simp[hi],← Pa ae (hL.lt _ (List.getElem_mem hi))];rfl
def Mz(s:Bool):List UInt8:=if s then[45] else[]
def jg(s:Bool)(N:Nat):Int:=if s then -(N:Int) else N
theorem L6(s:Bool)(N:Nat)(h:N≠0):zl (jg s N)=Mz s ++ Lib.decDigits N:=by
 cases s
 ·simp[jg,Mz,fS]
 ·simp only[jg,Mz,if_true];rw[dM ae,Int.natAbs_neg,Int.natAbs_natCast];rfl
theorem CA(s:Bool):jg s 0=0:=by cases s <;> rfl
theorem byteCells_append(a b:List UInt8):Lib.byteCells (a ++ b)=Lib.byteCells a ++ Lib.byteCells b:=by simp[Lib.byteCells]
theorem gr(l:List UInt8):Lib.strCells ⟨l.toArray⟩=Lib.byteCells l:=by simp[Lib.strCells,Lib.byteCells]
theorem tF(d:Nat):(⟨#[48,48,48,48,48,48,48,48,48]⟩:ByteArray).extract d 9=⟨(List.replicate (9-d) (48:UInt8)).toArray⟩:=by
 apply dW;rw[ByteArray.data_extract,Array.toList_extract];show(([48,48,48,48,48,48,48,48,48]:List UInt8).drop d).take (9-d)=List.replicate (9-d) 48;rw[show([48,48,48,48,48,48,48,48,48]:List UInt8)=List.replicate 9 48 from rfl,List.drop_replicate,List.take_replicate,Nat.min_self]
theorem ay.Ct{A B:World}{row:Option Nat}{k:Nat}{cs:Array Value}{t:TypeId}(h:ay A k cs t)(hg:A.grownBy B row)(hr:∀ r,row=some r->∃ o:Obj,A.heap[r]?=some o/\o.isCells=false):ay B k cs t :=
 h.grown hg (fun e=>by
  obtain⟨o,ho,hc⟩:=hr k e.symm;rw[h.out] at ho;cases ho;simp[Obj.isCells] at hc)
theorem Dl{w w':World}{B e n:Nat}{v:Value}{xs:List Value}(h:w.ownsRow B e 1 v n xs)(he:Ext w w'):w'.ownsRow B e 1 v n xs:=by
 refine⟨h.1,?_⟩;rcases h.2 with h|⟨g,cap,cur,rfl,hg,hh,h1,h2,h3,h4⟩
 ·exact Or.inl h
 ·refine Or.inr ⟨g,cap,cur,rfl,hg,?_,h1,h2,h3,h4⟩;rw[Below.block he g (Array.getElem?_eq_some_iff.1 hh).1];exact hh
theorem F7{w w':World}{B e n:Nat}{v:Value}{xs:List Value}{row:Option Nat}(h:w.ownsRow B e 1 v n xs)(hg:w.grownBy w' row)(hr:∀ r,row=some r->∃ o:Obj,w.heap[r]?=some o/\o.isCells=false):w'.ownsRow B e 1 v n xs:=by
 refine⟨h.1,?_⟩;rcases h.2 with h|⟨g,cap,cur,rfl,hB,hh,h1,h2,h3,h4⟩
 ·exact Or.inl h
 ·exact Or.inr ⟨g,cap,cur,rfl,hB,((⟨hh⟩:ay w g cur e).Ct hg hr).out,h1,h2,h3,h4⟩
theorem QK.ext{B b:Nat}{p:Value}{bs:List Value}{w w':World}(h:QK B b p bs w)(he:Ext w w'):QK B b p bs w':=by
 obtain⟨hB,v,y5,cq,c8⟩:=h;exact⟨hB,v,by rw[Below.block he b (Array.getElem?_eq_some_iff.1 y5).1];exact y5,Dl cq he,c8⟩
theorem Ik.ext{B b:Nat}{bs:List Value}{w w':World}(h:Ik B b bs w)(he:Ext w w'):Ik B b bs w':=by
 rcases h with h|h
 ·exact Or.inl (QK.ext h he)
 ·exact Or.inr (QK.ext h he)
theorem QK.sI{B b:Nat}{p:Value}{bs:List Value}{w w':World}{row:Option Nat}(h:QK B b p bs w)(hg:w.grownBy w' row)(hr:∀ r,row=some r->∃ o:Obj,w.heap[r]?=some o/\o.isCells=false):QK B b p bs w':=by
 obtain⟨hB,v,y5,cq,c8⟩:=h;exact⟨hB,v,((⟨y5⟩:ay w b #[p,v] 276).Ct hg hr).out,F7 cq hg hr,c8⟩
theorem Ik.sI{B b:Nat}{bs:List Value}{w w':World}{row:Option Nat}(h:Ik B b bs w)(hg:w.grownBy w' row)(hr:∀ r,row=some r->∃ o:Obj,w.heap[r]?=some o/\o.isCells=false):Ik B b bs w':=by
 rcases h with h|h
 ·exact Or.inl (QK.sI h hg hr)
 ·exact Or.inr (QK.sI h hg hr)
theorem Ik.heap{B b:Nat}{bs:List Value}{w:World}(h:Ik B b bs w):∃ cs,w.heap[b]?=some (.cells cs 276 (0,0)):=by
 rcases h with⟨_,v,y5,_⟩|⟨_,v,y5,_⟩
 ·exact⟨_,y5⟩
 ·exact⟨_,y5⟩
structure eN(w:World)(sl:Value)(s:Bool)(W:World)(bs:List Value):Prop where
 b:Ik (w.heap.size+1) (w.heap.size+1) bs W
 box:ay W w.heap.size #[.bool s,sl] 216
 ext:Ext w W
theorem eN.sI{w:World}{sl:Value}{s:Bool}{A B:World}{bs:List Value}{row:Option Nat}(h:eN w sl s A bs)(hg:A.grownBy B row)(hr:∀ r,row=some r->w.heap.size<=r/\∃ o:Obj,A.heap[r]?=some o/\o.isCells=false):eN w sl s B bs :=
 ⟨h.b.sI hg (fun r e=>(hr r e).2),h.box.Ct hg (fun r e=>(hr r e).2),h.ext.grown hg (fun r e=>(hr r e).1)⟩
theorem eN.grow{w:World}{sl:Value}{s:Bool}{A B:World}{bs:List Value}(h:eN w sl s A bs)(e:Ext A B):eN w sl s B bs :=
 ⟨h.b.ext e,h.box.ext e,h.ext.trans e⟩
theorem eN.write{w:World}{sl:Value}{s:Bool}{A B:World}{bs cs:List Value}(h:eN w sl s A bs)(e:EZ (w.heap.size+1) (w.heap.size+1) cs A B):eN w sl s B cs :=
 ⟨Or.inr e.1,h.box.below e.2.1 ae,Below.trans h.ext (Below.mono e.2.1 ae)⟩
theorem rN{n₀ Bs:Nat}{A B:World}{cs:Array Value}{t:TypeId}(e:Ext A B)(hn:n₀<=A.heap.size)(hb:ay A Bs cs t):KeepsOthers A B/\eZ n₀ Bs A B :=
 ⟨⟨e.size,fun k o hk _=>by rw[Below.block e k (Array.getElem?_eq_some_iff.1 hk).1];exact hk⟩,e.below.mono hn,Below.block e Bs hb.lt⟩
theorem jD{n₀ Bs B0 b:Nat}{A B:World}{cs:Array Value}{bs0 bs:List Value}(h0:Ik B0 b bs0 A)(e:EZ B0 b bs A B)(hn:n₀<=B0)(hb:ay A Bs cs 214)(c8:Bs≠b):KeepsOthers A B/\eZ n₀ Bs A B:=by
 obtain⟨_,h1,h2⟩:=e;obtain⟨cb,nq⟩:=h0.heap;refine⟨⟨h1.size,fun k o hk ho=>h2 k o hk ?_ ?_⟩,h1.mono hn,?_⟩
 ·intro e;cases e;rw[nq] at hk;cases hk;simp[Obj.isCells] at ho
 ·intro c fz e;subst e;simp[Obj.isCells] at ho
 ·rw[hb.out];exact h2 Bs _ hb.out (by intro e;cases e;exact c8 rfl) (by intro c fz e;cases e)
theorem Hf (s:Bool) (ad:Option Addr) (c:Nat) (w:World) :
    Calls prog 171 #[.agg #[.bool s,.slice ad 0 c]] w (aZ w (.string (zs 0))):=by
 rw[zO];go_enter func171,ntmps171;go_wp2;go_ret;exact⟨rfl,(Ext.refl w).alloc _⟩
set_option maxHeartbeats 4000000 in
theorem Hg (N:Nat) (ad:Option Addr) (n c:Nat) (w:World) (hm:eV w (.slice ad n c) N) (dX:0<n) (hn:n<=10000) (g:Gd w) :
    Calls prog 171 #[.agg #[.bool true,.slice ad n c]] w (aZ w (.string (zs (jg true N)))):=by
 obtain⟨L,hL,cL,E9⟩:=hm;obtain⟨uM,ca,ba,oa,heq,XW,hca,y6,Fa⟩:=hL;simp only[Value.slice.injEq] at heq;obtain⟨rfl,Og,rfl⟩:=heq;have HN:=ai Og;have Qa:=ai E9;have HC:=ai cL;rw[← Og] at XW y6 Fa;have H1:=ai y6;have H2:=ai Fa;have HG:=ai g;clear Og E9 y6 Fa cL g;refine(callsIn_wide (n:=5)).1 ?_;refine callsIn_of_wp_marks func171 rfl trivial ?_ rfl;refine wpIn_wide.2 ?_;simp only[ntmps171,List.size_toArray,List.length_cons,List.length_nil,Nat.reduceAdd,Nat.reduceSub,Array.replicate_succ,Array.replicate_zero,List.push_toArray,List.append_toArray,List.nil_append,List.cons_append];have fp:Ik (w.heap.size+1) (w.heap.size+1) [] ((w.alloc (.cells #[.bool true,.slice ad n c] 216)).alloc (.cells #[.pointer none,.slice none 0 0] 276)):=by
  have:=Lib.fresh_isBuilder 276 5 (w.alloc (.cells #[.bool true,.slice ad n c] 216));simpa using this
 have Oe:eN w (.slice ad n c) true ((w.alloc (.cells #[.bool true,.slice ad n c] 216)).alloc (.cells #[.pointer none,.slice none 0 0] 276)) [] :=
  ⟨fp,(ay.new w #[.bool true,.slice ad n c] 216).alloc _,((Ext.refl w).alloc _).alloc _⟩
 have kp:=ai Oe;clear Oe fp;go_wp2_with (first
  | (go_at_call 239;refine(uV (w.heap.size+1) (w.heap.size+1) [] 45 _ kp.o.b (by simp) (by simp)).mono ?_;rintro e w1 ⟨rfl,hbp⟩;have AR:=kp.o.write hbp;have c0:=AR.box.cell 0 rfl;have c1:=AR.box.cell 1 rfl;have gh:=AR.b.heap)
  | (go_at_call 240;refine(callsIn_wide.1 (oO Fence.wide 1 trivial rfl _ _ _ _)).mono ?_;rintro e w' ⟨rfl,rfl⟩))
 obtain⟨Bs,GM⟩:∃ Bs,Bs=w1.heap.size:=⟨_,rfl⟩
 obtain⟨WB,Uv⟩:∃ WB,WB=w1:=⟨_,rfl⟩
 have Gr:eN w (.slice ad n c) true WB (Lib.byteCells (Mz true)):=by rw[Uv];exact AR
 rw[← Uv] at GM ⊢;rw[← GM];obtain⟨W3,AY⟩:∃ W3,WB.alloc (.cells #[.slice ad n c] 214)=W3:=⟨_,rfl⟩
 rw[AY];clear c0 c1 gh AR hbp Uv kp;have ow:ay W3 Bs #[.slice ad n c] 214:=by rw[← AY,GM];exact ay.new WB #[.slice ad n c] 214
 have jK:eN w (.slice ad n c) true W3 (Lib.byteCells (Mz true)):=by rw[← AY];exact Gr.grow ((Ext.refl WB).alloc _)
 have e3:Ext w W3:=jK.ext;have sz3:W3.heap.size=Bs+1:=by rw[← AY,GM];simp
 have sz4:w.heap.size+2<=Bs:=by
  obtain⟨cb,nq⟩:=Gr.b.heap;have:=(Array.getElem?_eq_some_iff.1 nq).1;omega
 clear AY Gr GM;refine(wpIn_wide (n:=5)).1 ?_;refine wpIn_rangeFunc_ownG (α:=Fin n) rfl af (gf:=271) (lb:=#[.pointer (some ⟨Bs,0,none⟩)]) rfl trivial (enters_of func271 ag rfl)
  (qJ Fence.wide 4 trivial rfl af Bs w.heap.size ba oa c ad L n ae W3 ae ae H1.o (ow.cell 0 rfl) (fun j hj=>(e3.cell (p:=⟨ba,oa+j,none⟩) (H1.o ae).2).trans (H2.o j hj)))
  eZ.trans (eZ.put (w:=W3) ae ae) (Below.refl _ _) (fun _=>rfl)
  (fun pre W=>∃ bs,eN w (.slice ad n c) true W bs/\ay W Bs #[.slice ad n c] 214/\(pre.length<n->bs.length<=1+20*pre.length) /\
   (∀ k,k<=n->pre=bk n k->bs=Lib.byteCells (Mz true ++ vi L k)))
  (fun _ _ _=>False)
  (fun pre A B row hs hg hr=>by
   obtain⟨bs,h1,h2,h3⟩:=hs;exact⟨bs,h1.sI hg (fun r e=>⟨by have:=(hr r e).1;omega,(hr r e).2⟩),h2.Ct hg (fun r e=>(hr r e).2),h3⟩)
  (fun _ _ _ _ _ hs _ _=>hs)
  ⟨_,jK,ow,fun _=>by simp[Lib.byteCells_length,Mz],fun k hk e=>by
   have E6:k=0:=by have:=congrArg List.length e;rw[pF n k hk] at this;simpa using this.symm
   subst E6;rw[pg,List.append_nil]⟩
  (fun x=>{ tmps:=#[.agg #[.bool true,.slice ad n c],.pointer (some ⟨w.heap.size,0,none⟩),.string ⟨#[]⟩,.pointer (some ⟨w.heap.size+1,0,none⟩),.int .i64 (x.val:Int),.int .u64 ((L[x.val]?.getD 0:Nat):Int),undef,.pointer (some ⟨w.heap.size,1,none⟩),.slice ad n c,.int .i64 (n:Int),.bool false,.pointer (some ⟨w.heap.size,0,none⟩),.bool true,.nilIface,.pointer (some ⟨w.heap.size,1,none⟩),.slice ad n c,.func (.func 271) #[] #[.pointer (some ⟨Bs,0,none⟩)],.int .i64 (x.val:Int),.int .u64 ((L[x.val]?.getD 0:Nat):Int),undef,undef,undef,undef,undef,undef,undef,undef,undef,undef,undef,undef,undef,undef,undef],defers:=[] }) ?assign ?body ?done ?stop
 case assign =>
  intro l x W K hK;gi_wp2;exact hK
 case body =>
  rintro l pre x W ⟨bs,hS,hB,yh,hQ⟩ hlen;obtain⟨i,jL⟩:=x;obtain⟨x,hx⟩:∃ x,x=L[i]?.getD 0:=⟨_,rfl⟩
  have pQ:x<1000000000:=by rw[hx];exact cv af HC.o.lt i
  obtain⟨D,hD⟩:∃ D,D=Lib.decDigits x:=⟨_,rfl⟩
  have hD9:D.length<=9:=by rw[hD];exact Bk pQ
  have hbl:bs.length<=1000000:=by have:=yh hlen;omega
  have HX:=ai hx;have HD:=ai hD;have HQ:=ai hQ;have HS:=ai hS;have HB:=ai hB;simp only[← hx];clear hx hD hQ hS hB;have GC:=HS.o.ext;have Od:w.heap.size<=W.heap.size:=GC.size;by_cases hi:i<n-1
  ·have BZ:(i:Int)<(n:Int)-1:=ae;gi_wp2_with (first
    | (refine⟨trivial,?_⟩;gi_at_call 241;refine(CallsIn.inRound l (callsIn_wide.2 (I9 x pQ _ (HG.o.ext GC)))).mono ?_;rintro e w1 ⟨rfl,e1⟩;rw[← HD.o];have lA:=HS.o.grow e1;have OF:=HB.o.ext e1;have c1:=lA.box.cell 1 rfl)
    | (refine⟨trivial,?_⟩;gi_at_call 242;(with_reducible refine(CallsIn.inRound l (callsIn_wide.2 (gO (w.heap.size+1) (w.heap.size+1) _ _ _ lA.b (by simp;omega) (by have:=lA.ext.size;have:=sz4;have:=lA.b.heap;obtain⟨cb,nq⟩:=this;have:=(Array.getElem?_eq_some_iff.1 nq).1;omega)))).mono ?_);rintro e w2 ⟨rfl,Oz⟩;have y8:=lA.write Oz;have c2:=y8.box.cell 1 rfl)
    | (refine⟨trivial,?_⟩;gi_at_call 242;refine(CallsIn.inRound l (callsIn_wide.2 (gO (w.heap.size+1) (w.heap.size+1) _ _ _ y8.b (by simp[Lib.strCells_length,ByteArray.size];omega) (by have:=y8.b.heap;obtain⟨cb,nq⟩:=this;have:=(Array.getElem?_eq_some_iff.1 nq).1;omega)))).mono ?_;rintro e w3 ⟨rfl,wT⟩;have KZ:=y8.write wT))
   have k1:=rN (n₀:=w.heap.size) e1 Od HB.o;have k2:=jD (n₀:=w.heap.size) lA.b Oz ae OF ae;have hB2:ay w2 Bs #[.slice ad n c] 214:=⟨k2.2.2.trans OF.out⟩
   have k3:=jD (n₀:=w.heap.size) y8.b wT ae hB2 ae;refine⟨((k1.1.trans k2.1).trans k3.1).from _,(k1.2.trans k2.2).trans k3.2,_,KZ,⟨k3.2.2.trans hB2.out⟩,?_,?_⟩
   ·intro h2;simp only[List.length_append,List.length_singleton,Lib.strCells_length] at h2 ⊢;have:=yh hlen;simp[ByteArray.size];omega
   ·intro k hk e;obtain⟨k',rfl,rfl,AW⟩:=sk hk e;rw[HQ.o k' ae rfl,yI HC.o ae (by rw[← HN.o];exact jL) (by rw[← HN.o];exact AW) (by rw[← HN.o];omega),← HX.o,tF,gr,gr];unfold x9;rw[← HD.o];simp[byteCells_append]
  ·have BZ:¬ (i:Int)<(n:Int)-1:=ae;gi_wp2_with (first
    | (refine⟨trivial,?_⟩;gi_at_call 241;refine(CallsIn.inRound l (callsIn_wide.2 (I9 x pQ _ (HG.o.ext GC)))).mono ?_;rintro e w1 ⟨rfl,e1⟩;rw[← HD.o];have lA:=HS.o.grow e1;have OF:=HB.o.ext e1;have c1:=lA.box.cell 1 rfl)
    | (refine⟨trivial,?_⟩;gi_at_call 242;refine(CallsIn.inRound l (callsIn_wide.2 (gO (w.heap.size+1) (w.heap.size+1) _ _ _ lA.b (by simp[ByteArray.size];omega) (by have:=lA.b.heap;obtain⟨cb,nq⟩:=this;have:=(Array.getElem?_eq_some_iff.1 nq).1;omega)))).mono ?_;rintro e w3 ⟨rfl,wT⟩;have KZ:=lA.write wT))
   have k1:=rN (n₀:=w.heap.size) e1 Od HB.o;have k3:=jD (n₀:=w.heap.size) lA.b wT ae OF ae;refine⟨(k1.1.trans k3.1).from _,k1.2.trans k3.2,_,KZ,⟨k3.2.2.trans OF.out⟩,?_,?_⟩
   ·intro h2;simp only[List.length_append,List.length_singleton,Lib.strCells_length] at h2 ⊢;have:=yh hlen;simp[ByteArray.size];omega
   ·intro k hk e;obtain⟨k',rfl,rfl,AW⟩:=sk hk e;obtain rfl:k'=0:=ae;rw[HQ.o 0 ae rfl,pg,Nat.zero_add,vh (by rw[← HN.o];exact jL) (by rw[← HN.o];exact AW),← HX.o,← HD.o,gr];simp[byteCells_append]
 case done =>
  rintro D ys W hD rfl ⟨bs,hS,hB,yh,hQ⟩ hK;have ow:=hQ n (Nat.le_refl _) rfl;have c8:L≠[]:=by intro e;have:=HN.o;rw[e] at this;simp at this;omega
  have hN0:N≠0:=by have:=HC.o.pos af c8;have:=Qa.o;omega
  have k9:bs=Lib.byteCells (zl (jg true N)):=by rw[ow,L6 _ _ hN0,HN.o,yJ _ c8,Qa.o]
  subst k9;clear ow hQ;have HS:=ai hS;have HZ:=ai hK;clear hS hK;go_wp2_with (first
   | (go_at_call 243;refine(Builder_String_any_k (w.heap.size+1) (w.heap.size+1) _ _ (Lib.IsBuilderF.of HS.o.b) (by have:=HS.o.b.heap;obtain⟨cb,nq⟩:=this;have:=(Array.getElem?_eq_some_iff.1 nq).1;omega)).mono ?_;rintro e w4 ⟨rfl,_,KY,hk4⟩))
  have Ux:w4.heap[D]?=some (.deferred (some [])):=hk4 D _ HZ.o (by intro e;cases e;obtain⟨cb,nq⟩:=HS.o.b.heap;rw[HZ.o] at nq;cases nq) (by intro c fz e;cases e);refine⟨by simp,.inl ⟨_,_,rfl,run_takeDeferred Ux,?_⟩⟩;exact⟨.string (zs (jg true N)),by simp[results,results171,go_sem,zs],rfl,Ext.grown (show Ext w w4 from Below.trans HS.o.ext (Below.mono KY ae)) (grownBy_putObj' w4 D _) (fun k e=>by cases e;have:=e3.size;omega)⟩
 case stop =>
  rintro D c pre W _ _ h _;exact h.elim
set_option maxHeartbeats 4000000 in
theorem En (N:Nat) (ad:Option Addr) (n c:Nat) (w:World) (hm:eV w (.slice ad n c) N) (dX:0<n) (hn:n<=10000) (g:Gd w) :
    Calls prog 171 #[.agg #[.bool false,.slice ad n c]] w (aZ w (.string (zs (jg false N)))):=by
 obtain⟨L,hL,cL,E9⟩:=hm;obtain⟨uM,ca,ba,oa,heq,XW,hca,y6,Fa⟩:=hL;simp only[Value.slice.injEq] at heq;obtain⟨rfl,Og,rfl⟩:=heq;have HN:=ai Og;have Qa:=ai E9;have HC:=ai cL;rw[← Og] at XW y6 Fa;have H1:=ai y6;have H2:=ai Fa;have HG:=ai g;clear Og E9 y6 Fa cL g;refine(callsIn_wide (n:=5)).1 ?_;refine callsIn_of_wp_marks func171 rfl trivial ?_ rfl;refine wpIn_wide.2 ?_;simp only[ntmps171,List.size_toArray,List.length_cons,List.length_nil,Nat.reduceAdd,Nat.reduceSub,Array.replicate_succ,Array.replicate_zero,List.push_toArray,List.append_toArray,List.nil_append,List.cons_append];have fp:Ik (w.heap.size+1) (w.heap.size+1) [] ((w.alloc (.cells #[.bool false,.slice ad n c] 216)).alloc (.cells #[.pointer none,.slice none 0 0] 276)):=by
  have:=Lib.fresh_isBuilder 276 5 (w.alloc (.cells #[.bool false,.slice ad n c] 216));simpa using this
 have Oe:eN w (.slice ad n c) false ((w.alloc (.cells #[.bool false,.slice ad n c] 216)).alloc (.cells #[.pointer none,.slice none 0 0] 276)) [] :=
  ⟨fp,(ay.new w #[.bool false,.slice ad n c] 216).alloc _,((Ext.refl w).alloc _).alloc _⟩
 have kp:=ai Oe;clear Oe fp;go_wp2_with (first
  | (go_at_call 239;refine(uV (w.heap.size+1) (w.heap.size+1) [] 45 _ kp.o.b (by simp) (by simp)).mono ?_;rintro e w1 ⟨rfl,hbp⟩;have AR:=kp.o.write hbp;have c0:=AR.box.cell 0 rfl;have c1:=AR.box.cell 1 rfl;have gh:=AR.b.heap)
  | (go_at_call 240;refine(callsIn_wide.1 (oO Fence.wide 1 trivial rfl _ _ _ _)).mono ?_;rintro e w' ⟨rfl,rfl⟩))
 obtain⟨Bs,XU⟩:∃ Bs,Bs=w.heap.size+1+1:=⟨_,rfl⟩
 obtain⟨WB,Uv⟩:∃ WB,WB=((w.alloc (.cells #[.bool false,.slice ad n c] 216)).alloc (.cells #[.pointer none,.slice none 0 0] 276)):=⟨_,rfl⟩
 have Gr:eN w (.slice ad n c) false WB (Lib.byteCells (Mz false)):=by rw[Uv];exact kp.o
 have GM:Bs=WB.heap.size:=by rw[Uv,XU];simp
 rw[← Uv];rw[← XU];obtain⟨W3,AY⟩:∃ W3,WB.alloc (.cells #[.slice ad n c] 214)=W3:=⟨_,rfl⟩
 rw[AY];clear Uv kp XU;have ow:ay W3 Bs #[.slice ad n c] 214:=by rw[← AY,GM];exact ay.new WB #[.slice ad n c] 214
 have jK:eN w (.slice ad n c) false W3 (Lib.byteCells (Mz false)):=by rw[← AY];exact Gr.grow ((Ext.refl WB).alloc _)
 have e3:Ext w W3:=jK.ext;have sz3:W3.heap.size=Bs+1:=by rw[← AY,GM];simp
 have sz4:w.heap.size+2<=Bs:=by
  obtain⟨cb,nq⟩:=Gr.b.heap;have:=(Array.getElem?_eq_some_iff.1 nq).1;omega
 clear AY Gr GM;refine(wpIn_wide (n:=5)).1 ?_;refine wpIn_rangeFunc_ownG (α:=Fin n) rfl af (gf:=271) (lb:=#[.pointer (some ⟨Bs,0,none⟩)]) rfl trivial (enters_of func271 ag rfl)
  (qJ Fence.wide 4 trivial rfl af Bs w.heap.size ba oa c ad L n ae W3 ae ae H1.o (ow.cell 0 rfl) (fun j hj=>(e3.cell (p:=⟨ba,oa+j,none⟩) (H1.o ae).2).trans (H2.o j hj)))
  eZ.trans (eZ.put (w:=W3) ae ae) (Below.refl _ _) (fun _=>rfl)
  (fun pre W=>∃ bs,eN w (.slice ad n c) false W bs/\ay W Bs #[.slice ad n c] 214/\(pre.length<n->bs.length<=1+20*pre.length) /\
   (∀ k,k<=n->pre=bk n k->bs=Lib.byteCells (Mz false ++ vi L k)))
  (fun _ _ _=>False)
  (fun pre A B row hs hg hr=>by
   obtain⟨bs,h1,h2,h3⟩:=hs;exact⟨bs,h1.sI hg (fun r e=>⟨by have:=(hr r e).1;omega,(hr r e).2⟩),h2.Ct hg (fun r e=>(hr r e).2),h3⟩)
  (fun _ _ _ _ _ hs _ _=>hs)
  ⟨_,jK,ow,fun _=>by simp[Lib.byteCells_length,Mz],fun k hk e=>by
   have E6:k=0:=by have:=congrArg List.length e;rw[pF n k hk] at this;simpa using this.symm
   subst E6;rw[pg,List.append_nil]⟩
  (fun x=>{ tmps:=#[.agg #[.bool false,.slice ad n c],.pointer (some ⟨w.heap.size,0,none⟩),.string ⟨#[]⟩,.pointer (some ⟨w.heap.size+1,0,none⟩),.int .i64 (x.val:Int),.int .u64 ((L[x.val]?.getD 0:Nat):Int),undef,.pointer (some ⟨w.heap.size,1,none⟩),.slice ad n c,.int .i64 (n:Int),.bool false,.pointer (some ⟨w.heap.size,0,none⟩),.bool false,undef,.pointer (some ⟨w.heap.size,1,none⟩),.slice ad n c,.func (.func 271) #[] #[.pointer (some ⟨Bs,0,none⟩)],.int .i64 (x.val:Int),.int .u64 ((L[x.val]?.getD 0:Nat):Int),undef,undef,undef,undef,undef,undef,undef,undef,undef,undef,undef,undef,undef,undef,undef],defers:=[] }) ?assign ?body ?done ?stop
 case assign =>
  intro l x W K hK;gi_wp2;exact hK
 case body =>
  rintro l pre x W ⟨bs,hS,hB,yh,hQ⟩ hlen;obtain⟨i,jL⟩:=x;obtain⟨x,hx⟩:∃ x,x=L[i]?.getD 0:=⟨_,rfl⟩
  have pQ:x<1000000000:=by rw[hx];exact cv af HC.o.lt i
  obtain⟨D,hD⟩:∃ D,D=Lib.decDigits x:=⟨_,rfl⟩
  have hD9:D.length<=9:=by rw[hD];exact Bk pQ
  have hbl:bs.length<=1000000:=by have:=yh hlen;omega
  have HX:=ai hx;have HD:=ai hD;have HQ:=ai hQ;have HS:=ai hS;have HB:=ai hB;simp only[← hx];clear hx hD hQ hS hB;have GC:=HS.o.ext;have Od:w.heap.size<=W.heap.size:=GC.size;by_cases hi:i<n-1
  ·have BZ:(i:Int)<(n:Int)-1:=ae;gi_wp2_with (first
    | (refine⟨trivial,?_⟩;gi_at_call 241;refine(CallsIn.inRound l (callsIn_wide.2 (I9 x pQ _ (HG.o.ext GC)))).mono ?_;rintro e w1 ⟨rfl,e1⟩;rw[← HD.o];have lA:=HS.o.grow e1;have OF:=HB.o.ext e1;have c1:=lA.box.cell 1 rfl)
    | (refine⟨trivial,?_⟩;gi_at_call 242;(with_reducible refine(CallsIn.inRound l (callsIn_wide.2 (gO (w.heap.size+1) (w.heap.size+1) _ _ _ lA.b (by simp;omega) (by have:=lA.ext.size;have:=sz4;have:=lA.b.heap;obtain⟨cb,nq⟩:=this;have:=(Array.getElem?_eq_some_iff.1 nq).1;omega)))).mono ?_);rintro e w2 ⟨rfl,Oz⟩;have y8:=lA.write Oz;have c2:=y8.box.cell 1 rfl)
    | (refine⟨trivial,?_⟩;gi_at_call 242;refine(CallsIn.inRound l (callsIn_wide.2 (gO (w.heap.size+1) (w.heap.size+1) _ _ _ y8.b (by simp[Lib.strCells_length,ByteArray.size];omega) (by have:=y8.b.heap;obtain⟨cb,nq⟩:=this;have:=(Array.getElem?_eq_some_iff.1 nq).1;omega)))).mono ?_;rintro e w3 ⟨rfl,wT⟩;have KZ:=y8.write wT))
   have k1:=rN (n₀:=w.heap.size) e1 Od HB.o;have k2:=jD (n₀:=w.heap.size) lA.b Oz ae OF ae;have hB2:ay w2 Bs #[.slice ad n c] 214:=⟨k2.2.2.trans OF.out⟩
   have k3:=jD (n₀:=w.heap.size) y8.b wT ae hB2 ae;refine⟨((k1.1.trans k2.1).trans k3.1).from _,(k1.2.trans k2.2).trans k3.2,_,KZ,⟨k3.2.2.trans hB2.out⟩,?_,?_⟩
   ·intro h2;simp only[List.length_append,List.length_singleton,Lib.strCells_length] at h2 ⊢;have:=yh hlen;simp[ByteArray.size];omega
   ·intro k hk e;obtain⟨k',rfl,rfl,AW⟩:=sk hk e;rw[HQ.o k' ae rfl,yI HC.o ae (by rw[← HN.o];exact jL) (by rw[← HN.o];exact AW) (by rw[← HN.o];omega),← HX.o,tF,gr,gr];unfold x9;rw[← HD.o];simp[byteCells_append]
  ·have BZ:¬ (i:Int)<(n:Int)-1:=ae;gi_wp2_with (first
    | (refine⟨trivial,?_⟩;gi_at_call 241;refine(CallsIn.inRound l (callsIn_wide.2 (I9 x pQ _ (HG.o.ext GC)))).mono ?_;rintro e w1 ⟨rfl,e1⟩;rw[← HD.o];have lA:=HS.o.grow e1;have OF:=HB.o.ext e1;have c1:=lA.box.cell 1 rfl)
    | (refine⟨trivial,?_⟩;gi_at_call 242;refine(CallsIn.inRound l (callsIn_wide.2 (gO (w.heap.size+1) (w.heap.size+1) _ _ _ lA.b (by simp[ByteArray.size];omega) (by have:=lA.b.heap;obtain⟨cb,nq⟩:=this;have:=(Array.getElem?_eq_some_iff.1 nq).1;omega)))).mono ?_;rintro e w3 ⟨rfl,wT⟩;have KZ:=lA.write wT))
   have k1:=rN (n₀:=w.heap.size) e1 Od HB.o;have k3:=jD (n₀:=w.heap.size) lA.b wT ae OF ae;refine⟨(k1.1.trans k3.1).from _,k1.2.trans k3.2,_,KZ,⟨k3.2.2.trans OF.out⟩,?_,?_⟩
   ·intro h2;simp only[List.length_append,List.length_singleton,Lib.strCells_length] at h2 ⊢;have:=yh hlen;simp[ByteArray.size];omega
   ·intro k hk e;obtain⟨k',rfl,rfl,AW⟩:=sk hk e;obtain rfl:k'=0:=ae;rw[HQ.o 0 ae rfl,pg,Nat.zero_add,vh (by rw[← HN.o];exact jL) (by rw[← HN.o];exact AW),← HX.o,← HD.o,gr];simp[byteCells_append]
 case done =>
  rintro D ys W hD rfl ⟨bs,hS,hB,yh,hQ⟩ hK;have ow:=hQ n (Nat.le_refl _) rfl;have c8:L≠[]:=by intro e;have:=HN.o;rw[e] at this;simp at this;omega
  have hN0:N≠0:=by have:=HC.o.pos af c8;have:=Qa.o;omega
  have k9:bs=Lib.byteCells (zl (jg false N)):=by rw[ow,L6 _ _ hN0,HN.o,yJ _ c8,Qa.o]
  subst k9;clear ow hQ;have HS:=ai hS;have HZ:=ai hK;clear hS hK;go_wp2_with (first
   | (go_at_call 243;refine(Builder_String_any_k (w.heap.size+1) (w.heap.size+1) _ _ (Lib.IsBuilderF.of HS.o.b) (by have:=HS.o.b.heap;obtain⟨cb,nq⟩:=this;have:=(Array.getElem?_eq_some_iff.1 nq).1;omega)).mono ?_;rintro e w4 ⟨rfl,_,KY,hk4⟩))
  have Ux:w4.heap[D]?=some (.deferred (some [])):=hk4 D _ HZ.o (by intro e;cases e;obtain⟨cb,nq⟩:=HS.o.b.heap;rw[HZ.o] at nq;cases nq) (by intro c fz e;cases e);refine⟨by simp,.inl ⟨_,_,rfl,run_takeDeferred Ux,?_⟩⟩;exact⟨.string (zs (jg false N)),by simp[results,results171,go_sem,zs],rfl,Ext.grown (show Ext w w4 from Below.trans HS.o.ext (Below.mono KY ae)) (grownBy_putObj' w4 D _) (fun k e=>by cases e;have:=e3.size;omega)⟩
 case stop =>
  rintro D c pre W _ _ h _;exact h.elim
