/- Part 39. -/
import Derived.Test.YtmahadmefplbnaaGreatDoorQVLB
import Derived.Test.YtmahadmefplbnaaGreatDoorQVL38
import Derived.IntWalk
set_option maxRecDepth 100000
set_option maxHeartbeats 2000000
open Go.Proofs.Tryz
set_option linter.unusedSimpArgs false
set_option linter.unusedVariables false
namespace Go.Proofs.YtmahadmefplbnaaGreatDoor
open Go Go.RowKit
def TG(s:ByteArray):Prop:=s.size<=1000000/\(rq s=true->∃ x,s=qs x/\QB 24 x)
theorem TG.q{x:Rat}(h:QB 7 x):TG (qs x):=⟨h.sz af,fun _=>⟨x,rfl,h.mono af⟩⟩
theorem TG.by{s:ByteArray}(h:s.size<=24):TG s:=⟨Nat.le_trans h af,fun hr=>by obtain⟨q,e⟩:=IA hr;rw[e] at h;exact⟨q,e,qt h⟩⟩
theorem K9{s:Nat->ByteArray}{mo:ByteArray}(h0:TG (s 0))(h1:TG (s 1))(h2:TG (s 2))(hm:TG mo):Q3 s mo:=by
 have h:∀ j,j<3->TG (s j):=fun j hj=>by rcases (by omega:j=0∨j=1∨j=2) with rfl|rfl|rfl <;> assumption
 exact⟨fun j hj=>(h j hj).1,hm.1,fun j hj hr=>(h j hj).2 hr⟩
def Z4(a b c:ByteArray):Nat->ByteArray
 | 0=>a
 | 1=>b
 | _=>c
theorem qaK{s:ByteArray}(h:s.size<=24):QB 24 (qv s):=by
 by_cases e:∃ x,s=qs x
 ·obtain⟨x,rfl⟩:=e;rw[yP];exact qt h
 ·rw[qv,dif_neg e];exact(QB.int (n:=0) (k:=1) ⟨af⟩ af).mono af
theorem Ad{n k m K j:Nat}{a b:Nat->Rat}(ha:∀ i,i<n->i≠j->QB k (a i))(hj:∀ i,i<n->QB K (a i))(hb:∀ i,i<n->QB m (b i)):∀ i,i<=n->QB (1+i*(k+m+1)+if j<i then K else 0) (bD i (fun j=>a j*b j))
 | 0,_=>by simp only[bD];exact(QB.int (n:=0) (k:=1) ⟨af⟩ af).mono ae
 | i+1,hi=>by
  have h:=Ad ha hj hb i ae;rw[bD];by_cases e:i=j
  ·subst e;rw[if_neg (Nat.lt_irrefl _)] at h;rw[if_pos (Nat.lt_succ_self _)];exact(h.add ((hj i ae).mul (hb i ae))).mono (by rw[Nat.add_mul,Nat.one_mul];omega)
  ·refine(h.add ((ha i ae e).mul (hb i ae))).mono ?_;rw[Nat.add_mul,Nat.one_mul];by_cases h1:j<i
   ·rw[if_pos h1,if_pos ae];omega
   ·rw[if_neg h1,if_neg ae];omega
structure TOK(n:Nat)(p:Nat->V3)(t:Nat->ByteArray)(k:Nat):Prop where
 sz:∀ i,i<k->(t i).size<=1000000
 le:k<=1000000
 q:LY t k 200
 z:YZ (bH n p) (yq t)
theorem tok {n k j:Nat} {p:Nat->V3} {y:Nat->Rat} {b:ByteArray} {t:Nat->ByteArray} (hq:∀ i,i<n->cZ (p i)) (hn:n<=5) (hy:∀ i,i<2*n->QB 7 (y i)) (hb:b.size<=24) (h2:2*n<=k) (hk:k<=2*n+1)
    (h:∀ i,i<k->(i<2*n/\t i=qs (y i))∨(i=j/\t i=b)):TOK n p t k:=by
 have g:∀ i,i<k->TG (t i):=fun i hi=>by
  rcases h i hi with⟨hl,e⟩|⟨_,e⟩
  ·rw[e];exact TG.q (hy i hl)
  ·rw[e];exact TG.by hb
 have u:∀ i,i<2*n->QB 24 (yq t i):=fun i hi=>by
  rcases h i ae with⟨hl,e⟩|⟨_,e⟩
  ·rw[yq,e,yP];exact(hy i hl).mono af
  ·rw[yq,e];exact qaK hb
 have v:∀ i,i<2*n->i≠j->QB 7 (yq t i):=fun i hi hj=>by
  rcases h i ae with⟨hl,e⟩|⟨e,_⟩
  ·rw[yq,e,yP];exact hy i hl
  ·exact absurd e hj
 have w:∀ x i:Nat,i<=2*n->(1+i*(7+1+1)+if x<i then 24 else 0)<=199:=fun x i hi=>by split <;> omega
 exact⟨fun i hi=>(g i hi).1,ae,fun i hi hr=>let ⟨x,e,hx⟩:=(g i hi).2 hr;⟨x,e,hx.mono af⟩,
  ⟨fun k hk=>(Ad (n:=2*n) v u (fun i hi=>iP (Je hq i hi)) k hk).mono (w _ k hk),fun k hk j _=>(Ad (n:=2*n) v u (fun i hi=>iP (D5 hq i hi j)) k hk).mono (w _ k hk)⟩⟩
def Spo(n:Nat)(p:Nat->V3)(W:World)(b:Nat):Prop:=∃ (s:Nat->ByteArray) (mo:ByteArray) (t:Nat->ByteArray) (nk:Nat) (da:Option Addr) (dc:Nat),ay W b #[.string (s 0),.string (s 1),.string (s 2),.string mo,.slice da nk dc] 60/\Rs W (.slice da nk dc) nk t/\Q3 s mo/\rq (s 1)=true/\TOK n p t nk
def TU(X W:World)(b c N j:Nat)(y:Nat->Rat)(lC:ByteArray):Prop:=∃ t:Nat->ByteArray,cD X W 34 1 (.slice (some ⟨b,0,none⟩) N c) N (fun i => .string (t i))/\∀ i,i<N->t i=qs (y i)∨(i=j/\t i=lC)
section
variable {X W W':World} {b c N j:Nat} {y:Nat->Rat} {lC:ByteArray}
theorem TU.ext(h:TU X W b c N j y lC)(e:Ext W W'):TU X W' b c N j y lC:=let ⟨t,o,r⟩:=h;⟨t,o.ext e,r⟩
theorem TU.cell(h:TU X W b c N j y lC)(hj:j<N):∃ C u,ay W b C 34/\C[j]?=some (.string u):=by
 obtain⟨t,o,_⟩:=h;obtain⟨k,cap,C,e,_,hB,_,_,_,hc⟩:=o.aH ae;cases e;exact⟨C,t j,hB,hc j ae⟩
theorem TU.set(h:TU X W b c N j y lC)(hj:j<N):TU X (W.setCell ⟨b,j,none⟩ (.string lC)) b c N j y lC:=by
 obtain⟨t,o,r⟩:=h;refine⟨fun i=>if i=j then lC else t i,?_,fun i hi=>?_⟩
 ·obtain⟨k,cap,C,e,e2,e3,e4,e5,e6,e7⟩:=o.aH ae;cases e;refine Or.inr ⟨b,c,_,rfl,e2,e3.set j (.string lC),e4,e5,by rw[Array.size_setIfInBounds];exact e6,fun i hi=>?_⟩;by_cases e:i=j
  ·subst e;have hl:=(Array.getElem?_eq_some_iff.1 (e7 i hi)).1;simp[hl]
  ·simp only[if_neg e];rw[← e7 i hi,Array.getElem?_setIfInBounds_ne (fun e'=>e e'.symm)]
 ·by_cases e:i=j
  ·exact Or.inr ⟨e,if_pos e⟩
  ·simp only[if_neg e];exact(r i hi).imp id (fun h=>absurd h.1 e)
end
theorem Wr{w:World}{ad:Addr}{m c:Nat}{t:Nat->ByteArray}(h:Rs w (.slice (some ad) m c) m t):∀ j,j<m*1->w.cell? (ad.add j)=some (.string (t j)):=fun j hj=>by
 obtain⟨_,_,e,_,_,hc⟩:=h;cases e;obtain⟨a,e,h⟩:=hc j ae;cases e;exact h
theorem Ln{X w w':World}{v:Value}{N:Nat}{G H:Nat->Value}{a:Option Addr}{n c:Nat}(hA:App X w 34 1 v 0 N G H (.slice a n c) w')(hN:0<N):∃ k,a=some ⟨k,0,none⟩/\n=N/\cD X w' 34 1 (.slice (some ⟨k,0,none⟩) N c) N H:=by
 have o:cD X w' 34 1 (.slice a n c) N H:=by
  have:=hA.own;rw[Nat.zero_add] at this;exact this.congr fun i hi=>by rw[gM ae];congr 1
 obtain⟨k,cap,C,e,_⟩:=o.aH hN;cases e;exact⟨k,rfl,rfl,o⟩
theorem Nh{X w w':World}{v:Value}{N:Nat}{y:Nat->Rat}{b:ByteArray}{a:Option Addr}{n c:Nat}(hA:App X w 34 1 v N 1 (fun i => .string (qs (y i))) (fun _ => .string b) (.slice a n c) w'):n=N+1/\cD X w' 34 1 (.slice a (N+1) c) (N+1) (fun i => .string (if i<N then qs (y i) else b)):=by
 have o:=hA.own.congr (G':=fun i => .string (if i<N then qs (y i) else b)) fun i hi=>by
  by_cases h:i<N
  ·rw[jF ae,if_pos h]
  ·rw[gM ae,if_neg h]
 obtain⟨_,_,e⟩:=o.yd;cases e;exact⟨rfl,o⟩
theorem qaC{a:Int}{n:Nat}(h:0<=a)(hn:0<n):∃ j:Nat,a.tmod ((n:Nat):Int)=(j:Int)/\j<n:=by
 refine⟨(a.tmod (n:Int)).toNat,?_,?_⟩
 ·rw[Int.tmod_eq_emod_of_nonneg h];have:=Int.emod_nonneg a (show(n:Int)≠0 by omega);omega
 ·rw[Int.tmod_eq_emod_of_nonneg h];have:=Int.emod_nonneg a (show(n:Int)≠0 by omega);have:=Int.emod_lt_of_pos a (show(0:Int)<n by omega);omega
theorem qaD{n:Int}(h:0<=n):∃ q:Int,n.tmod 6=q/\(q=0∨q=1∨q=2∨q=3∨q=4∨q=5):=⟨_,rfl,by rw[Int.tmod_eq_emod_of_nonneg h];omega⟩
theorem Jg{is:Nat->Bool}{i:Nat}(h:is i=true):∀ {N:Nat},i<N->∃ r,td is N=td is i ++ i :: r
 | N+1,hi=>by
  by_cases e:i=N
  ·subst e;exact⟨[],pB h⟩
  ·obtain⟨r,hr⟩:=Jg h (N:=N) ae;cases hN:is N with
   | true=>exact⟨r ++ [N],by rw[pB hN,hr,List.append_assoc];rfl⟩
   | false=>exact⟨r,by rw[A8 hN,hr]⟩
theorem X9{is:Nat->Bool}{i N c:Nat}(h:is i=true)(hi:i<N)(hc:c=(td is i).length):c<(td is N).length/\(td is N)[c]?.getD 0=i:=by
 obtain⟨r,hr⟩:=Jg h hi;subst hc;rw[hr];exact⟨by rw[List.length_append,List.length_cons];omega,by rw[List.getElem?_append_right (Nat.le_refl _),Nat.sub_self];rfl⟩
theorem qb8(s:Nat->ByteArray)(mo:ByteArray)(r1:rq (s 1)=true):(DV s mo=false/\rq (s 0)=false)∨(DV s mo=false/\rq (s 0)=true/\rq (s 2)=false)∨(DV s mo=false/\rq (s 0)=true/\rq (s 2)=true/\rq mo=false)∨(DV s mo=true/\rq (s 0)=true/\rq (s 2)=true/\rq mo=true):=by
 unfold DV;cases h0:rq (s 0) <;> cases h2:rq (s 2) <;> cases h3:rq mo <;> simp[r1]
section
variable {vo:Option Addr} {n cap:Nat} {p:Nat->V3} {w:World} {s:Nat->ByteArray} {mo:ByteArray} {da:Option Addr} {m dc:Nat} (g:Gd w) (hl:qK w vo n p) (hq:∀ i,i<n->cZ (p i)) (dX:0<n) (hn:n<=60) (hf:Q3 s mo)
include g hl hq dX hn hf
theorem IC(h:rq (s 0)=false∨rq (s 2)=false):Calls prog 39 #[.slice vo n cap,.agg #[.string (s 0),.string (s 1),.string (s 2),.string mo,.slice da m dc]] w (aZ w (.tuple #[.slice none 0 0,.int .i64 2])):=by
 refine(I7 vo n cap p w g hl hq dX hn s mo da m dc hf).mono ?_;rintro e w1 ⟨e1,⟨h0,_,h2,_⟩|⟨_,he⟩⟩
 ·rcases h with h|h
  ·exact absurd (h.symm.trans h0) af
  ·exact absurd (h.symm.trans h2) af
 ·exact⟨he,e1⟩
theorem CT(h0:rq (s 0)=true)(h1:rq (s 1)=true)(h2:rq (s 2)=true):Calls prog 39 #[.slice vo n cap,.agg #[.string (s 0),.string (s 1),.string (s 2),.string mo,.slice da m dc]] w (fun e w'=>∃ a c,e = .returned (.tuple #[.slice a n c,.int .i64 0])/\Ext w w'/\∀ i,i<n->∃ la,a=some la/\w'.cell? (la.add i)=some (.string (qs (cS p (yq s) i)))):=by
 refine(I7 vo n cap p w g hl hq dX hn s mo da m dc hf).mono ?_;rintro e w1 ⟨e1,⟨_,_,_,a,c,he,hc⟩|⟨h,_⟩⟩
 ·exact⟨a,c,he,e1,hc⟩
 ·exact absurd ⟨h0,h1,h2⟩ h
theorem Bd(h:DV s mo=false):Calls prog 40 #[.slice vo n cap,.agg #[.string (s 0),.string (s 1),.string (s 2),.string mo,.slice da m dc]] w (aZ w (.tuple #[.slice none 0 0,.int .i64 2])):=by
 refine(Jj vo n cap p w g hl hq dX hn s mo da m dc hf).mono ?_;rintro e w1 ⟨e1,⟨h0,_⟩|⟨_,he⟩⟩
 ·exact absurd (h.symm.trans h0) af
 ·exact⟨he,e1⟩
theorem OV(h:DV s mo=true):Calls prog 40 #[.slice vo n cap,.agg #[.string (s 0),.string (s 1),.string (s 2),.string mo,.slice da m dc]] w (fun e w'=>∃ a l c,e = .returned (.tuple #[.slice a l c,.int .i64 0])/\Ext w w'/\l=(td (OW p s mo) n).length/\∀ j,j<l->∃ la,a=some la/\w'.cell? (la.add j)=some (.int .i64 (((td (OW p s mo) n)[j]?.getD 0:Nat):Int))):=by
 refine(Jj vo n cap p w g hl hq dX hn s mo da m dc hf).mono ?_;rintro e w1 ⟨e1,⟨_,a,l,c,he,X,hx⟩|⟨h0,_⟩⟩
 ·obtain⟨a',c',e2,_,_,hc⟩:=hx.rd;obtain⟨rfl,rfl,rfl⟩:=Value.slice.inj e2;exact⟨_,_,_,he,e1,rfl,hc⟩
 ·exact absurd (h.symm.trans h0) af
end
theorem wX(wo:Option Addr)(m j4:Nat)(c:Nat->Nat->Int)(Gs at_:Int)(lC:ByteArray)(w:World)(g:Gd w)(hw:Y0 w wo m c)(hc:∀ i j,-128<=c i j/\c i j<=127)(hh:0<=Gs/\Gs<=255)(ha:0<=at_/\at_<=255):Calls prog 10 #[.slice wo m j4,.agg #[.int .u8 Gs,.int .u8 at_,.string lC]] w (aZ w (.bool true)):=by
 have HG:=ai g;have HW:=ai hw;have HC:=ai hc;have HH:=ai hh;have HA:=ai ha;clear g hw hc hh ha;go_enter func10,ntmps10;go_upto_region 1 with fail
 refine aB (fun W=>Ext w W/\ay W (w.heap.size) (#[.int .u8 Gs,.int .u8 at_,.string lC]) 88) ⟨((Ext.refl w).alloc _),(ay.nw (#[.int .u8 Gs,.int .u8 at_,.string lC]) 88)⟩ ?_;rintro w1 ⟨e1,a7⟩;have aD:=ai e1;have ax:=ai a7;have aF:Hid (w.heap.size<=w.heap.size):=ai (Nat.le_refl _);clear e1 a7;rcases (by omega:5<m∨m=0∨(m<=5/\0<m/\24<lC.size)∨(m<=5/\0<m/\lC.size<=24)) with hok|hok|hok|hok
 ·have h5_:(5:Int)<((m:Nat):Int):=ae;go_wp2_with fail;refine cto (jC _ (HG.o.ext (aD.o))) fun w2 e2=>?_
  have aM:=ai (aD.o.trans e2);have az:=ai (ax.o.ext e2);clear e2;go_wp2_with fail;refine cto (jC _ (HG.o.ext (aM.o))) fun w3 e3=>?_
  have bA:=ai (aM.o.trans e3);have aA:=ai (az.o.ext e3);clear e3;go_wp2;go_ret;exact⟨rfl,bA.o⟩
 ·have h5_:¬ (5:Int)<((m:Nat):Int):=ae;have XY:((m:Nat):Int)=0:=ae;go_wp2_with fail;refine cto (jC _ (HG.o.ext (aD.o))) fun w2 e2=>?_
  have aM:=ai (aD.o.trans e2);have az:=ai (ax.o.ext e2);clear e2;go_wp2_with fail;refine cto (jC _ (HG.o.ext (aM.o))) fun w3 e3=>?_
  have bA:=ai (aM.o.trans e3);have aA:=ai (az.o.ext e3);clear e3;go_wp2;go_ret;exact⟨rfl,bA.o⟩
 ·have h5_:¬ (5:Int)<((m:Nat):Int):=ae;have XY:¬ ((m:Nat):Int)=0:=ae;have mF:(24:Int)<((lC.size:Nat):Int):=ae;go_wp2_with fail;refine cto (jC _ (HG.o.ext (aD.o))) fun w2 e2=>?_
  have aM:=ai (aD.o.trans e2);have az:=ai (ax.o.ext e2);clear e2;have aQ:=az.o.cell 2 rfl;go_wp2_with fail;refine cto (jC _ (HG.o.ext (aM.o))) fun w3 e3=>?_
  have bA:=ai (aM.o.trans e3);have aA:=ai (az.o.ext e3);clear e3 aQ;go_wp2;go_ret;exact⟨rfl,bA.o⟩
 ·obtain⟨uH,dX,Ur⟩:=hok;have h5_:¬ (5:Int)<((m:Nat):Int):=ae;have XY:¬ ((m:Nat):Int)=0:=ae;have mF:¬ (24:Int)<((lC.size:Nat):Int):=ae;have hz3:(decide ((5:Int)<(m:Int)) || (m:Int) == 0 || decide ((24:Int)<(lC.size:Int)))=false:=by simp only[h5_,decide_false,Bool.false_or,mF,Bool.or_false];exact beq_eq_false_iff_ne.2 XY
  go_wp2_with fail;refine cto (jC _ (HG.o.ext (aD.o))) fun w2 e2=>?_
  have aM:=ai (aD.o.trans e2);have az:=ai (ax.o.ext e2);clear e2;have aQ:=az.o.cell 2 rfl;go_wp2_with fail;refine(KK wo m j4 c _ (HG.o.ext (aM.o)) (HW.o.ext aM.o) HC.o uH).mono ?_;rintro e w3 ⟨ao,cap,rfl,e3,wK,N9⟩;have bA:=ai (aM.o.trans e3);have aA:=ai (az.o.ext e3);clear e3 aQ;have Tz:=ai N9;clear N9;have Vz:Hid (Fr w3 w3):=ai (Fr.refl _);have HXM:=bA;go_wp2_with fail;refine(DY ao m cap (l6 c) _ (HG.o.ext (bA.o)) (Tz.o.ext Vz.o.out) (fun i _=>dP c i) dX ae).mono ?_;rintro e w4 ⟨val,x,y,vd,rfl,e4,mF,N9,nM,rP,XM⟩;have bO:=ai (bA.o.trans e4);have aJ:=ai (aA.o.ext e4);have Vy:=ai (Vz.o.ext e4);clear e4;have qbr:=XM.rd (qI ae);obtain⟨dk,CD,rfl,_⟩:=XM;have HB:=ai mF;have HV:=ai N9;have HX:=ai nM;have HY:=ai rP;have HD:=ai qbr;clear mF N9 nM rP qbr;have Vw:Hid (Fr w4 w4):=ai (Fr.refl _);go_upto_region 7 with fail
  have su:Hid (w3.heap.size<=w4.heap.size):=ai (Nat.le_trans Vy.o.out.size ah);have qff:Hid (w4.heap.size<=w4.heap.size):=ai (Nat.le_trans Vw.o.out.size ah);refine aB (fun W=>Ext w W/\ay W (w.heap.size) (#[.int .u8 Gs,.int .u8 at_,.string lC]) 88/\Fr w3 W/\Fr w4 W/\ay W (w4.heap.size) (#[.string (qs (x 0)),.string (qs (x 1)),.string (qs (x 2)),.string (qs val),.slice (some ⟨dk,0,none⟩) (2*m) (2*m)]) 60) ⟨(bO.o.alloc _),(aJ.o.alloc _),(Vy.o.alloc _),(Vw.o.alloc _),(ay.nw (#[.string (qs (x 0)),.string (qs (x 1)),.string (qs (x 2)),.string (qs val),.slice (some ⟨dk,0,none⟩) (2*m) (2*m)]) 60)⟩ ?_;rintro w5 ⟨e5,eJ,UK,UI,fP⟩;have cX:=ai e5;have aT:=ai eJ;have JL:=ai UK;have qdy:=ai UI;have bI:=ai fP;have aS:Hid (w.heap.size<=w4.heap.size):=ai (bO.o.size);clear e5 eJ UK UI fP;have ca_:=(bI.o.alloc (.cells #[] 34)).cell 4 rfl;have pU:=bI.o.cell 4 rfl;go_upto_region 8 with(
   at_builtin;refine wpList_plain rfl fun K_ aL=>gI (X:=w3) (G:=fun _ => .string ⟨#[]⟩) (H:=fun i => .string (qs (y i))) (ad:=⟨dk,0,none⟩) (m:=2*m) (c:=2*m) (v:=.slice (some ⟨w5.heap.size,0,none⟩) 0 0) rfl rfl rfl jI j7 rfl (JL.o.alloc _).out (cD.empty (G:=fun _ => .string ⟨#[]⟩) (Nat.le_trans JL.o.out.size ah) (ay.nw (#[]) 34)) (fun _=>ae) (Wr (HD.o.ext (qdy.o.alloc _).out)) (fun _ _=>rfl) (by unfold maxLen;omega) ae (fun YS AH LW w6 iF=>aL _ _ ?_)
   have gd:Hid (Ext w w6):=ai (HXM.o.trans iF.mv.ext);have bC:Hid (ay w6 (w.heap.size) (#[.int .u8 Gs,.int .u8 at_,.string lC]) 88):=ai (iF.mv.aH (aT.o.alloc _) (cD.aU (cD.empty (G:=fun _ => .string ⟨#[]⟩) (Nat.le_trans JL.o.out.size ah) (ay.nw (#[]) 34)) (aT.o.alloc _) af));have qdz:Hid (Fr w3 w6):=ai ⟨iF.mv.ext⟩;have cx:Hid (ay w6 (w4.heap.size) (#[.string (qs (x 0)),.string (qs (x 1)),.string (qs (x 2)),.string (qs val),.slice (some ⟨dk,0,none⟩) (2*m) (2*m)]) 60):=ai (iF.mv.aH (bI.o.alloc _) (cD.aU (cD.empty (G:=fun _ => .string ⟨#[]⟩) (Nat.le_trans JL.o.out.size ah) (ay.nw (#[]) 34)) (bI.o.alloc _) af));obtain⟨db,rfl,rfl,QO⟩:=Ln iF ae;have JG:=ai QO;clear QO;clear iF pU;have pU:=cx.o.cell 4 rfl;have ym:=cx.o.free 4
  )
  refine aB (fun W=>Ext w W/\ay W (w.heap.size) (#[.int .u8 Gs,.int .u8 at_,.string lC]) 88/\Fr w3 W/\ay W (w4.heap.size) (#[.string (qs (x 0)),.string (qs (x 1)),.string (qs (x 2)),.string (qs val),.slice (some ⟨db,0,none⟩) (2*m) LW]) 60/\cD w3 W 34 1 (.slice (some ⟨db,0,none⟩) (2*m) LW) (2*m) (fun i => .string (qs (y i)))) ⟨(gd.o.setCell (aS.o) _),(bC.o.other (a:=⟨w4.heap.size,4,none⟩) _ (Nat.ne_of_lt aJ.o.lt)),(qdz.o.other (a:=⟨w4.heap.size,4,none⟩) _ (su.o)),(cx.o.set 4 (.slice (some ⟨db,0,none⟩) (2*m) LW)),(JG.o.other (a:=⟨w4.heap.size,4,none⟩) _ ((fun h_=>(cD.xC JG.o cx.o af) _ h_ rfl)))⟩ ?_;rintro w7 ⟨e7,oV,UJ,tQ,UG⟩;have ig:=ai e7;have cg:=ai oV;have zG:=ai UJ;have bj:=ai tQ;have iY:=ai UG;clear e7 oV UJ tQ UG pU ym;obtain⟨q6,hq6,hq_⟩:=qaD HH.o.1;have HQ6:=ai hq_;clear hq_;have aG:=cg.o.cell 0 rfl;go_upto_block 0 with fail
  clear aG;have LZ:=ai (fun(k:Nat) (t:Nat->ByteArray) (j:Nat) (h2:2*m<=k) (hk:k<=2*m+1) (h:∀ i,i<k->(i<2*m/\t i=qs (y i))∨(i=j/\t i=lC))=>tok (fun i _=>dP c i) uH HY.o Ur h2 hk h);go_cut [] from 54 to 101 (fun wx=>Ext w wx/\Gd wx/\qK wx ao m (l6 c)/\Spo m (l6 c) wx (w4.heap.size))
  case first =>
   rcases HQ6.o with rfl|rfl|rfl|rfl|rfl|rfl
   ·have aQ:=cg.o.cell 2 rfl;have cH:=bj.o.cell 0 rfl;have ji:=bj.o.free 0;go_wp2_with fail;go_meet;exact⟨(ig.o.setCell (aS.o) _),(HG.o.ext ((ig.o.setCell (aS.o) _))),Tz.o.ext (zG.o.other (a:=⟨w4.heap.size,0,none⟩) _ (su.o)).out,(Z4 lC (qs (x 1)) (qs (x 2))),(qs val),(fun i=>qs (y i)),_,_,_,(bj.o.set 0 (.string lC)),(iY.o.other (a:=⟨w4.heap.size,0,none⟩) _ ((fun h_=>(cD.xC iY.o bj.o af) _ h_ rfl))).rd,(K9 (TG.by Ur) (TG.q (HX.o 1 af)) (TG.q (HX.o 2 af)) (TG.q HV.o)),gU ((HX.o 1 af).mono af),LZ.o _ _ 0 (Nat.le_refl _) (Nat.le_succ _) (fun i hi=>Or.inl ⟨hi,rfl⟩)⟩
   ·have aQ:=cg.o.cell 2 rfl;have gK:=bj.o.cell 2 rfl;have nO:=bj.o.free 2;go_wp2_with fail;go_meet;exact⟨(ig.o.setCell (aS.o) _),(HG.o.ext ((ig.o.setCell (aS.o) _))),Tz.o.ext (zG.o.other (a:=⟨w4.heap.size,2,none⟩) _ (su.o)).out,(Z4 (qs (x 0)) (qs (x 1)) lC),(qs val),(fun i=>qs (y i)),_,_,_,(bj.o.set 2 (.string lC)),(iY.o.other (a:=⟨w4.heap.size,2,none⟩) _ ((fun h_=>(cD.xC iY.o bj.o af) _ h_ rfl))).rd,(K9 (TG.q (HX.o 0 af)) (TG.q (HX.o 1 af)) (TG.by Ur) (TG.q HV.o)),gU ((HX.o 1 af).mono af),LZ.o _ _ 0 (Nat.le_refl _) (Nat.le_succ _) (fun i hi=>Or.inl ⟨hi,rfl⟩)⟩
   ·have aQ:=cg.o.cell 2 rfl;have Er:=bj.o.cell 3 rfl;have Ee:=bj.o.free 3;go_wp2_with fail;go_meet;exact⟨(ig.o.setCell (aS.o) _),(HG.o.ext ((ig.o.setCell (aS.o) _))),Tz.o.ext (zG.o.other (a:=⟨w4.heap.size,3,none⟩) _ (su.o)).out,(Z4 (qs (x 0)) (qs (x 1)) (qs (x 2))),lC,(fun i=>qs (y i)),_,_,_,(bj.o.set 3 (.string lC)),(iY.o.other (a:=⟨w4.heap.size,3,none⟩) _ ((fun h_=>(cD.xC iY.o bj.o af) _ h_ rfl))).rd,(K9 (TG.q (HX.o 0 af)) (TG.q (HX.o 1 af)) (TG.q (HX.o 2 af)) (TG.by Ur)),gU ((HX.o 1 af).mono af),LZ.o _ _ 0 (Nat.le_refl _) (Nat.le_succ _) (fun i hi=>Or.inl ⟨hi,rfl⟩)⟩
   ·have jh:(0:Int)<((2*m:Nat):Int):=ae;have pU:=bj.o.cell 4 rfl;go_upto_region 17 with fail
    clear pU;obtain⟨j,hj,rT⟩:∃ j:Nat,at_.tmod ((2*m:Nat):Int)=(j:Int)/\j<2*m:=qaC HA.o.1 ae;have HJ:=ai rT;have hz4:¬ 2*(m:Int)=0:=ae;have XJ:at_.tmod (2*(m:Int))=(j:Int):=by rw[← hj];rfl
    have Gy:((j:Nat):Int)<2*(m:Int):=ae;have wa0:IntKind.i64.wrap at_=at_:=IntWalk.i64_in _ (by have:=HA.o;omega);go_wp2_with fail;have HDB:Hid (w3.heap.size<=db):=ai (iY.o.lt (dO.2 rfl)).1;go_wp2_with fail;refine aE [.val (.pointer (some ⟨w4.heap.size,4,none⟩)),.val (.pointer (some ⟨w4.heap.size,4,none⟩)),.val (.slice (some ⟨db,0,none⟩) (2*m) LW),.val (.pointer (some ⟨w.heap.size,1,none⟩)),.val (.int .u8 at_),.val (.int .i64 at_),.val (.pointer (some ⟨w4.heap.size,4,none⟩)),.val (.pointer (some ⟨w4.heap.size,4,none⟩)),.val (.slice (some ⟨db,0,none⟩) (2*m) LW),.val (.int .i64 ((2*m):Int)),.val (.int .i64 (j:Int)),.val (.pointer (some ⟨w.heap.size,2,none⟩)),.val (.string lC),.val (.pointer (some ⟨db,j,none⟩)),.ch] (fun L g W=>TU w3 W db LW (2*m) j y lC/\Fr w3 W) (S:=fun q=>q=db) ag ag ag (Mv.refl ig.o (fun q e=>e▸Nat.le_trans HXM.o.size HDB.o)) ?_ ?_ ?_ ?_ (fun fI w8 aK bW=>?_)
    ·exact fun g=>⟨⟨_,iY.o.drew,fun i hi=>Or.inl rfl⟩,zG.o.drew⟩
    ·exact fun L g W W1 h e=>⟨h.1.ext e,h.2.ext e⟩
    ·intro i v L g W hi h;have we:i≠14:=gJ hi rfl
     try simp only[bB we,bE we]
     exact h
    ·skip
     refine RI 6 (.pointer (some ⟨w4.heap.size,0,none⟩))<|R1 0<|J2 (fun aw=>aw.val 1) (fun aw=>(aw.mv.aH bj.o (fun e=>iY.o.aU bj.o af (dO.2 e.symm))).cell 4 rfl)<|RI 3 (.pointer (some ⟨w.heap.size,0,none⟩))<|J2 (fun aw=>aw.val 3) (fun aw=>(aw.mv.aH cg.o (fun e=>iY.o.aU cg.o af (dO.2 e.symm))).cell 1 rfl) ?_;refine RV (fun A_ aw K_ aL=>?_) ?_;· have qfL:=aw.val 4;go_simp;(try go_bits);exact du aL
     refine RI 6 (.pointer (some ⟨w4.heap.size,0,none⟩))<|R1 6<|J2 (fun aw=>aw.val 7) (fun aw=>(aw.mv.aH bj.o (fun e=>iY.o.aU bj.o af (dO.2 e.symm))).cell 4 rfl)<|R1 8 ?_;refine RV (fun A_ aw K_ aL=>?_) ?_;· have qfK:=aw.val 5;have qfJ:=aw.val 9;go_simp;(try go_bits);exact du aL
     refine RI 3 (.pointer (some ⟨w.heap.size,0,none⟩))<|J2 (fun aw=>aw.val 11) (fun aw=>(aw.mv.aH cg.o (fun e=>iY.o.aU cg.o af (dO.2 e.symm))).cell 2 rfl)<|R2 2 10 ?_;refine aN.cons (fun L_ g_ A_ W_ aw=>?_) ?_
     ·have qlE:=aw.val 13;have qlF:=aw.val 12;refine fl.ch fun K_ aL=>?_;obtain⟨C_,u_,S4,hu_⟩:=aw.e.1.cell HJ.o;have c_:=S4.cell j hu_;have f_:=S4.free j;have a8:=ai aw.e;have bU:=ai aw.mv;clear S4 hu_;go_simp;exact aL.o undef _ (bU.o.setCell (Or.inl rfl) _) ⟨a8.o.1.set HJ.o,a8.o.2.other _ HDB.o⟩
     exact aN.nil
    simp only[gm,Ke.value,b7,Act.put,aq,au,av,Nat.reduceAdd];have jQ:Hid (Ext w w8):=ai aK.ext;have fR:=ai (aK.aH cg.o (fun e=>iY.o.aU cg.o af (dO.2 e.symm)));have cE:=ai (aK.aH bj.o (fun e=>iY.o.aU bj.o af (dO.2 e.symm)));have Ht:=ai bW.1;have P6:=ai bW.2;clear aK bW;go_wp2_with fail;go_meet;exact let ⟨t,ho,ht⟩:=Ht.o;⟨jQ.o,(HG.o.ext (jQ.o)),Tz.o.ext P6.o.out,(Z4 (qs (x 0)) (qs (x 1)) (qs (x 2))),(qs val),t,_,_,_,cE.o,ho.rd,(K9 (TG.q (HX.o 0 af)) (TG.q (HX.o 1 af)) (TG.q (HX.o 2 af)) (TG.q HV.o)),gU ((HX.o 1 af).mono af),LZ.o _ _ j (Nat.le_refl _) (Nat.le_succ _) (fun i hi=>(ht i hi).imp (fun e=>⟨hi,e⟩) id)⟩
   ·obtain⟨oo,hoo⟩:∃ o,(some ⟨db,0,none⟩:Option Addr)=o:=⟨_,rfl⟩
    rw[hoo] at bj iY;clear hoo;have pU:=bj.o.cell 4 rfl;have aQ:=cg.o.cell 2 rfl;go_wp2_with (
     at_builtin;refine wpList_plain rfl fun K_ aL=>gI (X:=w3) (H:=fun _ => .string lC) (ad:=⟨w7.heap.size,0,none⟩) (m:=1) (c:=1) (v:=.slice oo (2*m) LW) rfl rfl rfl jI j7 rfl (zG.o.alloc _).out (iY.o.alloc _) (fun _=>ae) (fun j hj=>by obtain rfl:j=0:=ae;exact ie (ay.nw (#[.string lC]) 34) rfl) (fun _ _=>rfl) (by unfold maxLen;omega) ae (fun Vk nT c8_ w8 iF=>aL _ _ ?_)
     have jQ:Hid (Ext w w8):=ai (HXM.o.trans iF.mv.ext);have fR:Hid (ay w8 (w.heap.size) (#[.int .u8 Gs,.int .u8 at_,.string lC]) 88):=ai (iF.mv.aH (cg.o.alloc _) (cD.aU iY.o cg.o af));have P6:Hid (Fr w3 w8):=ai ⟨iF.mv.ext⟩;have cE:Hid (ay w8 (w4.heap.size) (#[.string (qs (x 0)),.string (qs (x 1)),.string (qs (x 2)),.string (qs val),.slice oo (2*m) LW]) 60):=ai (iF.mv.aH (bj.o.alloc _) (cD.aU iY.o bj.o af));obtain⟨rfl,QO⟩:=Nh iF;have Vt:=ai QO;clear QO;clear iF pU aQ;have pU:=cE.o.cell 4 rfl;have ym:=cE.o.free 4
    )
    go_meet;exact⟨(jQ.o.setCell (aS.o) _),(HG.o.ext ((jQ.o.setCell (aS.o) _))),Tz.o.ext (P6.o.other (a:=⟨w4.heap.size,4,none⟩) _ (su.o)).out,(Z4 (qs (x 0)) (qs (x 1)) (qs (x 2))),(qs val),(fun i=>if i<2*m then qs (y i) else lC),_,_,_,(cE.o.set 4 (.slice Vk (2*m+1) c8_)),(Vt.o.other (a:=⟨w4.heap.size,4,none⟩) _ ((fun h_=>(cD.xC Vt.o cE.o af) _ h_ rfl))).rd,(K9 (TG.q (HX.o 0 af)) (TG.q (HX.o 1 af)) (TG.q (HX.o 2 af)) (TG.q HV.o)),gU ((HX.o 1 af).mono af),LZ.o _ _ (2*m) (Nat.le_succ _) (Nat.le_refl _) (fun i hi=>by by_cases h:i<2*m;exact Or.inl ⟨h,if_pos h⟩;exact Or.inr ⟨ae,if_neg h⟩)⟩
   ·go_wp2_with fail;go_meet;exact⟨ig.o,(HG.o.ext (ig.o)),Tz.o.ext zG.o.out,(Z4 (qs (x 0)) (qs (x 1)) (qs (x 2))),(qs val),(fun i=>qs (y i)),_,_,_,bj.o,iY.o.rd,(K9 (TG.q (HX.o 0 af)) (TG.q (HX.o 1 af)) (TG.q (HX.o 2 af)) (TG.q HV.o)),gU ((HX.o 1 af).mono af),LZ.o _ _ 0 (Nat.le_refl _) (Nat.le_succ _) (fun i hi=>Or.inl ⟨hi,rfl⟩)⟩
  obtain⟨fb,HFB⟩:∃ fb,Hid (w4.heap.size=fb):=⟨_,ai rfl⟩
  rw[HFB.o] at hcut ⊢;obtain⟨e_,g_,hl_,s,mo,t,nk,da,dc,mF,ht_,wO,iD,hk_⟩:=hcut;rename World=>w
  clear HG;have HXW:=ai e_;have HG:=ai g_;have HL:=ai hl_;have HT:=ai ht_;have HF:=ai wO;have kf:=ai iD;have HK:=ai hk_;have Hz:=ai mF;clear e_ g_ hl_ ht_ wO iD hk_ mF;go_wp2_with fail;refine aE [.val (.slice ao m cap),.val (.agg #[.string (s 0),.string (s 1),.string (s 2),.string mo,.slice da nk dc]),.val (.int .i64 (x6 m (l6 c) s mo t nk)),.val (.slice ao m cap),.val (.agg #[.string (s 0),.string (s 1),.string (s 2),.string mo,.slice da nk dc]),.val (.int .i64 (x6 m (l6 c) s mo t nk)),.val (.bool false)] (fun L g W=>True) (S:=fun _=>False) ag ag ag (Mv.refl (Ext.refl w) (fun k h=>h.elim)) ?_ ?_ ?_ ?_ (fun fI w1 aK bW=>?_)
  ·exact fun _=>trivial
  ·exact fun _ _ _ _ h _=>h
  ·exact fun _ _ _ _ _ _ h=>h
  ·skip
   refine RI 5 (.slice ao m cap) ?_;refine RV (fun A_ aw K_ aL=>?_) ?_;· have q6_:=aw.is 6 (.pointer (some ⟨fb,0,none⟩));have iW:=(aw.mv.aH Hz.o (fun h=>h)).cell 0 rfl;have lS:=(aw.mv.aH Hz.o (fun h=>h)).cell 1 rfl;have jE:=(aw.mv.aH Hz.o (fun h=>h)).cell 2 rfl;have j9:=(aw.mv.aH Hz.o (fun h=>h)).cell 3 rfl;have lR:=(aw.mv.aH Hz.o (fun h=>h)).cell 4 rfl;go_simp;exact du aL
   refine K2 (fun aw=>aw.val 0) (fun aw=>aw.val 1) (fun aw=>K8 ao m cap (l6 c) _ (HG.o.ext aw.mv.ext) (HL.o.ext aw.mv.ext) (fun i _=>dP c i) dX ae s mo da nk dc HF.o t (HT.o.ext aw.mv.ext) HK.o.sz HK.o.le HK.o.q HK.o.z)<|RI 5 (.slice ao m cap) ?_;refine RV (fun A_ aw K_ aL=>?_) ?_;· have q6_:=aw.is 6 (.pointer (some ⟨fb,0,none⟩));have iW:=(aw.mv.aH Hz.o (fun h=>h)).cell 0 rfl;have lS:=(aw.mv.aH Hz.o (fun h=>h)).cell 1 rfl;have jE:=(aw.mv.aH Hz.o (fun h=>h)).cell 2 rfl;have j9:=(aw.mv.aH Hz.o (fun h=>h)).cell 3 rfl;have lR:=(aw.mv.aH Hz.o (fun h=>h)).cell 4 rfl;go_simp;exact du aL
   exact K2 (fun aw=>aw.val 3) (fun aw=>aw.val 4) (fun aw=>Dt ao m cap (l6 c) _ (HG.o.ext aw.mv.ext) (HL.o.ext aw.mv.ext) (fun i _=>dP c i) dX ae s mo da nk dc HF.o t (HT.o.ext aw.mv.ext) HK.o.sz HK.o.le HK.o.q HK.o.z)<|R2 2 5<|aN.nil
  simp only[gm,Ke.value,b7,Act.put,aq,au,av];have aD:Hid (Ext w w1):=ai aK.ext;have fH:=ai (aK.aH Hz.o (fun h=>h));clear aK bW;go_upto_region 22 with fail
  rcases qb8 s mo kf.o with⟨e_,r0_⟩|⟨e_,r0_,r2_⟩|⟨e_,r0_,r2_,r3_⟩|⟨e_,r0_,r2_,r3_⟩
  ·have gT:=ai e_;have iI:=ai r0_;clear e_ r0_;have iW:=fH.o.cell 0 rfl;have lS:=fH.o.cell 1 rfl;have jE:=fH.o.cell 2 rfl;have j9:=fH.o.cell 3 rfl;have lR:=fH.o.cell 4 rfl;go_wp2_with fail;refine cto (IC (HG.o.ext (aD.o)) (HL.o.ext aD.o) (fun i _=>dP c i) dX ae HF.o (Or.inl iI.o)) fun w2 e2=>?_
   have aM:=ai (aD.o.trans e2);have eM:=ai (fH.o.ext e2);clear e2 iW lS jE j9 lR;have iW:=eM.o.cell 0 rfl;have lS:=eM.o.cell 1 rfl;have jE:=eM.o.cell 2 rfl;have j9:=eM.o.cell 3 rfl;have lR:=eM.o.cell 4 rfl;go_wp2_with fail;refine cto (Bd (HG.o.ext (aM.o)) (HL.o.ext aM.o) (fun i _=>dP c i) dX ae HF.o gT.o) fun w3 e3=>?_
   have bA:=ai (aM.o.trans e3);have mD:=ai (eM.o.ext e3);clear e3 iW lS jE j9 lR;have iW:=mD.o.cell 0 rfl;go_wp2_with fail;refine cto (eC _ _ (HG.o.ext (bA.o)) (HF.o.sz 0 af) iI.o) fun w4 e4=>?_
   have bO:=ai (bA.o.trans e4);have o8:=ai (mD.o.ext e4);clear e4 iW;go_wp2_with fail;refine bodyPost_ret (v:=.bool true) (by simp[results,results10,go_sem,]) rfl ⟨rfl,HXW.o.trans bO.o⟩
  ·have gT:=ai e_;have iI:=ai r0_;have jl:=ai r2_;clear e_ r0_ r2_;have iW:=fH.o.cell 0 rfl;have lS:=fH.o.cell 1 rfl;have jE:=fH.o.cell 2 rfl;have j9:=fH.o.cell 3 rfl;have lR:=fH.o.cell 4 rfl;go_wp2_with fail;refine cto (IC (HG.o.ext (aD.o)) (HL.o.ext aD.o) (fun i _=>dP c i) dX ae HF.o (Or.inr jl.o)) fun w2 e2=>?_
   have aM:=ai (aD.o.trans e2);have eM:=ai (fH.o.ext e2);clear e2 iW lS jE j9 lR;have iW:=eM.o.cell 0 rfl;have lS:=eM.o.cell 1 rfl;have jE:=eM.o.cell 2 rfl;have j9:=eM.o.cell 3 rfl;have lR:=eM.o.cell 4 rfl;go_wp2_with fail;refine cto (Bd (HG.o.ext (aM.o)) (HL.o.ext aM.o) (fun i _=>dP c i) dX ae HF.o gT.o) fun w3 e3=>?_
   have bA:=ai (aM.o.trans e3);have mD:=ai (eM.o.ext e3);clear e3 iW lS jE j9 lR;have iW:=mD.o.cell 0 rfl;go_wp2_with fail;refine cto (bJ _ _ (HG.o.ext (bA.o)) (HF.o.sz 0 af) iI.o) fun w4 e4=>?_
   have bO:=ai (bA.o.trans e4);have o8:=ai (mD.o.ext e4);clear e4 iW;have jE:=o8.o.cell 2 rfl;go_wp2_with fail;refine cto (eC _ _ (HG.o.ext (bO.o)) (HF.o.sz 2 af) jl.o) fun w5 e5=>?_
   have cX:=ai (bO.o.trans e5);have tV:=ai (o8.o.ext e5);clear e5 jE;go_wp2_with fail;refine bodyPost_ret (v:=.bool true) (by simp[results,results10,go_sem,]) rfl ⟨rfl,HXW.o.trans cX.o⟩
  ·have gT:=ai e_;have iI:=ai r0_;have jl:=ai r2_;have uO:=ai r3_;clear e_ r0_ r2_ r3_;have iW:=fH.o.cell 0 rfl;have lS:=fH.o.cell 1 rfl;have jE:=fH.o.cell 2 rfl;have j9:=fH.o.cell 3 rfl;have lR:=fH.o.cell 4 rfl;go_wp2_with fail;refine(CT (HG.o.ext (aD.o)) (HL.o.ext aD.o) (fun i _=>dP c i) dX ae HF.o iI.o kf.o jl.o).mono ?_;rintro e w2 ⟨ro,rc,rfl,e2,nV⟩;have aM:=ai (aD.o.trans e2);have eM:=ai (fH.o.ext e2);clear e2 iW lS jE j9 lR;have L0:=ai nV;clear nV;have P4:Hid (Fr w2 w2):=ai (Fr.refl _);have iW:=eM.o.cell 0 rfl;have lS:=eM.o.cell 1 rfl;have jE:=eM.o.cell 2 rfl;have j9:=eM.o.cell 3 rfl;have lR:=eM.o.cell 4 rfl;go_wp2_with fail;refine cto (Bd (HG.o.ext (aM.o)) (HL.o.ext aM.o) (fun i _=>dP c i) dX ae HF.o gT.o) fun w3 e3=>?_
   have bA:=ai (aM.o.trans e3);have mD:=ai (eM.o.ext e3);have P3:=ai (P4.o.ext e3);clear e3 iW lS jE j9 lR;have iW:=mD.o.cell 0 rfl;go_wp2_with fail;refine cto (bJ _ _ (HG.o.ext (bA.o)) (HF.o.sz 0 af) iI.o) fun w4 e4=>?_
   have bO:=ai (bA.o.trans e4);have o8:=ai (mD.o.ext e4);have P0:=ai (P3.o.ext e4);clear e4 iW;have jE:=o8.o.cell 2 rfl;go_wp2_with fail;refine cto (bJ _ _ (HG.o.ext (bO.o)) (HF.o.sz 2 af) jl.o) fun w5 e5=>?_
   have cX:=ai (bO.o.trans e5);have tV:=ai (o8.o.ext e5);have PZ:=ai (P0.o.ext e5);clear e5 jE;have j9:=tV.o.cell 3 rfl;go_wp2_with fail;refine cto (eC _ _ (HG.o.ext (cX.o)) HF.o.mo uO.o) fun w6 e6=>?_
   have gd:=ai (cX.o.trans e6);have kW:=ai (tV.o.ext e6);have PY:=ai (PZ.o.ext e6);clear e6 j9;have iW:=kW.o.cell 0 rfl;have lS:=kW.o.cell 1 rfl;have jE:=kW.o.cell 2 rfl;have j9:=kW.o.cell 3 rfl;have lR:=kW.o.cell 4 rfl;go_wp2_with fail;refine(rM (HG.o.ext (gd.o)) (HL.o.ext gd.o) (fun i _=>(dP c i).vb) ae (HF.o.pP iI.o kf.o jl.o)).mono ?_;rintro e w7 ⟨v_,rfl,e7,rD⟩;obtain⟨wo_,wc,rfl⟩:=rD.yd;obtain⟨_,_,G1,_,_,nV⟩:=rD.rd;cases G1;have ig:=ai (gd.o.trans e7);have xT:=ai (kW.o.ext e7);have PX:=ai (PY.o.ext e7);clear e7 iW lS jE j9 lR;have HWT:=ai nV;clear nV rD;have PU:Hid (Fr w7 w7):=ai (Fr.refl _);have Ca:Hid (∀ i,i<m->QB 90 (cS (l6 c) (yq s) i)):=ai (fun i hi=>lB (dP c i).vb (fun j hj=>(HF.o.pP iI.o kf.o jl.o j hj).2));go_wp2_with fail;go_loopw [15,14] (fun bY qU wx=>∃ k:Nat,bY = .int .i64 k/\qU = .int .i64 0/\k<=m/\Hid (Ext w wx/\Fr w2 wx/\Fr w7 wx)) (fun bY _ _=>m-(intOf bY).toNat)
   case atStart=>exact⟨0,rfl,rfl,Nat.zero_le _,ai ⟨ig.o,PX.o,PU.o⟩⟩
   case round =>
    rename World=>w8
    obtain⟨k,rfl,rfl,mg,HH⟩:=hrel;have jQ:=ai HH.o.1;have zM:=ai (Hz.o.ext jQ.o);have xJ:=ai HH.o.2.1;have xH:=ai HH.o.2.2;clear HH;by_cases aP:k<m
    ·have fj:(k:Int)<((m:Nat):Int):=ae;obtain⟨ra,rfl,Cl⟩:=L0.o k aP;obtain⟨ua,rfl,zd_⟩:=HWT.o k aP;have BO:=ai Cl;have HCu:=ai zd_;clear Cl zd_;have z0:=gW (rfl:qs (cS (l6 c) (yq s) k)=qs (cS (l6 c) (yq s) k));go_wp2_with fail;refine aE [.val (.slice (some ra) m rc),.val (.int .i64 (k:Int)),.val (.pointer (some (ra.add k))),.val (.string (qs (cS (l6 c) (yq s) k))),.val (.slice (some ua) m wc),.val (.int .i64 (k:Int)),.val (.pointer (some (ua.add k))),.val (.string (qs (cS (l6 c) (yq s) k))),.val (.bool false)] (fun L g W=>True) (S:=fun _=>False) ag ag ag (Mv.refl (Ext.refl _) (fun k h=>h.elim)) ?_ ?_ ?_ ?_ (fun fI w9 aK bW=>?_)
     ·exact fun _=>trivial
     ·exact fun _ _ _ _ h _=>h
     ·exact fun _ _ _ _ _ _ h=>h
     ·skip
      exact RI 8 (.slice (some ra) m rc)<|RI 15 (.int .i64 (k:Int))<|R2 0 1<|J2 (fun aw=>aw.val 2) (fun aw=>aC (xJ.o.ext aw.mv.ext).out (BO.o))<|RI 13 (.slice (some ua) m wc)<|RI 15 (.int .i64 (k:Int))<|R2 4 5<|J2 (fun aw=>aw.val 6) (fun aw=>aC (xH.o.ext aw.mv.ext).out (HCu.o))<|R2 3 7<|aN.nil
     simp only[gm,Ke.value,b7,Act.put,aq,au,av];have qM:=ai (jQ.o.trans aK.ext);have nK:=ai (aK.aH zM.o (fun h=>h));have EO:=ai (xJ.o.ext aK.ext);have xG:=ai (xH.o.ext aK.ext);clear aK bW;go_wp2_with fail;refine aE [.val (.pointer (some ⟨fb,3,none⟩)),.val (.string mo),.val (.bool false),.val (.bool false),.off,.off,.off,.off,.off,.off,.off,.off,.val (.bool false)] (fun L g W=>True) (S:=fun _=>False) ag ag ag (Mv.refl (Ext.refl _) (fun k h=>h.elim)) ?_ ?_ ?_ ?_ (fun fI JZ aK bW=>?_)
     ·exact fun _=>trivial
     ·exact fun _ _ _ _ h _=>h
     ·exact fun _ _ _ _ _ _ h=>h
     ·skip
      exact RI 6 (.pointer (some ⟨fb,0,none⟩))<|J2 (fun aw=>aw.val 0) (fun aw=>(aw.mv.aH nK.o (fun h=>h)).cell 3 rfl)<|K1 (fun aw=>aw.val 1) (fun aw=>eC _ _ (HG.o.ext (qM.o.trans aw.mv.ext)) HF.o.mo uO.o)<|R1 2<|RO<|RO<|RO<|RO<|RO<|RO<|RO<|RO<|J2 (fun aw=>aw.val 3) (fun aw=>aw.un 11)<|aN.nil
     simp only[gm,Ke.value,b7,Act.put,aq,au,av];have ko:=ai (qM.o.trans aK.ext);have BV:=ai (aK.aH nK.o (fun h=>h));have xK:=ai (EO.o.ext aK.ext);have xI:=ai (xG.o.ext aK.ext);clear aK bW;go_wp2_with fail;go_roundw
     case rel=>exact⟨k+1,by go_num,rfl,ae,ai ⟨ko.o,xK.o,xI.o⟩⟩
     case measure=>simp[intOf];omega
    ·have eY:k=m:=ae;have kx:¬ (k:Int)<((m:Nat):Int):=ae;go_wp2_with fail;refine bodyPost_ret (v:=.bool true) (by simp[results,results10,go_sem,]) rfl ⟨rfl,HXW.o.trans jQ.o⟩
  ·have gT:=ai e_;have iI:=ai r0_;have jl:=ai r2_;have uO:=ai r3_;clear e_ r0_ r2_ r3_;have iW:=fH.o.cell 0 rfl;have lS:=fH.o.cell 1 rfl;have jE:=fH.o.cell 2 rfl;have j9:=fH.o.cell 3 rfl;have lR:=fH.o.cell 4 rfl;go_wp2_with fail;refine(CT (HG.o.ext (aD.o)) (HL.o.ext aD.o) (fun i _=>dP c i) dX ae HF.o iI.o kf.o jl.o).mono ?_;rintro e w2 ⟨ro,rc,rfl,e2,nV⟩;have aM:=ai (aD.o.trans e2);have eM:=ai (fH.o.ext e2);clear e2 iW lS jE j9 lR;have L0:=ai nV;clear nV;have P4:Hid (Fr w2 w2):=ai (Fr.refl _);have iW:=eM.o.cell 0 rfl;have lS:=eM.o.cell 1 rfl;have jE:=eM.o.cell 2 rfl;have j9:=eM.o.cell 3 rfl;have lR:=eM.o.cell 4 rfl;go_wp2_with fail;refine(OV (HG.o.ext (aM.o)) (HL.o.ext aM.o) (fun i _=>dP c i) dX ae HF.o gT.o).mono ?_;rintro e w3 ⟨eo,le,ec,rfl,e3,hl_,nV⟩;have bA:=ai (aM.o.trans e3);have mD:=ai (eM.o.ext e3);have P3:=ai (P4.o.ext e3);clear e3 iW lS jE j9 lR;have HEX:=ai nV;have qO:=ai hl_;clear nV hl_;have qdv:Hid (Fr w3 w3):=ai (Fr.refl _);have iW:=mD.o.cell 0 rfl;go_wp2_with fail;refine cto (bJ _ _ (HG.o.ext (bA.o)) (HF.o.sz 0 af) iI.o) fun w4 e4=>?_
   have bO:=ai (bA.o.trans e4);have o8:=ai (mD.o.ext e4);have P0:=ai (P3.o.ext e4);have qdu:=ai (qdv.o.ext e4);clear e4 iW;have jE:=o8.o.cell 2 rfl;go_wp2_with fail;refine cto (bJ _ _ (HG.o.ext (bO.o)) (HF.o.sz 2 af) jl.o) fun w5 e5=>?_
   have cX:=ai (bO.o.trans e5);have tV:=ai (o8.o.ext e5);have PZ:=ai (P0.o.ext e5);have qdt:=ai (qdu.o.ext e5);clear e5 jE;have j9:=tV.o.cell 3 rfl;go_wp2_with fail;refine cto (bJ _ _ (HG.o.ext (cX.o)) HF.o.mo uO.o) fun w6 e6=>?_
   have gd:=ai (cX.o.trans e6);have kW:=ai (tV.o.ext e6);have PY:=ai (PZ.o.ext e6);have qds:=ai (qdt.o.ext e6);clear e6 j9;have iW:=kW.o.cell 0 rfl;have lS:=kW.o.cell 1 rfl;have jE:=kW.o.cell 2 rfl;have j9:=kW.o.cell 3 rfl;have lR:=kW.o.cell 4 rfl;go_wp2_with fail;refine(rM (HG.o.ext (gd.o)) (HL.o.ext gd.o) (fun i _=>(dP c i).vb) ae (HF.o.pP iI.o kf.o jl.o)).mono ?_;rintro e w7 ⟨v_,rfl,e7,rD⟩;obtain⟨wo_,wc,rfl⟩:=rD.yd;obtain⟨_,_,G1,_,_,nV⟩:=rD.rd;cases G1;have ig:=ai (gd.o.trans e7);have xT:=ai (kW.o.ext e7);have PX:=ai (PY.o.ext e7);have qdr:=ai (qds.o.ext e7);clear e7 iW lS jE j9 lR;have HWT:=ai nV;clear nV rD;have PU:Hid (Fr w7 w7):=ai (Fr.refl _);have Ca:Hid (∀ i,i<m->QB 90 (cS (l6 c) (yq s) i)):=ai (fun i hi=>lB (dP c i).vb (fun j hj=>(HF.o.pP iI.o kf.o jl.o j hj).2));go_wp2_with fail;go_loopw [15,14] (fun bY qU wx=>∃ k:Nat,∃ cn:Nat,bY = .int .i64 k/\qU = .int .i64 (cn:Int)/\k<=m/\Hid (cn=(td (OW (l6 c) s mo) k).length)/\Hid (Ext w wx/\Fr w2 wx/\Fr w3 wx/\Fr w7 wx)) (fun bY _ _=>m-(intOf bY).toNat)
   case atStart=>exact⟨0,0,rfl,rfl,Nat.zero_le _,ai (rfl),ai ⟨ig.o,PX.o,qdr.o,PU.o⟩⟩
   case round =>
    rename World=>w8
    obtain⟨k,cn,rfl,rfl,mg,ui,HH⟩:=hrel;have jQ:=ai HH.o.1;have zM:=ai (Hz.o.ext jQ.o);have xJ:=ai HH.o.2.1;have Vv:=ai HH.o.2.2.1;have xH:=ai HH.o.2.2.2;clear HH;by_cases aP:k<m
    ·have fj:(k:Int)<((m:Nat):Int):=ae;obtain⟨ra,rfl,Cl⟩:=L0.o k aP;obtain⟨ua,rfl,zd_⟩:=HWT.o k aP;have BO:=ai Cl;have HCu:=ai zd_;clear Cl zd_;have z0:=gW (rfl:qs (cS (l6 c) (yq s) k)=qs (cS (l6 c) (yq s) k));by_cases hv:qs (oe (cS (l6 c) (yq s) k))=mo
     ·have lI:Hid (OW (l6 c) s mo k=true):=ai (decide_eq_true hv);have z1:=gW hv;clear hv;obtain⟨qbV,qbT⟩:=X9 lI.o aP ui.o;rw[← qO.o] at qbV;obtain⟨ea,rfl,ze_⟩:=HEX.o cn qbV;rw[qbT] at ze_;have HCe:=ai ze_;have qmQ:cn<=k:=by rw[ui.o];exact A9
      have h39:¬ ((le:Nat):Int)<=((cn:Nat):Int):=ae;clear qbT ze_;go_wp2_with fail;refine aE [.val (.slice (some ra) m rc),.val (.int .i64 (k:Int)),.val (.pointer (some (ra.add k))),.val (.string (qs (cS (l6 c) (yq s) k))),.val (.slice (some ua) m wc),.val (.int .i64 (k:Int)),.val (.pointer (some (ua.add k))),.val (.string (qs (cS (l6 c) (yq s) k))),.val (.bool false)] (fun L g W=>True) (S:=fun _=>False) ag ag ag (Mv.refl (Ext.refl _) (fun k h=>h.elim)) ?_ ?_ ?_ ?_ (fun fI w9 aK bW=>?_)
      ·exact fun _=>trivial
      ·exact fun _ _ _ _ h _=>h
      ·exact fun _ _ _ _ _ _ h=>h
      ·skip
       exact RI 8 (.slice (some ra) m rc)<|RI 15 (.int .i64 (k:Int))<|R2 0 1<|J2 (fun aw=>aw.val 2) (fun aw=>aC (xJ.o.ext aw.mv.ext).out (BO.o))<|RI 13 (.slice (some ua) m wc)<|RI 15 (.int .i64 (k:Int))<|R2 4 5<|J2 (fun aw=>aw.val 6) (fun aw=>aC (xH.o.ext aw.mv.ext).out (HCu.o))<|R2 3 7<|aN.nil
      simp only[gm,Ke.value,b7,Act.put,aq,au,av];have qM:=ai (jQ.o.trans aK.ext);have nK:=ai (aK.aH zM.o (fun h=>h));have EO:=ai (xJ.o.ext aK.ext);have PW:=ai (Vv.o.ext aK.ext);have xG:=ai (xH.o.ext aK.ext);clear aK bW;go_wp2_with fail;refine aE [.val (.pointer (some ⟨fb,3,none⟩)),.val (.string mo),.val (.bool true),.val (.bool true),.val (.slice (some ua) m wc),.val (.int .i64 (k:Int)),.val (.pointer (some (ua.add k))),.val (.string (qs (cS (l6 c) (yq s) k))),.val (.string (qs (oe (cS (l6 c) (yq s) k)))),.val (.pointer (some ⟨fb,3,none⟩)),.val (.string mo),.val (.bool true),.val (.bool true)] (fun L g W=>True) (S:=fun _=>False) ag ag ag (Mv.refl (Ext.refl _) (fun k h=>h.elim)) ?_ ?_ ?_ ?_ (fun fI JZ aK bW=>?_)
      ·exact fun _=>trivial
      ·exact fun _ _ _ _ h _=>h
      ·exact fun _ _ _ _ _ _ h=>h
      ·skip
       exact RI 6 (.pointer (some ⟨fb,0,none⟩))<|J2 (fun aw=>aw.val 0) (fun aw=>(aw.mv.aH nK.o (fun h=>h)).cell 3 rfl)<|K1 (fun aw=>aw.val 1) (fun aw=>bJ _ _ (HG.o.ext (qM.o.trans aw.mv.ext)) HF.o.mo uO.o)<|R1 2<|RI 13 (.slice (some ua) m wc)<|RI 15 (.int .i64 (k:Int))<|R2 4 5<|J2 (fun aw=>aw.val 6) (fun aw=>aC (xG.o.ext aw.mv.ext).out (HCu.o))<|K1 (fun aw=>aw.val 7) (fun _=>sO (cS (l6 c) (yq s) k) _ (Ca.o k aP) af)<|RI 6 (.pointer (some ⟨fb,0,none⟩))<|J2 (fun aw=>aw.val 9) (fun aw=>(aw.mv.aH nK.o (fun h=>h)).cell 3 rfl)<|R2 8 10<|R2 3 11<|aN.nil
      simp only[gm,Ke.value,b7,Act.put,aq,au,av];have ko:=ai (qM.o.trans aK.ext);have BV:=ai (aK.aH nK.o (fun h=>h));have xK:=ai (EO.o.ext aK.ext);have BN:=ai (PW.o.ext aK.ext);have xI:=ai (xG.o.ext aK.ext);clear aK bW;have qkj:=aC BN.o.out (HCe.o);go_wp2_with fail;go_roundw
      case rel=>exact⟨k+1,cn+1,by go_num,by go_num,ae,ai ((by rw[pB lI.o,List.length_append,← ui.o];rfl)),ai ⟨ko.o,xK.o,BN.o,xI.o⟩⟩
      case measure=>simp[intOf];omega
     ·have lI:Hid (OW (l6 c) s mo k=false):=ai (decide_eq_false hv);have z1:=iN hv;clear hv;go_wp2_with fail;refine aE [.val (.slice (some ra) m rc),.val (.int .i64 (k:Int)),.val (.pointer (some (ra.add k))),.val (.string (qs (cS (l6 c) (yq s) k))),.val (.slice (some ua) m wc),.val (.int .i64 (k:Int)),.val (.pointer (some (ua.add k))),.val (.string (qs (cS (l6 c) (yq s) k))),.val (.bool false)] (fun L g W=>True) (S:=fun _=>False) ag ag ag (Mv.refl (Ext.refl _) (fun k h=>h.elim)) ?_ ?_ ?_ ?_ (fun fI w9 aK bW=>?_)
      ·exact fun _=>trivial
      ·exact fun _ _ _ _ h _=>h
      ·exact fun _ _ _ _ _ _ h=>h
      ·skip
       exact RI 8 (.slice (some ra) m rc)<|RI 15 (.int .i64 (k:Int))<|R2 0 1<|J2 (fun aw=>aw.val 2) (fun aw=>aC (xJ.o.ext aw.mv.ext).out (BO.o))<|RI 13 (.slice (some ua) m wc)<|RI 15 (.int .i64 (k:Int))<|R2 4 5<|J2 (fun aw=>aw.val 6) (fun aw=>aC (xH.o.ext aw.mv.ext).out (HCu.o))<|R2 3 7<|aN.nil
      simp only[gm,Ke.value,b7,Act.put,aq,au,av];have qM:=ai (jQ.o.trans aK.ext);have nK:=ai (aK.aH zM.o (fun h=>h));have EO:=ai (xJ.o.ext aK.ext);have PW:=ai (Vv.o.ext aK.ext);have xG:=ai (xH.o.ext aK.ext);clear aK bW;go_wp2_with fail;refine aE [.val (.pointer (some ⟨fb,3,none⟩)),.val (.string mo),.val (.bool true),.val (.bool true),.val (.slice (some ua) m wc),.val (.int .i64 (k:Int)),.val (.pointer (some (ua.add k))),.val (.string (qs (cS (l6 c) (yq s) k))),.val (.string (qs (oe (cS (l6 c) (yq s) k)))),.val (.pointer (some ⟨fb,3,none⟩)),.val (.string mo),.val (.bool false),.val (.bool false)] (fun L g W=>True) (S:=fun _=>False) ag ag ag (Mv.refl (Ext.refl _) (fun k h=>h.elim)) ?_ ?_ ?_ ?_ (fun fI JZ aK bW=>?_)
      ·exact fun _=>trivial
      ·exact fun _ _ _ _ h _=>h
      ·exact fun _ _ _ _ _ _ h=>h
      ·skip
       exact RI 6 (.pointer (some ⟨fb,0,none⟩))<|J2 (fun aw=>aw.val 0) (fun aw=>(aw.mv.aH nK.o (fun h=>h)).cell 3 rfl)<|K1 (fun aw=>aw.val 1) (fun aw=>bJ _ _ (HG.o.ext (qM.o.trans aw.mv.ext)) HF.o.mo uO.o)<|R1 2<|RI 13 (.slice (some ua) m wc)<|RI 15 (.int .i64 (k:Int))<|R2 4 5<|J2 (fun aw=>aw.val 6) (fun aw=>aC (xG.o.ext aw.mv.ext).out (HCu.o))<|K1 (fun aw=>aw.val 7) (fun _=>sO (cS (l6 c) (yq s) k) _ (Ca.o k aP) af)<|RI 6 (.pointer (some ⟨fb,0,none⟩))<|J2 (fun aw=>aw.val 9) (fun aw=>(aw.mv.aH nK.o (fun h=>h)).cell 3 rfl)<|R2 8 10<|R2 3 11<|aN.nil
      simp only[gm,Ke.value,b7,Act.put,aq,au,av];have ko:=ai (qM.o.trans aK.ext);have BV:=ai (aK.aH nK.o (fun h=>h));have xK:=ai (EO.o.ext aK.ext);have BN:=ai (PW.o.ext aK.ext);have xI:=ai (xG.o.ext aK.ext);clear aK bW;go_wp2_with fail;go_roundw
      case rel=>exact⟨k+1,cn,by go_num,by go_num,ae,ai ((by rw[A8 lI.o];exact ui.o)),ai ⟨ko.o,xK.o,BN.o,xI.o⟩⟩
      case measure=>simp[intOf];omega
    ·have eY:k=m:=ae;have kx:¬ (k:Int)<((m:Nat):Int):=ae;have hce:((cn:Nat):Int)=((le:Nat):Int):=by rw[ui.o,eY,qO.o]
     go_wp2_with fail;refine bodyPost_ret (v:=.bool true) (by simp[results,results10,go_sem,]) rfl ⟨rfl,HXW.o.trans jQ.o⟩
