/- Part 10. -/
import Derived.Test.YtmahadmefplbnaaGreatDoorQVLB
import Derived.Test.YtmahadmefplbnaaGreatDoorQVL5
import Derived.Test.YtmahadmefplbnaaGreatDoorQVL9
set_option maxRecDepth 100000
set_option maxHeartbeats 2000000
open Go.Proofs.Tryz
namespace Go.Proofs.YtmahadmefplbnaaGreatDoor
open Go Go.RowKit
theorem toList_data(s:ByteArray):s.toList=s.data.toList:=by
 first|exact ByteArray.toList_eq s|simp
theorem iA(n:Int):(zs n).toList=zl n:=by rw[toList_data,dA]
theorem jv(q:Rat):(qs q).toList=ql q:=by rw[toList_data,iO]
theorem zS{n:Int}:zl n=[48] ↔ n=0:=⟨fun h=>mH (by rw[h,L8]),fun h=>by rw[h,L8]⟩
theorem zR{n:Int}:zl n=[49] ↔ n=1:=⟨fun h=>mH (by rw[h,L7]),fun h=>by rw[h,L7]⟩
theorem sD{n:Int}(h:n=0):((zs n).toList == [48])=true:=by rw[iA,zS.2 h];rfl
theorem ki{n:Int}(h:n≠0):((zs n).toList == [48])=false:=by rw[iA];simpa using fun e=>h (zS.1 e)
theorem zQ{n:Int}(h:n=1):((zs n).toList == [49])=true:=by rw[iA,zR.2 h];rfl
theorem uj{n:Int}(h:n≠1):((zs n).toList == [49])=false:=by rw[iA];simpa using fun e=>h (zR.1 e)
theorem OA(n:Int)(w:World):Calls prog 233 #[.string (zs n),.string ⟨#[45]⟩] w fun e w'=>e = .returned (.bool (decide (n<0)))/\w=w':=by
 refine(strings_HasPrefix (zs n) ⟨#[45]⟩ w).mono fun e w' ⟨h1,h2⟩=>⟨?_,h2.symm⟩
 rw[dA,show(⟨#[45]⟩:ByteArray).data.toList=[45] from rfl,GK] at h1;exact h1
theorem mK(n:Int)(w:World):Calls prog 165 #[.string (zs n),.string ⟨#[45]⟩] w fun e w'=>e = .returned (.string (zs n.natAbs))/\w=w':=by
 refine(strings_TrimPrefix (zs n) ⟨#[45]⟩ w).mono fun e w' ⟨h1,h2⟩=>⟨?_,h2.symm⟩
 rw[dA,show(⟨#[45]⟩:ByteArray).data.toList=[45] from rfl,z7] at h1;rw[h1];unfold zs;rw[fS]
theorem ij(n:Int)(w:World):Calls prog 164 #[.string (zs n)] w fun e w'=>e = .returned (.int .i64 n.sign)/\w=w':=by
 by_cases h0:n=0
 ·have h1:=sD h0;have h2:n.sign=0:=by rw[h0];rfl
  have H2:=ai h2;clear h0 h2;go_enter func164,ntmps164;go_wp2_with fail;go_ret;exact⟨by rw[H2.o];rfl,rfl⟩
 ·have h1:=ki h0;by_cases hn:n<0
  ·have h2:n.sign=-1:=Int.sign_eq_neg_one_of_neg hn;have H2:=ai h2;clear h0 h2;go_enter func164,ntmps164;go_wp2_with (go_at_call 233;refine(OA n _).mono ?_;rintro e w' ⟨rfl,rfl⟩);go_ret;exact⟨by rw[H2.o];rfl,rfl⟩
  ·have h2:n.sign=1:=Int.sign_eq_one_of_pos ae;have H2:=ai h2;clear h0 h2;go_enter func164,ntmps164;go_wp2_with (go_at_call 233;refine(OA n _).mono ?_;rintro e w' ⟨rfl,rfl⟩);go_ret;exact⟨by rw[H2.o];rfl,rfl⟩
theorem qh{n:Int}(h:0<n):(⟨#[45]⟩:ByteArray) ++ zs n=zs (-n):=by
 apply dW;rw[dA,dM ae,Int.natAbs_neg];show(⟨#[45]⟩ ++ zs n:ByteArray).data.toList=_;rw[ByteArray.data_append,Array.toList_append,dA,dR ae];rfl
theorem Q5{n:Int}(h:n<0):(zs n).extract 1 (zs n).size=zs (-n):=by
 apply dW;rw[ByteArray.data_extract,Array.toList_extract,dA,dA,gA,dM h,dR (show 0<=-n by omega),Int.natAbs_neg];simp
theorem VY(n:Int):0<(zs n).size:=by
 rw[gA];exact List.length_pos_iff.2 (Ci n)
theorem Ue(n:Int)(w:World)(hl:(zl n).length<=100000):Calls prog 248 #[.string (zs n)] w fun e w'=>e = .returned (.string (zs (-n)))/\w=w':=by
 have hp:=VY n;have hp1:1<=(zs n).size:=hp;rw[← gA] at hl;rcases Int.lt_trichotomy n 0 with h|h|h
 ·have h2:n.sign=-1:=Int.sign_eq_neg_one_of_neg h;have H:=ai h;have H2:=ai (Q5 h);clear h;go_enter func248,ntmps248;go_wp2_with (go_at_call 164;refine(ij n _).mono ?_;rw[h2];rintro e w' ⟨rfl,rfl⟩);go_ret;exact⟨by rw[← H2.o];rfl,rfl⟩
 ·subst h;go_enter func248,ntmps248;go_wp2_with (go_at_call 164;refine(ij 0 _).mono ?_;rintro e w' ⟨rfl,rfl⟩);go_ret;exact⟨rfl,rfl⟩
 ·have h2:n.sign=1:=Int.sign_eq_one_of_pos h;have H:=ai h;have H2:=ai (qh h);clear h;go_enter func248,ntmps248;go_wp2_with (go_at_call 164;refine(ij n _).mono ?_;rw[h2];rintro e w' ⟨rfl,rfl⟩);go_ret;exact⟨by rw[← H2.o];rfl,rfl⟩
theorem qcS(n:Int)(w:World):Calls prog 244 #[.string (zs n)] w fun e w'=>e = .returned (.string (zs n.natAbs))/\w=w':=by
 go_enter func244,ntmps244;go_wp2_with (go_at_call 165;refine(mK n _).mono ?_;rintro e w' ⟨rfl,rfl⟩);go_ret;exact⟨rfl,rfl⟩
theorem F8(n:Int)(h0:-9223372036854775808<=n)(h1:n<=9223372036854775807)(w:World)(g:Gd w):Calls prog 168 #[.int .i64 n] w (aZ w (.string (zs n))):=by
 have H:=ai (And.intro h0 h1);clear h0 h1;go_enter func168,ntmps168;go_wp2_with (go_at_call 193;refine(lO n H.o.1 H.o.2 _ g).mono ?_;rintro e w' ⟨rfl,e1⟩);go_ret;exact⟨rfl,e1⟩
theorem hU(n most:Int)(w:World)(h:most<(zl n).length):Calls prog 167 #[.string (zs n),.int .i64 most] w (aZ w (.tuple #[.int .i64 0,.bool false])):=by
 rw[← gA] at h;go_enter func167,ntmps167;go_wp2_with fail;go_ret2;exact⟨rfl,Ext.refl _⟩
theorem fu(n most:Int)(w:World)(h:(zl n).length<=most)(hm:most<=18):Calls prog 167 #[.string (zs n),.int .i64 most] w (aZ w (.tuple #[.int .i64 n,.bool true])):=by
 have h18:(zl n).length<=18:=ae;rw[← gA] at h;have h':¬ most<(zs n).size:=ae;go_enter func167,ntmps167;go_wp2_with (go_at_call 236;refine cto (YO n h18 _) fun w1 e1=>?_);go_region
 all_goals
  go_wp2;go_ret2;exact⟨rfl,e1.drew⟩
def ib(a b:Int):Int:=if a<b then -1 else if a=b then 0 else 1
theorem mZ{a b:Int}(h:a<b):ib a b=-1:=by unfold ib;rw[if_pos h]
theorem uG(a:Int):ib a a=0:=by unfold ib;rw[if_neg ae,if_pos rfl]
theorem nc{a b:Int}(h:b<a):ib a b=1:=by unfold ib;rw[if_neg ae,if_neg ae]
theorem SF(a b:Int):-1<=ib a b/\ib a b<=1:=by unfold ib;split <;> (try split) <;> omega
theorem xj{m n:Nat}(h:(Lib.decDigits m).length<(Lib.decDigits n).length):m<n:=by
 have h1:=ny m;have h0:=jV m;have hn:n≠0:=by intro e;subst e;rw[kK] at h;have:([48]:List UInt8).length=1:=rfl;omega
 have h2:=xi n hn;exact Nat.lt_of_lt_of_le h1 (Nat.le_trans (Nat.pow_le_pow_right af ae) h2)
theorem Em:∀ (l m:List UInt8),(∀ b ∈ l,fN b=true)->(∀ b ∈ m,fN b=true)->l.length=m.length->Lib.compareBytes l m=ib (val l) (val m)
 | [],[],_,_,_=>(uG _).symm
 | [],_ :: _,_,_,h=>by simp at h
 | _ :: _,[],_,_,h=>by simp at h
 | a :: l,b :: m,hl,hm,h=>by
  have ih:=Em l m (fun x hx=>hl x (by simp[hx])) (fun x hx=>hm x (by simp[hx])) (by simpa using h);have h1:=Fl l (fun x hx=>hl x (by simp[hx]));have h2:=Fl m (fun x hx=>hm x (by simp[hx]));have e1:val (a :: l)=(a.toNat-48)*10 ^ l.length+val l:=by
   have:=eO [a] l;simpa[gG] using this
  have e2:val (b :: m)=(b.toNat-48)*10 ^ l.length+val m:=by
   have:=eO [b] m;rw[show l.length=m.length by simpa using h];simpa[gG] using this
  rw [show m.length = l.length by have : l.length = m.length := by simpa using h
                                  omega] at h2
  have da:=(eE a).1 (hl a (by simp));have db:=(eE b).1 (hm b (by simp));unfold Lib.compareBytes;rw[e1,e2];generalize 10 ^ l.length=p at *;by_cases XR:a<b
  ·rw[if_pos XR,mZ];have qgM:a.toNat<b.toNat:=XR;have:((a.toNat-48)+1)*p<=(b.toNat-48)*p:=Nat.mul_le_mul_right _ ae;rw[Nat.add_mul] at this;omega
  ·rw[if_neg XR];by_cases y6:b<a
   ·rw[if_pos y6,nc];have qgI:b.toNat<a.toNat:=y6;have:((b.toNat-48)+1)*p<=(a.toNat-48)*p:=Nat.mul_le_mul_right _ ae;rw[Nat.add_mul] at this;omega
   ·rw[if_neg y6,ih];have qgM:¬ a.toNat<b.toNat:=XR;have qgI:¬ b.toNat<a.toNat:=y6;have e:a.toNat=b.toNat:=ae;rw[e];unfold ib
    congr 1
    ·apply propext;omega
    ·congr 1
     apply propext;omega
theorem Th{m n:Nat}(h:(Lib.decDigits m).length=(Lib.decDigits n).length):Lib.compareBytes (Lib.decDigits m) (Lib.decDigits n)=ib m n:=by
 rw[Em _ _ (di m) (di n) h,gB,gB]
theorem cI(n:Nat):(zs (n:Int)).size=(Lib.decDigits n).length:=by rw[gA,fS]
theorem Wo(m n:Nat)(h:(zs (m:Int)).size=(zs (n:Int)).size)(w:World):Calls prog 166 #[.string (zs (m:Int)),.string (zs (n:Int))] w fun e w'=>e = .returned (.int .i64 (ib m n))/\w=w':=by
 refine(strings_Compare (zs (m:Int)) (zs (n:Int)) w).mono fun e w' ⟨h1,h2⟩=>⟨?_,h2.symm⟩
 rw[cI,cI] at h;rw[dA,dA,fS,fS,Th h] at h1;exact h1
theorem Bo(a b:Int)(w:World)(h:a.sign≠b.sign):Calls prog 87 #[.string (zs a),.string (zs b)] w fun e w'=>e = .returned (.int .i64 (ib a b))/\w=w':=by
 obtain⟨x,hx⟩:∃ x,x=a.sign:=⟨_,rfl⟩
 obtain⟨y,hy⟩:∃ y,y=b.sign:=⟨_,rfl⟩
 have hr:x<y/\ib a b=-1∨y<x/\ib a b=1:=by
  rcases Int.lt_trichotomy a 0 with ha|ha|ha <;> rcases Int.lt_trichotomy b 0 with hb|hb|hb
  all_goals
   first
    | (exfalso;apply h;simp[Int.sign_eq_neg_one_of_neg,Int.sign_eq_one_of_pos,ha,hb];done)
    | (left;refine⟨?_,mZ ae⟩;rw[hx,hy];simp[Int.sign_eq_neg_one_of_neg,Int.sign_eq_one_of_pos,ha,hb];done)
    | (right;refine⟨?_,nc ae⟩;rw[hx,hy];simp[Int.sign_eq_neg_one_of_neg,Int.sign_eq_one_of_pos,ha,hb];done)
 have HX:=ai hx;have HY:=ai hy;clear hx hy h;rcases hr with⟨h1,h2⟩|⟨h1,h2⟩
 all_goals
  have H2:=ai h2;clear h2;have c8:¬ x=y:=ae;go_enter func87,ntmps87;go_wp2_with (first
   | (go_at_call 164;((with_reducible refine(ij a _).mono ?_);rw[← HX.o];rintro e w' ⟨rfl,rfl⟩))
   | (go_at_call 164;refine(ij b _).mono ?_;rw[← HY.o];rintro e w' ⟨rfl,rfl⟩))
  go_ret;exact⟨by rw[H2.o];rfl,rfl⟩
theorem N8{a b x:Int}(ha:x=a.sign)(hb:x=b.sign):ib a b=x*ib a.natAbs b.natAbs:=by
 rcases Int.lt_trichotomy a 0 with h|h|h
 ·have e1:a.sign=-1:=Int.sign_eq_neg_one_of_neg h;have nN:b<0:=by rw[← Int.sign_eq_neg_one_iff_neg];omega
  rw[ha,e1];unfold ib;split <;> split <;> (try split) <;> (try split) <;> omega
 ·subst h;have:b=0:=by rw[← Int.sign_eq_zero_iff_zero,← hb,ha];rfl
  subst this;simp[ha,ib]
 ·have e1:a.sign=1:=Int.sign_eq_one_of_pos h;have nN:0<b:=by rw[← Int.sign_eq_one_iff_pos];omega
  rw[ha,e1];unfold ib;split <;> split <;> (try split) <;> (try split) <;> omega
theorem Bn(a b x:Int)(w:World)(ha:x=a.sign)(hb:x=b.sign)(hx:x=-1∨x=0∨x=1):Calls prog 87 #[.string (zs a),.string (zs b)] w fun e w'=>e = .returned (.int .i64 (ib a b))/\w=w':=by
 have HA:=ai ha;have HB:=ai hb;rw[N8 ha hb];clear ha hb;obtain⟨m,hm⟩:∃ m,m=a.natAbs:=⟨_,rfl⟩
 obtain⟨n,hn⟩:∃ n,n=b.natAbs:=⟨_,rfl⟩
 rw[← hm,← hn];have HM:=ai hm;have HN:=ai hn;have bd:=SF m n;obtain⟨c,hc⟩:∃ c,c=ib m n:=⟨_,rfl⟩
 rw[← hc] at bd ⊢;obtain⟨bd1,bd2⟩:=bd;have HC:=ai hc;clear hm hn hc;rcases Nat.lt_trichotomy (zs (m:Int)).size (zs (n:Int)).size with h|h|h
 ·have hc:c=-1:=by rw[HC.o];exact mZ (by have:=xj (by rw[cI,cI] at h;exact h);omega)
  have Cb:=ai hc;clear hc;have c8:¬ (zs (m:Int)).size=(zs (n:Int)).size:=ae;rcases hx with rfl|rfl|rfl
  all_goals
   go_enter func87,ntmps87;go_wp2_with (first
    | (go_at_call 164;((with_reducible refine(ij a _).mono ?_);rw[← HA.o];rintro e w' ⟨rfl,rfl⟩))
    | (go_at_call 164;refine(ij b _).mono ?_;rw[← HB.o];rintro e w' ⟨rfl,rfl⟩)
    | (go_at_call 165;((with_reducible refine(mK a _).mono ?_);rw[← HM.o];rintro e w' ⟨rfl,rfl⟩))
    | (go_at_call 165;refine(mK b _).mono ?_;rw[← HN.o];rintro e w' ⟨rfl,rfl⟩))
   go_ret;exact⟨by rw[Cb.o];rfl,rfl⟩
 ·rcases hx with rfl|rfl|rfl
  all_goals
   go_enter func87,ntmps87;go_wp2_with (first
    | (go_at_call 164;((with_reducible refine(ij a _).mono ?_);rw[← HA.o];rintro e w' ⟨rfl,rfl⟩))
    | (go_at_call 164;refine(ij b _).mono ?_;rw[← HB.o];rintro e w' ⟨rfl,rfl⟩)
    | (go_at_call 165;((with_reducible refine(mK a _).mono ?_);rw[← HM.o];rintro e w' ⟨rfl,rfl⟩))
    | (go_at_call 165;refine(mK b _).mono ?_;rw[← HN.o];rintro e w' ⟨rfl,rfl⟩)
    | (go_at_call 166;refine(Wo m n h _).mono ?_;rw[← HC.o];rintro e w' ⟨rfl,rfl⟩))
   go_ret
   first|exact⟨rfl,rfl⟩|exact⟨by simp,rfl⟩
 ·have hc:c=1:=by rw[HC.o];exact nc (by have:=xj (by rw[cI,cI] at h;exact h);omega)
  have Cb:=ai hc;clear hc;have c8:¬ (zs (m:Int)).size=(zs (n:Int)).size:=ae;rcases hx with rfl|rfl|rfl
  all_goals
   go_enter func87,ntmps87;go_wp2_with (first
    | (go_at_call 164;((with_reducible refine(ij a _).mono ?_);rw[← HA.o];rintro e w' ⟨rfl,rfl⟩))
    | (go_at_call 164;refine(ij b _).mono ?_;rw[← HB.o];rintro e w' ⟨rfl,rfl⟩)
    | (go_at_call 165;((with_reducible refine(mK a _).mono ?_);rw[← HM.o];rintro e w' ⟨rfl,rfl⟩))
    | (go_at_call 165;refine(mK b _).mono ?_;rw[← HN.o];rintro e w' ⟨rfl,rfl⟩))
   go_ret;exact⟨by rw[Cb.o];rfl,rfl⟩
theorem tg(a b:Int)(w:World):Calls prog 87 #[.string (zs a),.string (zs b)] w fun e w'=>e = .returned (.int .i64 (ib a b))/\w=w':=by
 by_cases h:a.sign=b.sign
 ·refine Bn a b a.sign w rfl h ?_;rcases Int.lt_trichotomy a 0 with ha|ha|ha
  ·exact Or.inl (Int.sign_eq_neg_one_of_neg ha)
  ·subst ha;exact Or.inr (Or.inl rfl)
  ·exact Or.inr (Or.inr (Int.sign_eq_one_of_pos ha))
 ·exact Bo a b w h
def Dg(s:ByteArray):Prop:=∀ k (h:k<s.size),48<=(s[k].toNat:Int)/\(s[k].toNat:Int)<=57
theorem cK(s:ByteArray)(k:Nat)(h:k<s.size):s[k]=s.data.toList[k]'(by rw[Array.length_toList];exact h):=by
 rw[Array.getElem_toList];rfl
theorem G8(s:ByteArray):Dg s ↔ ∀ b ∈ s.data.toList,fN b=true:=by
 constructor
 ·intro h b hb;obtain⟨k,hk,rfl⟩:=List.mem_iff_getElem.1 hb;have KW:k<s.size:=by rw[Array.length_toList] at hk;exact hk
  have:=h k KW;rw[cK s k KW] at this;rw[eE];omega
 ·intro h k hk;have:=h s[k] (by rw[cK s k hk];exact List.getElem_mem _);rw[eE] at this;omega
theorem toList_empty{s:ByteArray}(h:1<=s.size):¬ s.toList=[]:=by
 rw[toList_data];intro e;have:=congrArg List.length e;rw[Array.length_toList,List.length_nil] at this;have e2:s.data.size=s.size:=rfl;omega
set_option maxHeartbeats 1000000 in
theorem AP (a:ByteArray) (w:World) (s:ByteArray) (mi:Bool) (hs:s.toList=[])
    (hcut:∀ w,Calls prog 190 #[.string a,.string ⟨#[45]⟩] w fun e w'=>e = .returned (.tuple #[.string s,.bool mi])/\w=w') :
    Calls prog 181 #[.string a] w fun e w'=>e = .returned (.int .i64 2)/\w=w':=by
 go_enter func181,ntmps181;go_wp2_with (go_at_call 190;refine(hcut _).mono ?_;rintro e w' ⟨rfl,rfl⟩);go_ret;exact⟨rfl,rfl⟩
set_option maxHeartbeats 1000000 in
theorem DD (a:ByteArray) (w:World) (s:ByteArray) (mi:Bool) (hs:(200:Int)<s.size)
    (hcut:∀ w,Calls prog 190 #[.string a,.string ⟨#[45]⟩] w fun e w'=>e = .returned (.tuple #[.string s,.bool mi])/\w=w') :
    Calls prog 181 #[.string a] w fun e w'=>e = .returned (.int .i64 2)/\w=w':=by
 have h0:¬ s.toList=[]:=toList_empty ae;have h0':s.toList.isEmpty=false:=by simpa using h0
 go_enter func181,ntmps181;go_wp2_with (go_at_call 190;refine(hcut _).mono ?_;rintro e w' ⟨rfl,rfl⟩);go_ret;exact⟨rfl,rfl⟩
set_option maxHeartbeats 1000000 in
theorem DB (a:ByteArray) (w:World) (s:ByteArray) (mi:Bool) (h1:0<s.size) (h2:(s.size:Int)<=200) (h3:(s[0].toNat:Int)=48) (h4:(1:Int)<s.size∨((s.size:Int)<=1/\mi=true))
    (hcut:∀ w,Calls prog 190 #[.string a,.string ⟨#[45]⟩] w fun e w'=>e = .returned (.tuple #[.string s,.bool mi])/\w=w') :
    Calls prog 181 #[.string a] w fun e w'=>e = .returned (.int .i64 2)/\w=w':=by
 have h0:¬ s.toList=[]:=toList_empty ae;have h0':s.toList.isEmpty=false:=by simpa using h0
 rcases h4 with h4|⟨h4,rfl⟩
 all_goals
  go_enter func181,ntmps181;go_wp2_with (go_at_call 190;refine(hcut _).mono ?_;rintro e w' ⟨rfl,rfl⟩);go_ret;exact⟨rfl,rfl⟩
theorem DC (a:ByteArray) (w:World) (s:ByteArray) (mi:Bool) (v:Int) (h1:0<s.size) (h2:(s.size:Int)<=200) (h3:¬ (s[0].toNat:Int)=48∨((s[0].toNat:Int)=48/\(s.size:Int)<=1/\mi=false))
    (hv:Hid ((Dg s->v=0)/\(¬ Dg s->v=2)))
    (hcut:∀ w,Calls prog 190 #[.string a,.string ⟨#[45]⟩] w fun e w'=>e = .returned (.tuple #[.string s,.bool mi])/\w=w') :
    Calls prog 181 #[.string a] w fun e w'=>e = .returned (.int .i64 v)/\w=w':=by
 have h0:¬ s.toList=[]:=toList_empty ae;have h0':s.toList.isEmpty=false:=by simpa using h0
 rcases h3 with h3|⟨h3,h4,rfl⟩
 all_goals
  go_enter func181,ntmps181;go_wp2_with (go_at_call 190;refine(hcut _).mono ?_;rintro e w' ⟨rfl,rfl⟩);go_loop [33] (fun i=>∃ k:Nat,k<=s.size/\i = .int .i64 k/\Hid (∀ j (h:j<s.size),j<k->48<=(s[j].toNat:Int)/\(s[j].toNat:Int)<=57)) (fun i=>s.size-(intOf i).toNat)
  case atStart=>exact⟨0,Nat.zero_le _,rfl,ai (fun j h h'=>ae)⟩
  case round =>
   obtain⟨k,hk,rfl,SS⟩:=hrel;by_cases aP:k<s.size
   ·rcases Int.lt_or_le (s[k].toNat:Int) 48 with hd|hd
    ·have e2:v=2:=hv.out.2 (fun h=>by have:=(h k aP).1;omega);have E2:=ai e2;clear e2;go_wp2;go_ret;exact⟨by rw[E2.out];rfl,rfl⟩
    ·rcases Int.lt_or_le 57 (s[k].toNat:Int) with GF|GF
     ·have e2:v=2:=hv.out.2 (fun h=>by have:=(h k aP).2;omega);have E2:=ai e2;clear e2;go_wp2;go_ret;exact⟨by rw[E2.out];rfl,rfl⟩
     ·have HD:=ai (And.intro hd GF);go_wp2;go_round
      case rel=>exact⟨k+1,ae,by go_num,ai (fun j h h'=>by
       by_cases e:j=k
       ·subst e;exact HD.o
       ·exact SS.out j h ae)⟩
      case measure=>simp[intOf];omega
   ·have e0:v=0:=hv.out.1 (fun j h=>SS.out j h ae);have E0:=ai e0;clear e0;go_wp2;go_ret;exact⟨by rw[E0.out];rfl,rfl⟩
def dz(l:List UInt8):Prop:=∃ n:Int,l=zl n/\(Lib.decDigits n.natAbs).length<=200
theorem Ys(a:ByteArray)(w:World):Calls prog 190 #[.string a,.string ⟨#[45]⟩] w fun e w' =>
 e = .returned (.tuple #[.string ⟨(Lib.trimPrefix a.data.toList [45]).toArray⟩,.bool (Lib.hasPrefix a.data.toList [45])])/\w=w' :=
 (strings_CutPrefix a ⟨#[45]⟩ w).mono fun _ _ ⟨h1,h2⟩=>⟨h1,h2.symm⟩
theorem mL(l:List UInt8):(∃ t,l=45 :: t/\Lib.trimPrefix l [45]=t/\Lib.hasPrefix l [45]=true)∨((∀ t,l≠45 :: t)/\Lib.trimPrefix l [45]=l/\Lib.hasPrefix l [45]=false):=by
 cases l with
 | nil=>exact Or.inr ⟨by simp,by simp[Lib.trimPrefix,Lib.hasPrefix],by simp[Lib.hasPrefix]⟩
 | cons b t =>
  by_cases h:b=45
  ·subst h;exact Or.inl ⟨t,rfl,by simp[Lib.trimPrefix,Lib.hasPrefix],by simp[Lib.hasPrefix]⟩
  ·exact Or.inr ⟨by simp[h],by simp[Lib.trimPrefix,Lib.hasPrefix,List.isPrefixOf,Ne.symm h],by simp[Lib.hasPrefix,List.isPrefixOf,Ne.symm h]⟩
theorem ru{n:Int}:dz (zl n) ↔ (Lib.decDigits n.natAbs).length<=200 :=
 ⟨fun⟨m,h,h2⟩=>by rw[mH h];exact h2,fun h=>⟨n,rfl,h⟩⟩
theorem yM (l t:List UInt8) (mi:Bool) (ht:Lib.trimPrefix l [45]=t) (hm:Lib.hasPrefix l [45]=mi) :
    dz l ↔ t≠[]/\t.length<=200/\(t.head?≠some 48∨(t.length=1/\mi=false))/\∀ b ∈ t,fN b=true:=by
 rcases mL l with⟨t',rfl,h1,h2⟩|⟨h0,h1,h2⟩
 ·obtain rfl:t'=t:=by rw[← h1,ht]
  obtain rfl:mi=true:=by rw[← hm,h2]
  constructor
  ·rintro⟨n,hn,hl⟩;have AS:n<0:=by rw[← lf,← hn];rfl
   rw[dM AS] at hn;have e:=(List.cons.inj hn).2;obtain⟨b,r,e2,hb⟩:=mm n.natAbs ae;refine⟨by rw[e];exact kN _,by rw[e];exact hl,Or.inl (by rw[e,e2];simpa using hb),by rw[e];exact di _⟩
  ·rintro⟨g1,g2,g3,g4⟩;have X1:t'.head?≠some 48:=by
    rcases g3 with g|⟨_,g⟩
    ·exact g
    ·cases g
   have e:=iG t' g1 g4 (Or.inl X1);have hp:val t'≠0:=by intro hv;rw[hv,kK] at e;rw[← e] at X1;simp at X1
   refine⟨-(val t':Int),?_,?_⟩
   ·rw[dM ae,Int.natAbs_neg,Int.natAbs_natCast,e]
   ·rw[Int.natAbs_neg,Int.natAbs_natCast,e];exact g2
 ·obtain rfl:l=t:=by rw[← h1,ht]
  obtain rfl:mi=false:=by rw[← hm,h2]
  constructor
  ·rintro⟨n,hn,hl⟩;have AS:0<=n:=by
    rcases Int.lt_or_le n 0 with h|h
    ·rw[dM h] at hn;exact absurd hn (h0 _)
    ·exact h
   rw[dR AS] at hn;refine⟨by rw[hn];exact kN _,by rw[hn];exact hl,?_,by rw[hn];exact di _⟩;by_cases hz:n.natAbs=0
   ·right;rw[hn,hz,kK];exact⟨rfl,rfl⟩
   ·left;obtain⟨b,r,e2,hb⟩:=mm n.natAbs hz;rw[hn,e2];simpa using hb
  ·rintro⟨g1,g2,g3,g4⟩;have e:=iG l g1 g4 (by
    rcases g3 with g|⟨g,_⟩
    ·exact Or.inl g
    ·obtain⟨b,rfl⟩:=List.length_eq_one_iff.1 g;by_cases hb:b=48
     ·right;rw[hb]
     ·left;simp[hb])
   exact⟨(val l:Int),by rw[fS,e],by rw[Int.natAbs_natCast,e];exact g2⟩
theorem gg (a:ByteArray) (w:World) (v:Int) (hv:(dz a.data.toList->v=0)/\(¬ dz a.data.toList->v=2)) :
    Calls prog 181 #[.string a] w fun e w'=>e = .returned (.int .i64 v)/\w=w':=by
 obtain⟨t,ht⟩:∃ t,Lib.trimPrefix a.data.toList [45]=t:=⟨_,rfl⟩
 obtain⟨mi,hm⟩:∃ mi,Lib.hasPrefix a.data.toList [45]=mi:=⟨_,rfl⟩
 have hcut:=Ys a;rw[ht,hm] at hcut;have wM:=yM a.data.toList t mi ht hm;obtain⟨s,hs⟩:∃ s:ByteArray,s=⟨t.toArray⟩:=⟨_,rfl⟩
 rw[← hs] at hcut;have jK:s.data.toList=t:=by rw[hs]
 have gh:s.size=t.length:=by rw[← jK,Array.length_toList];rfl
 have hh:∀ h:0<s.size,t.head?=some s[0]:=fun h=>by
  rw[cK s 0 h,List.head?_eq_getElem?,← jK];exact List.getElem?_eq_getElem _
 clear hs;by_cases h0:t=[]
 ·rw[hv.2 (fun h=>(wM.1 h).1 h0)];exact AP a w s mi (by rw[toList_data,jK,h0]) hcut
 ·have h1:0<s.size:=by rw[gh];exact List.length_pos_iff.2 h0
  by_cases h2:t.length<=200
  ·have e0:t.head?=some 48 ↔ (s[0].toNat:Int)=48:=by
    rw[hh h1];simp only[Option.some.injEq];constructor
    ·intro e;rw[e];rfl
    ·intro e;apply UInt8.toNat_inj.1;show s[0].toNat=48;omega
   by_cases h3:t.head?≠some 48∨(t.length=1/\mi=false)
   ·refine DC a w s mi v h1 ae ?_ (ai ⟨fun hd=>hv.1 (wM.2 ⟨h0,h2,h3,by rw[← jK];exact(G8 s).1 hd⟩),fun hd=>hv.2 (fun hr=>hd ((G8 s).2 (by rw[jK];exact(wM.1 hr).2.2.2)))⟩) hcut;by_cases h4:(s[0].toNat:Int)=48
    ·right;rcases h3 with h3|⟨h3,h5⟩
     ·exact absurd (e0.2 h4) h3
     ·exact⟨h4,ae,h5⟩
    ·exact Or.inl h4
   ·rw[hv.2 (fun h=>h3 (wM.1 h).2.2.1)];refine DB a w s mi h1 ae (e0.1 (by
     by_cases h:t.head?=some 48
     ·exact h
     ·exact absurd (Or.inl h) h3)) ?_ hcut
    by_cases h5:t.length=1
    ·right;refine⟨ae,?_⟩;cases mi
     ·exact absurd (Or.inr ⟨h5,rfl⟩) h3
     ·rfl
    ·left;omega
  ·rw[hv.2 (fun h=>h2 (wM.1 h).2.1)];exact DD a w s mi ae hcut
