/- Part 6. -/
import Derived.Test.YtmahadmefplbnaaGreatDoorQVLB
import Derived.Test.YtmahadmefplbnaaGreatDoorQVL3
import Derived.Deep.QuietTactic
import Derived.BigQuiet
set_option maxRecDepth 100000
set_option maxHeartbeats 2000000
open Go.Proofs.Tryz
namespace Go.Proofs.YtmahadmefplbnaaGreatDoor
open Go Go.RowKit
def jy(a b:Nat):Int:=if a<b then -1 else if b<a then 1 else 0
def LB(w:World)(n:Int)(e:Ending)(w':World):Prop:=e = .returned (.int .i64 n)/\Ext w w'
theorem zm{l m:List Nat}{k n:Nat}(hl:l.length=n)(hm:m.length=n)(hk:k<n)(hd:l.drop (k+1)=m.drop (k+1))(he:l[k]?.getD 0=m[k]?.getD 0):l.drop k=m.drop k:=by
 have h1:k<l.length:=ae;have h2:k<m.length:=ae;rw[List.drop_eq_getElem_cons h1,List.drop_eq_getElem_cons h2,hd]
 congr 1
 simpa[h1,h2] using he
theorem Ds {l m:List Nat} {k n:Nat} (hl:l.length=n) (hm:m.length=n) (hk:k<n) (hd:l.drop (k+1)=m.drop (k+1)) (bl:bK 1000000000 l)
    (h:l[k]?.getD 0<m[k]?.getD 0):mv 1000000000 l<mv 1000000000 m:=by
 have h1:k<l.length:=ae;have h2:k<m.length:=ae;exact rH bl ae h1 hd (by simpa[h1,h2] using h)
theorem pn{a b:Nat}(h:a<b):jy a b=-1:=by unfold jy;rw[if_pos h]
theorem ux{a b:Nat}(h:b<a):jy a b=1:=by unfold jy;rw[if_neg ae,if_pos h]
theorem Sk{a b:Nat}(h:a=b):jy a b=0:=by unfold jy;rw[if_neg ae,if_neg ae]
theorem NA{a b:Nat}(h:((a:Int) != (b:Int))=true):a≠b:=by
 intro e;subst e;simp at h
theorem OY{a b:Nat}(h:((a:Int) != (b:Int))=false):a=b:=by
 simp at h;omega
theorem AO{k:IntKind}{a b:Int}(h:a=b):Ending.returned (.int k a) = .returned (.int k b):=by rw[h]
set_option maxHeartbeats 1000000 in
theorem fW (a b:Nat) (va vb:Value) (w:World) (ha:eV w va a) (hb:eV w vb b) :
    Calls prog 251 #[va,vb] w (LB w (jy a b)):=by
 obtain⟨l,Oi,cl,rfl⟩:=ha;obtain⟨m,yh,cm,rfl⟩:=hb;obtain⟨n,hn⟩:∃ n,n=l.length:=⟨_,rfl⟩
 obtain⟨n',mf⟩:∃ n',n'=m.length:=⟨_,rfl⟩
 rcases Nat.lt_trichotomy n n' with aP|heq|hgt
 ·obtain⟨ad,ca,_,_,rfl,h1,h2,_,_⟩:=Oi;obtain⟨bd,cb,_,_,rfl,h3,h4,_,_⟩:=yh;rw[← hn] at h1 ⊢;rw[← mf] at h3 ⊢;have hr:=pn (cl.l8 af cm ae);rw[hr];clear hn mf hr;go_enter func251,ntmps251;go_wp2;go_ret;exact⟨rfl,Ext.refl _⟩
 ·subst heq;by_cases h0:0<n
  ·obtain⟨b1,o1,ca,rfl,h1,h2,y7,I5⟩:=Oi.cells ae;obtain⟨b2,o2,cb,rfl,h3,h4,Ut,hc2⟩:=yh.cells ae;rw[← hn] at h1 I5 ⊢;rw[← mf] at h3 hc2 ⊢;have HN:=ai hn;have uh:=ai mf;clear hn mf Oi yh;go_enter func251,ntmps251;go_wp2;go_loopw [5] (fun i wr=>∃ k:Nat,k<=n/\i = .int .i64 ((k:Int)-1)/\l.drop k=m.drop k/\Ext w wr) (fun i _=>(intOf i+1).toNat)
   case atStart=>exact⟨n,Nat.le_refl _,rfl,by rw[List.drop_of_length_le (by have:=HN.o;omega),List.drop_of_length_le (by have:=uh.o;omega)],Ext.refl _⟩
   case round =>
    obtain⟨k,hk,rfl,hd,hx⟩:=hrel;by_cases E6:0<k
    ·obtain⟨j,rfl⟩:∃ j,k=j+1:=⟨k-1,ae⟩
     have ej:(((j+1:Nat):Int)-1)=(j:Int):=ae;rw[ej];clear ej;have g1:wr.cell? ⟨b1,o1+j,none⟩=some (.int .u64 ((l.getD j 0:Nat):Int)):=(hx.cell y7).trans (I5 j ae);have g2:wr.cell? ⟨b2,o2+j,none⟩=some (.int .u64 ((m.getD j 0:Nat):Int)):=(hx.cell Ut).trans (hc2 j ae);have HD:=ai hd;clear hd;go_wp2;go_quiet (fail);go_wp2
     ·have c8:(((l[j]?.getD 0:Nat):Int) != ((m[j]?.getD 0:Nat):Int))=true:=by assumption
      go_quiet (fail);go_wp2
      ·have h1:l[j]?.getD 0<m[j]?.getD 0:=by assumption
       go_ret;exact⟨AO (pn (Ds HN.o.symm uh.o.symm ae HD.o cl.lt h1)).symm,(hx.drewN _).drewN _⟩
      ·have h1:¬ l[j]?.getD 0<m[j]?.getD 0:=by assumption
       have h2:=NA c8;go_ret;exact⟨AO (ux (Ds uh.o.symm HN.o.symm ae HD.o.symm cm.lt ae)).symm,(hx.drewN _).drewN _⟩
     ·have c8:(((l[j]?.getD 0:Nat):Int) != ((m[j]?.getD 0:Nat):Int))=false:=by assumption
      go_roundw
      case rel=>exact⟨j,ae,rfl,zm HN.o.symm uh.o.symm ae HD.o (OY c8),hx.drewN _⟩
      case measure=>simp[intOf]
    ·obtain rfl:k=0:=ae;go_wp2;go_ret;refine⟨AO (Sk ?_).symm,hx⟩;rw[show l=m from by simpa using hd]
  ·obtain⟨ad,ca,_,_,rfl,h1,h2,_,_⟩:=Oi;obtain⟨bd,cb,_,_,rfl,h3,h4,_,_⟩:=yh;obtain rfl:l=[]:=List.length_eq_zero_iff.1 ae;obtain rfl:m=[]:=List.length_eq_zero_iff.1 ae;simp only[List.length_nil];clear hn mf;go_enter func251,ntmps251;go_wp2;refine wp_loop_rounds 1 ?_;rw[rounds_succ];go_wp2;go_ret;exact⟨rfl,Ext.refl _⟩
 ·obtain⟨ad,ca,_,_,rfl,h1,h2,_,_⟩:=Oi;obtain⟨bd,cb,_,_,rfl,h3,h4,_,_⟩:=yh;rw[← hn] at h1 ⊢;rw[← mf] at h3 ⊢;have hr:=ux (cm.l8 af cl ae);rw[hr];clear hn mf hr;go_enter func251,ntmps251;go_wp2;go_ret;exact⟨rfl,Ext.refl _⟩
