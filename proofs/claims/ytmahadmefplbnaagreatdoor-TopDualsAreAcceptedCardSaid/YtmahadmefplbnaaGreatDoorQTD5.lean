/- Part 5. -/
import Derived.Test.YtmahadmefplbnaaGreatDoorQTDB
import Derived.Test.YtmahadmefplbnaaGreatDoorQTD4
import Derived.Deep.QuietTactic
import Derived.BigQuiet
set_option maxRecDepth 100000
set_option maxHeartbeats 2000000
open Go.Proofs.Tryz
namespace Go.Proofs.YtmahadmefplbnaaGreatDoor
open Go Go.RowKit
def fR(a b:Nat):Int:=if a<b then -1 else if b<a then 1 else 0
def wH(w:World)(n:Int)(e:Ending)(w':World):Prop:=e = .returned (.int .i64 n)/\Ext w w'
theorem kx{l m:List Nat}{k n:Nat}(hl:l.length=n)(hm:m.length=n)(hk:k<n)(hd:l.drop (k+1)=m.drop (k+1))(he:l[k]?.getD 0=m[k]?.getD 0):l.drop k=m.drop k:=by
 have h1:k<l.length:=ae;have h2:k<m.length:=ae;rw[List.drop_eq_getElem_cons h1,List.drop_eq_getElem_cons h2,hd]
 congr 1
 simpa[h1,h2] using he
theorem qV {l m:List Nat} {k n:Nat} (hl:l.length=n) (hm:m.length=n) (hk:k<n) (hd:l.drop (k+1)=m.drop (k+1)) (bl:aC 1000000000 l)
    (h:l[k]?.getD 0<m[k]?.getD 0):mv 1000000000 l<mv 1000000000 m:=by
 have h1:k<l.length:=ae;have h2:k<m.length:=ae;exact gR bl ae h1 hd (by simpa[h1,h2] using h)
theorem iS{a b:Nat}(h:a<b):fR a b=-1:=by unfold fR;rw[if_pos h]
theorem ld{a b:Nat}(h:b<a):fR a b=1:=by unfold fR;rw[if_neg ae,if_pos h]
theorem AH{a b:Nat}(h:a=b):fR a b=0:=by unfold fR;rw[if_neg ae,if_neg ae]
theorem yt{a b:Nat}(h:((a:Int) != (b:Int))=true):a≠b:=by
 intro e;subst e;simp at h
theorem zb{a b:Nat}(h:((a:Int) != (b:Int))=false):a=b:=by
 simp at h;omega
theorem pM{k:IntKind}{a b:Int}(h:a=b):Ending.returned (.int k a) = .returned (.int k b):=by rw[h]
set_option maxHeartbeats 1000000 in
theorem dj (a b:Nat) (va vb:Value) (w:World) (ha:cz w va a) (hb:cz w vb b) :
    Calls prog 251 #[va,vb] w (wH w (fR a b)):=by
 obtain⟨l,hla,cl,rfl⟩:=ha;obtain⟨m,hlb,cm,rfl⟩:=hb;obtain⟨n,hn⟩:∃ n,n=l.length:=⟨_,rfl⟩
 obtain⟨n',hn'⟩:∃ n',n'=m.length:=⟨_,rfl⟩
 rcases Nat.lt_trichotomy n n' with hlt|heq|hgt
 ·obtain⟨ad,ca,_,_,rfl,h1,h2,_,_⟩:=hla;obtain⟨bd,cb,_,_,rfl,h3,h4,_,_⟩:=hlb;rw[← hn] at h1 ⊢;rw[← hn'] at h3 ⊢;have hr:=iS (cl.eB af cm ae);rw[hr];clear hn hn' hr;go_enter func251,ntmps251;go_wp2;go_ret;exact⟨rfl,Ext.refl _⟩
 ·subst heq;by_cases h0:0<n
  ·obtain⟨b1,o1,ca,rfl,h1,h2,hb1,hc1⟩:=hla.cells ae;obtain⟨b2,o2,cb,rfl,h3,h4,hb2,hc2⟩:=hlb.cells ae;rw[← hn] at h1 hc1 ⊢;rw[← hn'] at h3 hc2 ⊢;have HN:=aj hn;have HN':=aj hn';clear hn hn' hla hlb;go_enter func251,ntmps251;go_wp2;go_loopw [5] (fun i wr=>∃ k:Nat,k<=n/\i = .int .i64 ((k:Int)-1)/\l.drop k=m.drop k/\Ext w wr) (fun i _=>(intOf i+1).toNat)
   case atStart=>exact⟨n,Nat.le_refl _,rfl,by rw[List.drop_of_length_le (by have:=HN.o;omega),List.drop_of_length_le (by have:=HN'.o;omega)],Ext.refl _⟩
   case round =>
    obtain⟨k,hk,rfl,hd,hx⟩:=hrel;by_cases hk0:0<k
    ·obtain⟨j,rfl⟩:∃ j,k=j+1:=⟨k-1,ae⟩
     have ej:(((j+1:Nat):Int)-1)=(j:Int):=ae;rw[ej];clear ej;have g1:wr.cell? ⟨b1,o1+j,none⟩=some (.int .u64 ((l.getD j 0:Nat):Int)):=(hx.cell hb1).trans (hc1 j ae);have g2:wr.cell? ⟨b2,o2+j,none⟩=some (.int .u64 ((m.getD j 0:Nat):Int)):=(hx.cell hb2).trans (hc2 j ae);have HD:=aj hd;clear hd;go_wp2;go_quiet (fail);go_wp2
     ·have hne:(((l[j]?.getD 0:Nat):Int) != ((m[j]?.getD 0:Nat):Int))=true:=by assumption
      go_quiet (fail);go_wp2
      ·have h1:l[j]?.getD 0<m[j]?.getD 0:=by assumption
       go_ret;exact⟨pM (iS (qV HN.o.symm HN'.o.symm ae HD.o cl.lt h1)).symm,(hx.drewN _).drewN _⟩
      ·have h1:¬ l[j]?.getD 0<m[j]?.getD 0:=by assumption
       have h2:=yt hne;go_ret;exact⟨pM (ld (qV HN'.o.symm HN.o.symm ae HD.o.symm cm.lt ae)).symm,(hx.drewN _).drewN _⟩
     ·have hne:(((l[j]?.getD 0:Nat):Int) != ((m[j]?.getD 0:Nat):Int))=false:=by assumption
      go_roundw
      case rel=>exact⟨j,ae,rfl,kx HN.o.symm HN'.o.symm ae HD.o (zb hne),hx.drewN _⟩
      case measure=>simp[intOf]
    ·obtain rfl:k=0:=ae;go_wp2;go_ret;refine⟨pM (AH ?_).symm,hx⟩;rw[show l=m from by simpa using hd]
  ·obtain⟨ad,ca,_,_,rfl,h1,h2,_,_⟩:=hla;obtain⟨bd,cb,_,_,rfl,h3,h4,_,_⟩:=hlb;obtain rfl:l=[]:=List.length_eq_zero_iff.1 ae;obtain rfl:m=[]:=List.length_eq_zero_iff.1 ae;simp only[List.length_nil];clear hn hn';go_enter func251,ntmps251;go_wp2;refine wp_loop_rounds 1 ?_;rw[rounds_succ];go_wp2;go_ret;exact⟨rfl,Ext.refl _⟩
 ·obtain⟨ad,ca,_,_,rfl,h1,h2,_,_⟩:=hla;obtain⟨bd,cb,_,_,rfl,h3,h4,_,_⟩:=hlb;rw[← hn] at h1 ⊢;rw[← hn'] at h3 ⊢;have hr:=ld (cm.eB af cl ae);rw[hr];clear hn hn' hr;go_enter func251,ntmps251;go_wp2;go_ret;exact⟨rfl,Ext.refl _⟩
end Go.Proofs.YtmahadmefplbnaaGreatDoor
