/- Part 7. -/
import Derived.Test.YtmahadmefplbnaaGreatDoorQVLB
import Derived.Test.YtmahadmefplbnaaGreatDoorQVL6
import Derived.Outline
set_option maxRecDepth 100000
set_option maxHeartbeats 2000000
open Go.Proofs.Tryz
namespace Go.Proofs.YtmahadmefplbnaaGreatDoor
open Go Go.RowKit
def uN(w:World)(n:Nat)(e:Ending)(w':World):Prop:=∃ v,e = .returned v/\Ext w w'/\eV w' v n
theorem rK{k:IntKind}{l:List Nat}{x:Nat}:(l.map fun(x:Nat)=>Value.int k x) ++ [.int k (x:Int)]=(l ++ [x]).map fun(x:Nat)=>Value.int k x:=by simp
theorem cv{B:Nat}{l:List Nat}(hB:0<B)(h:bK B l)(i:Nat):l[i]?.getD 0<B:=by
 simpa using nt hB h i
theorem lj(w:World):(sizeOf 245).run prog w = .ok 1 w:=ag
theorem Av (a b:Nat) (va vb:Value) (w:World) (ha:eV w va a) (hb:eV w vb b) (fa:Fit a) (fb:Fit b) :
    Calls prog 250 #[va,vb] w (uN w (a+b)):=by
 obtain⟨l0,Z9,cl0,rfl⟩:=ha;obtain⟨m0,rQ,cm0,rfl⟩:=hb;have nl0:=fa.len cl0 rfl;have nm0:=fb.len cm0 rfl;clear fa fb;obtain⟨i0,hi,nI,mE,jh⟩:=info_parts ps
 -- L is the longer one,M the other
 have key:∃ L M vL vM,M.length<=L.length/\L.length<=2000/\bK 1000000000 L/\bK 1000000000 M/\mv 1000000000 l0+mv 1000000000 m0=mv 1000000000 L+mv 1000000000 M/\Holds .u64 w vL L/\Holds .u64 w vM M /\
     ((va=vL/\vb=vM)∨(va=vM/\vb=vL/\M.length<L.length)):=by
  by_cases h:l0.length<m0.length
  ·exact⟨m0,l0,vb,va,ae,nm0,cm0.lt,cl0.lt,ae,rQ,Z9,Or.inr ⟨rfl,rfl,h⟩⟩
  ·exact⟨l0,m0,va,vb,ae,nl0,cl0.lt,cm0.lt,rfl,Z9,rQ,Or.inl ⟨rfl,rfl⟩⟩
 clear Z9 rQ nl0 nm0 cl0 cm0;obtain⟨L,M,vL,vM,XT,OE,bL,bM,DF,hL,hM,hv⟩:=key;rw[DF];clear DF l0 m0;obtain⟨n,hn⟩:∃ n,n=L.length:=⟨_,rfl⟩
 obtain⟨n',mf⟩:∃ n',n'=M.length:=⟨_,rfl⟩
 obtain⟨adL,Bu,kL,oL,rfl,OG,hcL,wU,wV⟩:=hL;obtain⟨adM,Hh,kM,oM,rfl,XX,hcM,GJ,GL⟩:=hM;rw[← hn] at OE XT OG wU wV hv;rw[← mf] at XT XX GJ GL hv;have HN:=ai hn;have uh:=ai mf;clear hn mf;rcases hv with⟨rfl,rfl⟩|⟨rfl,rfl,aP⟩
 all_goals
  have H1:=ai wU;have H2:=ai wV;have H3:=ai GJ;have H4:=ai GL;clear wU wV GJ GL;go_enter func250,ntmps250;go_wp2_with (at_make;refine wpList_make_own _ rfl _ _ 214 rfl w.heap.size 245 i0 (.int .u64 0) 1 underlying214 hi nI mE _ _ _ (n+1) rfl rfl ae (by rw[jh];omega) (by unfold maxLen;omega) (Nat.le_refl _) ?_;intro w0 jq ni)
  go_loopw [5, 6, 22] (fun out c i wr => ∃ (k carry : Nat) (xs : List Nat), k <= n /\ i = .int .i64 k /\ c = .int .u64 carry /\ jP 1000000000 L M xs k carry /\ out = .slice (some ⟨w.heap.size, 0, none⟩) k (n + 1) /\
      wr.ownsRow w.heap.size 245 1 (.slice (some ⟨w.heap.size,0,none⟩) k (n+1)) k (xs.map fun(x:Nat)=>Value.int .u64 x)/\Ext w wr)
   (fun _ _ i _=>n-(intOf i).toNat)
  case atStart=>exact⟨0,0,[],Nat.zero_le _,rfl,rfl,jP.start _ _ _,rfl,jq,(Below.refl _ _).grown ni (Nat.le_refl _) (fun k h=>by cases h)⟩
  case round =>
   obtain⟨k,carry,xs,hk,rfl,rfl,hinv,rfl,cq,hx⟩:=hrel;by_cases y3:k<n
   ·have Om:=dG 214 245 underlying214 lj (cap:=Bu) (fun h=>(H1.o h).1) k y3;have qE:=(hx.cell (p:=⟨kL,oL+k,none⟩) (H1.o ae).2).trans (H2.o k y3);have I5:=hinv.cle;have hx1:=cv (B:=1000000000) af bL k;have hy1:=cv (B:=1000000000) af bM k;by_cases hkm:k<n'
    ·have Ol:=dG 214 245 underlying214 lj (cap:=Hh) (fun h=>(H3.o h).1) k hkm;have wR:=(hx.cell (p:=⟨kM,oM+k,none⟩) (H3.o ae).2).trans (H4.o k hkm);go_wp2_with (at_builtin;refine wpList_append_fits _ rfl (.tmp 40) (.tmp 43) 214 rfl w.heap.size 245 i0 1 underlying214 hi mE w.heap.size k (n+1) _ rfl (cq.alloc _) ⟨wr.heap.size,0,none⟩ 1 1 [.int .u64 (((carry+L[k]?.getD 0+M[k]?.getD 0) % 1000000000:Nat):Int)] rfl rfl (by intro t u ht;match t,ht with|0,ht=>simp at ht;subst ht;simp[Addr.add]) (by intro u hu;simp at hu;subst hu;rfl) ae ?_;intro w1 dD cG);go_roundw
     case rel=>exact⟨k+1,(carry+L[k]?.getD 0+M[k]?.getD 0) / 1000000000,xs ++ [(carry+L[k]?.getD 0+M[k]?.getD 0) % 1000000000],ae,by go_num,by go_num,hinv.step af bL bM,rfl,by rw[← rK];exact dD,(hx.alloc _).grown cG (fun k e=>by cases e;exact Nat.le_refl _)⟩
     case measure=>simp[intOf];omega
    ·have rQ:M[k]?.getD 0=0:=by rw[List.getElem?_eq_none (by have:=uh.o;omega)];rfl
     have yz:=ai rQ;clear rQ hy1;go_wp2_with (at_builtin;refine wpList_append_fits _ rfl (.tmp 40) (.tmp 43) 214 rfl w.heap.size 245 i0 1 underlying214 hi mE w.heap.size k (n+1) _ rfl (cq.alloc _) ⟨wr.heap.size,0,none⟩ 1 1 [.int .u64 (((carry+L[k]?.getD 0) % 1000000000:Nat):Int)] rfl rfl (by intro t u ht;match t,ht with|0,ht=>simp at ht;subst ht;simp[Addr.add]) (by intro u hu;simp at hu;subst hu;rfl) ae ?_;intro w1 dD cG);go_roundw
     case rel=>exact⟨k+1,(carry+L[k]?.getD 0) / 1000000000,xs ++ [(carry+L[k]?.getD 0) % 1000000000],ae,by go_num,by go_num,by have h:=hinv.step af bL bM;rw[show M.getD k 0=0 from yz.o] at h;exact h,rfl,by rw[← rK];exact dD,(hx.alloc _).grown cG (fun k e=>by cases e;exact Nat.le_refl _)⟩
     case measure=>simp[intOf];omega
   ·obtain rfl:n=k:=ae;have tJ:=(HN.o▸hinv:jP 1000000000 L M xs L.length carry).done af (by rw[← HN.o,← uh.o];exact XT);go_wp2_with (first|(at_builtin;refine wpList_append_fits _ rfl (.tmp 48) (.tmp 50) 214 rfl w.heap.size 245 i0 1 underlying214 hi mE w.heap.size n (n+1) _ rfl (cq.alloc _) ⟨wr.heap.size,0,none⟩ 1 1 [.int .u64 (carry:Int)] rfl rfl (by intro t u ht;match t,ht with|0,ht=>simp at ht;subst ht;simp[Addr.add]) (by intro u hu;simp at hu;subst hu;rfl) ae ?_;intro w1 dD cG;have iE:=dD;rw[rK] at iE)|(go_at_call 238;refine(n6 (xs ++ [carry]) _ _ (Holds.fm iE) tJ.1).mono ?_;rintro e w' ⟨v',rfl,rfl,hm⟩));go_ret;exact⟨v',rfl,(hx.alloc _).grown cG (fun k e=>by cases e;exact Nat.le_refl _),by rw[tJ.2] at hm;exact hm⟩
theorem Canon.sZ{B:Nat}{l m:List Nat}(hB:0<B)(hl:Canon B l)(hm:Canon B m)(h:mv B m<=mv B l):m.length<=l.length:=by
 by_cases hc:m.length<=l.length
 ·exact hc
 ·have:=hl.l8 hB hm ae;omega
def LF(w:World)(n:Nat)(e:Ending)(w':World):Prop:=∃ k cap,e = .returned (.slice (some ⟨w.heap.size,0,none⟩) k cap)/\Ext w w'/\eV w' (.slice (some ⟨w.heap.size,0,none⟩) k cap) n
theorem AJ (a b:Nat) (va vb:Value) (w:World) (ha:eV w va a) (hb:eV w vb b) (fa:Fit a) (hle:b<=a) :
    Calls prog 252 #[va,vb] w (LF w (a-b)):=by
 obtain⟨L,hL,cL,rfl⟩:=ha;obtain⟨M,hM,cM,rfl⟩:=hb;have OE:=fa.len cL rfl;have XT:=cL.sZ af cM hle;have qO:=ai hle;clear fa hle;obtain⟨i0,hi,nI,mE,jh⟩:=info_parts ps;obtain⟨n,hn⟩:∃ n,n=L.length:=⟨_,rfl⟩
 obtain⟨n',mf⟩:∃ n',n'=M.length:=⟨_,rfl⟩
 obtain⟨adL,Bu,kL,oL,rfl,OG,hcL,wU,wV⟩:=hL;obtain⟨adM,Hh,kM,oM,rfl,XX,hcM,GJ,GL⟩:=hM;rw[← hn] at OE XT OG wU wV ⊢;rw[← mf] at XT XX GJ GL ⊢;have HN:=ai hn;have uh:=ai mf;have H1:=ai wU;have H2:=ai wV;have H3:=ai GJ;have H4:=ai GL;have bL:=cL.lt;have bM:=cM.lt;clear wU wV GJ GL hn mf cL cM;go_enter func252,ntmps252;go_wp2_with (at_make;refine wpList_make_own _ rfl _ _ 214 rfl w.heap.size 245 i0 (.int .u64 0) 1 underlying214 hi nI mE _ _ _ n rfl rfl ae (by rw[jh];omega) (by unfold maxLen;omega) (Nat.le_refl _) ?_;intro w0 jq ni)
 go_loopw [5, 6, 15] (fun out c i wr => ∃ (k borrow : Nat) (xs : List Nat), k <= n /\ i = .int .i64 k /\ c = .int .u64 borrow /\ en 1000000000 L M xs k borrow /\ out = .slice (some ⟨w.heap.size, 0, none⟩) k n /\
     wr.ownsRow w.heap.size 245 1 (.slice (some ⟨w.heap.size,0,none⟩) k n) k (xs.map fun(x:Nat)=>Value.int .u64 x)/\Ext w wr)
  (fun _ _ i _=>n-(intOf i).toNat)
 case atStart=>exact⟨0,0,[],Nat.zero_le _,rfl,rfl,en.start _ _ _,rfl,jq,(Below.refl _ _).grown ni (Nat.le_refl _) (fun k h=>by cases h)⟩
 case round =>
  obtain⟨k,borrow,xs,hk,rfl,rfl,hinv,rfl,cq,hx⟩:=hrel;by_cases y3:k<n
  ·have Om:=dG 214 245 underlying214 lj (cap:=Bu) (fun h=>(H1.o h).1) k y3;have qE:=(hx.cell (p:=⟨kL,oL+k,none⟩) (H1.o ae).2).trans (H2.o k y3);have I5:=hinv.ble;have hx1:=cv (B:=1000000000) af bL k;have hy1:=cv (B:=1000000000) af bM k
   have fin : ∀ (w1 : World) (d q : Nat), en 1000000000 L M (xs ++ [d]) (k + 1) q -> w1.ownsRow w.heap.size 245 1 (.slice (some ⟨w.heap.size, 0, none⟩) (k + 1) n) (k + 1) ((xs.map fun (x : Nat) => Value.int .u64 x) ++ [.int .u64 (d : Int)]) -> Ext w w1 ->
       ∃ (k' borrow:Nat) (xs:List Nat),k'<=n/\Value.int .i64 ((k:Int)+1) = .int .i64 k'/\Value.int .u64 (q:Int) = .int .u64 borrow/\en 1000000000 L M xs k' borrow/\Value.slice (some ⟨w.heap.size,0,none⟩) (k+1) n = .slice (some ⟨w.heap.size,0,none⟩) k' n /\
        w1.ownsRow w.heap.size 245 1 (.slice (some ⟨w.heap.size,0,none⟩) k' n) k' (xs.map fun(x:Nat)=>Value.int .u64 x)/\Ext w w1 :=
    fun w1 d q h1 h2 h3=>⟨k+1,q,xs ++ [d],ae,by go_num,rfl,h1,rfl,by rw[← rK];exact h2,h3⟩
   have FIN:=ai fin;clear fin;by_cases hkm:k<n'
   ·have Ol:=dG 214 245 underlying214 lj (cap:=Hh) (fun h=>(H3.o h).1) k hkm;have wR:=(hx.cell (p:=⟨kM,oM+k,none⟩) (H3.o ae).2).trans (H4.o k hkm);by_cases aP:L[k]?.getD 0<borrow+M[k]?.getD 0
    ·have eD:(((L[k]?.getD 0+1000000000-(borrow+M[k]?.getD 0):Nat):Int))=((L[k]?.getD 0:Nat):Int)+1000000000-((borrow:Int)+((M[k]?.getD 0:Nat):Int)):=ae;have ED:=ai eD;clear eD;go_wp2_with (at_builtin;refine wpList_append_fits _ rfl (.tmp 36) (.tmp 40) 214 rfl w.heap.size 245 i0 1 underlying214 hi mE w.heap.size k n _ rfl (cq.alloc _) ⟨wr.heap.size,0,none⟩ 1 1 [.int .u64 (((L[k]?.getD 0+1000000000-(borrow+M[k]?.getD 0):Nat):Int))] rfl rfl (by intro t u ht;match t,ht with|0,ht=>simp at ht;subst ht;rw[ED.out];simp[Addr.add]) (by intro u hu;simp at hu;subst hu;rfl) ae ?_;intro w1 dD cG);go_roundw
     case rel=>exact FIN.out w1 _ 1 (hinv.tB af bL bM (by simpa using aP)) dD ((hx.alloc _).grown cG (fun k e=>by cases e;exact Nat.le_refl _))
     case measure=>simp[intOf];omega
    ·have eD:(((L[k]?.getD 0-(borrow+M[k]?.getD 0):Nat):Int))=((L[k]?.getD 0:Nat):Int)-((borrow:Int)+((M[k]?.getD 0:Nat):Int)):=ae;have ED:=ai eD;clear eD;go_wp2_with (at_builtin;refine wpList_append_fits _ rfl (.tmp 36) (.tmp 40) 214 rfl w.heap.size 245 i0 1 underlying214 hi mE w.heap.size k n _ rfl (cq.alloc _) ⟨wr.heap.size,0,none⟩ 1 1 [.int .u64 (((L[k]?.getD 0-(borrow+M[k]?.getD 0):Nat):Int))] rfl rfl (by intro t u ht;match t,ht with|0,ht=>simp at ht;subst ht;rw[ED.out];simp[Addr.add]) (by intro u hu;simp at hu;subst hu;rfl) ae ?_;intro w1 dD cG);go_roundw
     case rel=>exact FIN.out w1 _ 0 (hinv.vA af bL (by simpa using aP)) dD ((hx.alloc _).grown cG (fun k e=>by cases e;exact Nat.le_refl _))
     case measure=>simp[intOf];omega
   ·have rQ:M[k]?.getD 0=0:=by rw[List.getElem?_eq_none (by have:=uh.o;omega)];rfl
    have yz:=ai rQ;clear rQ hy1;by_cases aP:L[k]?.getD 0<borrow
    ·have eD:(((L[k]?.getD 0+1000000000-borrow:Nat):Int))=((L[k]?.getD 0:Nat):Int)+1000000000-(borrow:Int):=ae;have ED:=ai eD;clear eD;go_wp2_with (at_builtin;refine wpList_append_fits _ rfl (.tmp 36) (.tmp 40) 214 rfl w.heap.size 245 i0 1 underlying214 hi mE w.heap.size k n _ rfl (cq.alloc _) ⟨wr.heap.size,0,none⟩ 1 1 [.int .u64 (((L[k]?.getD 0+1000000000-borrow:Nat):Int))] rfl rfl (by intro t u ht;match t,ht with|0,ht=>simp at ht;subst ht;rw[ED.out];simp[Addr.add]) (by intro u hu;simp at hu;subst hu;rfl) ae ?_;intro w1 dD cG);go_roundw
     case rel=>exact FIN.out w1 _ 1 (by have h:=hinv.tB af bL bM (by rw[show M.getD k 0=0 from yz.o];simpa using aP);rw[show M.getD k 0=0 from yz.o] at h;exact h) dD ((hx.alloc _).grown cG (fun k e=>by cases e;exact Nat.le_refl _))
     case measure=>simp[intOf];omega
    ·have eD:(((L[k]?.getD 0-borrow:Nat):Int))=((L[k]?.getD 0:Nat):Int)-(borrow:Int):=ae;have ED:=ai eD;clear eD;go_wp2_with (at_builtin;refine wpList_append_fits _ rfl (.tmp 36) (.tmp 40) 214 rfl w.heap.size 245 i0 1 underlying214 hi mE w.heap.size k n _ rfl (cq.alloc _) ⟨wr.heap.size,0,none⟩ 1 1 [.int .u64 (((L[k]?.getD 0-borrow:Nat):Int))] rfl rfl (by intro t u ht;match t,ht with|0,ht=>simp at ht;subst ht;rw[ED.out];simp[Addr.add]) (by intro u hu;simp at hu;subst hu;rfl) ae ?_;intro w1 dD cG);go_roundw
     case rel=>exact FIN.out w1 _ 0 (by have h:=hinv.vA af bL (by rw[show M.getD k 0=0 from yz.o];simpa using aP);rw[show M.getD k 0=0 from yz.o] at h;exact h) dD ((hx.alloc _).grown cG (fun k e=>by cases e;exact Nat.le_refl _))
     case measure=>simp[intOf];omega
  ·obtain rfl:n=k:=ae;have tJ:=(HN.o▸hinv:en 1000000000 L M xs L.length borrow).done (by rw[← HN.o,← uh.o];exact XT) qO.o;have aP:=hinv.lt;go_wp2_with (go_at_call 238;refine(Fo xs _ _ (Holds.fm cq) aP).mono ?_;rintro e w' ⟨v',rfl,rfl,hm,uM,n',k',Lq,hv,rfl⟩;cases hv);go_ret;exact⟨_,_,rfl,hx,by rw[tJ] at hm;exact hm⟩
theorem mW (a b:Nat) (va vb:Value) (w:World) (ha:eV w va a) (hb:eV w vb b) (fa:Fit a) (hle:b<=a) :
    Calls prog 252 #[va,vb] w (uN w (a-b)) :=
 (AJ a b va vb w ha hb fa hle).mono fun _ _ ⟨_,_,h1,h2,h3⟩=>⟨_,h1,h2,h3⟩
def Own(w wr:World)(n:Nat)(xs:List Nat):Prop :=
 xs.length=n/\wr.ownsRow w.heap.size 245 1 (.slice (some ⟨w.heap.size,0,none⟩) n n) n (xs.map fun(x:Nat)=>Value.int .u64 x)/\Ext w wr
theorem Own.cell{w wr:World}{n:Nat}{xs:List Nat}(h:Own w wr n xs)(i:Nat)(hi:i<n):wr.cell? ⟨w.heap.size,i,none⟩=some (.int .u64 ((xs[i]?.getD 0:Nat):Int)):=by
 have:=h.2.1.cellAt i ae;rw[this];simp[show i<xs.length by rw[h.1];exact hi]
theorem Own.free{w wr:World}{n:Nat}{xs:List Nat}(h:Own w wr n xs)(i:Nat):wr.frozen? ⟨w.heap.size,i,none⟩=false:=h.2.1.frozenAt i
theorem Own.set{w wr:World}{n:Nat}{xs:List Nat}(h:Own w wr n xs)(i x:Nat):Own w (wr.setCell ⟨w.heap.size,i,none⟩ (.int .u64 (x:Int))) n (xs.set i x):=by
 have:=h.2.1.stored i (.int .u64 (x:Int));refine⟨by rw[List.length_set];exact h.1,?_,h.2.2.setCell (Nat.le_refl _) _⟩;rw[List.map_set];exact this.1
theorem Own.holds{w wr:World}{n:Nat}{xs:List Nat}(h:Own w wr n xs):Holds .u64 wr (.slice (some ⟨w.heap.size,0,none⟩) n n) xs:=Holds.fm h.2.1
theorem pq(k:IntKind)(n:Nat):(madeCells (Value.int k 0).cells (n*1)).toList=(List.replicate n 0).map fun(x:Nat)=>Value.int k x:=by
 apply List.ext_getElem
 ·simp[madeCells]
 ·intro i h1 h2;simp[madeCells,Value.cells,Nat.mod_one]
set_option maxHeartbeats 4000000 in
theorem z8 (a b:Nat) (va vb:Value) (w:World) (ha:eV w va a) (hb:eV w vb b) (fa:Fit a) (fb:Fit b) :
    Calls prog 170 #[va,vb] w (uN w (a*b)):=by
 obtain⟨L,hL,cL,rfl⟩:=ha;obtain⟨M,hM,cM,rfl⟩:=hb;have OE:=fa.len cL rfl;have hM2:=fb.len cM rfl;clear fa fb;obtain⟨i0,hi,nI,mE,jh⟩:=info_parts ps;obtain⟨n,hn⟩:∃ n,n=L.length:=⟨_,rfl⟩
 obtain⟨n',mf⟩:∃ n',n'=M.length:=⟨_,rfl⟩
 obtain⟨adL,Bu,kL,oL,rfl,OG,hcL,wU,wV⟩:=hL;obtain⟨adM,Hh,kM,oM,rfl,XX,hcM,GJ,GL⟩:=hM;rw[← hn] at OE OG wU wV ⊢;rw[← mf] at hM2 XX GJ GL ⊢;have HN:=ai hn;have uh:=ai mf;have H1:=ai wU;have H2:=ai wV;have H3:=ai GJ;have H4:=ai GL;have BL:=ai cL.lt;have BM:=ai cM.lt;clear wU wV GJ GL hn mf cL cM;go_enter func170,ntmps170;go_wp2_with (at_make;refine wpList_make_full _ rfl _ _ 214 rfl w.heap.size 245 i0 (.int .u64 0) 1 underlying214 hi nI mE _ _ _ _ (n+n'+1) rfl rfl ae ae (by rw[jh];omega) (by unfold maxLen;omega) (Nat.le_refl _) ?_;intro w0 jq ni);rw[pq] at jq;go_loopw [21] (fun i wr=>∃ (k:Nat) (xs:List Nat),k<=n/\i = .int .i64 k/\Own w wr (n+n'+1) xs/\bK 1000000000 xs/\mv 1000000000 xs=mv 1000000000 (L.take k)*mv 1000000000 M)
  (fun i _=>n-(intOf i).toNat)
 case atStart =>
  exact⟨0,List.replicate (n+n'+1) 0,Nat.zero_le _,rfl,⟨by simp,jq,(Below.refl _ _).grown ni (Nat.le_refl _) (fun k h=>by cases h)⟩,fun x hx=>by rw[(List.mem_replicate.1 hx).2];decide,by rw[wg];simp[mv]⟩
 case round =>
  obtain⟨k,xs,hk,rfl,cq,hbx,iR⟩:=hrel;have HBX:=ai hbx;have qc8:=ai iR;have tk:=ai cq;clear hbx iR;by_cases y3:k<n
  ·obtain⟨wo,rfl⟩:∃ wo:World,wo=wr:=⟨_,rfl⟩
   obtain⟨x,hx⟩:∃ x,x=L[k]?.getD 0:=⟨_,rfl⟩
   have pQ:x<1000000000:=by rw[hx];exact cv af BL.out k
   have qE:wo.cell? ⟨kL,oL+k,none⟩=some (.int .u64 (x:Int)):=by
    rw[hx];exact(cq.2.2.cell (p:=⟨kL,oL+k,none⟩) (H1.o ae).2).trans (H2.o k y3)
   have HX:=ai hx;clear hx cq;have Om:=dG 214 245 underlying214 lj (cap:=Bu) (fun h=>(H1.o h).1) k y3;go_wp2;go_loopw [8,28] (fun c i wr=>∃ (j carry:Nat) (ys:List Nat),j<=n'/\i = .int .i64 j/\c = .int .u64 carry/\Own w wr (n+n'+1) ys/\gR 1000000000 (mv 1000000000 (L.take k)*mv 1000000000 M) x M ys k j carry)
    (fun _ i _=>n'-(intOf i).toNat)
   case atStart=>exact⟨0,0,xs,Nat.zero_le _,rfl,rfl,tk.o,gR.start af HBX.o qc8.o⟩
   case round =>
    obtain⟨j,carry,ys,hj,rfl,rfl,cq,jL⟩:=hrel;have TK:=ai jL;have nU:=jL.cle;clear jL;by_cases rT:j<n'
    ·have Ol:=dG 214 245 underlying214 lj (cap:=Hh) (fun h=>(H3.o h).1) j rT;obtain⟨y,hy⟩:∃ y,y=M[j]?.getD 0:=⟨_,rfl⟩
     obtain⟨o,ho⟩:∃ o,o=ys[k+j]?.getD 0:=⟨_,rfl⟩
     have AQ:y<1000000000:=by rw[hy];exact cv af BM.out j
     have qby:o<1000000000:=by rw[ho];exact cv af TK.o.lt (k+j)
     have wR:wr.cell? ⟨kM,oM+j,none⟩=some (.int .u64 (y:Int)):=by
      rw[hy];exact(cq.2.2.cell (p:=⟨kM,oM+j,none⟩) (H3.o ae).2).trans (H4.o j rT)
     have Ox:wr.cell? ⟨w.heap.size,k+j,none⟩=some (.int .u64 (o:Int)):=by
      rw[ho];exact cq.cell (k+j) ae
     have wN:=cq.free (k+j);have Uk:x*y<=999999998000000001:=by
      have:=Nat.mul_le_mul (show x<=999999999 by omega) (show y<=999999999 by omega);omega
     have qgo:(x:Int)*(y:Int)<=999999998000000001:=by
      have:((x*y:Nat):Int)<=999999998000000001:=ae;rwa[Int.natCast_mul] at this
     have qgn:(0:Int)<=(x:Int)*(y:Int):=Int.mul_nonneg ae ae;have HY:=ai hy;have HO:=ai ho;have PL:=ai cq;clear hy ho cq;have hlen:ys.length=n+n'+1:=PL.o.1;have kp:=ai (TK.o.Mt af pQ BM.out (by have:=uh.o;omega) ae HO.o HY.o);have nR:=ai (PL.o.set (k+j) ((carry+(o+x*y)) % 1000000000));clear hlen;go_wp2;go_roundw
     case rel=>exact⟨j+1,(carry+(o+x*y)) / 1000000000,_,ae,by go_num,by simp only[Value.int.injEq,true_and];omega,by have:=nR.o;rw[show(((carry+(o+x*y)) % 1000000000:Nat):Int)=((carry:Int)+((o:Int)+(x:Int)*(y:Int))) % 1000000000 by simp] at this;exact this,kp.o⟩
     case measure=>simp[intOf];omega
    ·obtain rfl:n'=j:=ae;have tJ:=(uh.o▸TK.o:gR 1000000000 (mv 1000000000 (L.take k)*mv 1000000000 M) x M ys k M.length carry).done;rw[← uh.o,show mv 1000000000 (L.take k)*mv 1000000000 M+1000000000 ^ k*(x*mv 1000000000 M)=mv 1000000000 (L.take (k+1))*mv 1000000000 M by rw[Fx,HX.o]] at tJ;have qdH:=ai tJ;have PL:=ai cq;clear tJ cq;have ou:mv 1000000000 (L.take (k+1))*mv 1000000000 M<1000000000 ^ (n+n'):=by
      have h1:=pX (xu BL.out (k+1));have h2:=pX BM.out;rw[← uh.o] at h2;rw[List.length_take,← HN.o,Nat.min_eq_left ae] at h1;have h3:=Ge h1 h2;exact Nat.lt_of_lt_of_le h3 (Nat.pow_le_pow_right af ae)
     have HR:=ai ou;clear ou;go_wp2;go_loopw [8,11] (fun c i wr=>∃ (p carry:Nat) (ys:List Nat),p<=n+n'+1/\i = .int .i64 p/\c = .int .u64 carry/\Own w wr (n+n'+1) ys/\eU 1000000000 (mv 1000000000 (L.take (k+1))*mv 1000000000 M) ys p carry)
      (fun _ i _=>n+n'+1-(intOf i).toNat)
     case atStart=>exact⟨k+n',carry,ys,ae,by go_num,rfl,PL.o,qdH.o⟩
     case round =>
      obtain⟨p,carry,ys,hp,rfl,rfl,cq,jL⟩:=hrel;have TK:=ai jL;have PL:=ai cq;have nU:=jL.cle;clear jL cq;by_cases I6:0<carry
      ·have hlen:ys.length=n+n'+1:=PL.o.1;have hpl:p<n+n'+1:=by have:=TK.o.room af I6 HR.o ae;omega
       obtain⟨o,ho⟩:∃ o,o=ys[p]?.getD 0:=⟨_,rfl⟩
       have qby:o<1000000000:=by rw[ho];exact cv af TK.o.lt p
       have Ox:wr.cell? ⟨w.heap.size,p,none⟩=some (.int .u64 (o:Int)):=by
        rw[ho];exact PL.o.cell p hpl
       have wN:=PL.o.free p;have kp:=ai (TK.o.Mt af ae ho);have nR:=ai (PL.o.set p ((carry+o) % 1000000000));clear hlen ho;go_wp2;go_roundw
       case rel=>exact⟨p+1,(carry+o) / 1000000000,_,ae,by go_num,by go_num,by have:=nR.o;rw[show(((carry+o) % 1000000000:Nat):Int)=((carry:Int)+(o:Int)) % 1000000000 by omega] at this;exact this,kp.o⟩
       case measure=>simp[intOf];omega
      ·obtain rfl:carry=0:=ae;have rS:=TK.o.sum;rw[Nat.mul_zero,Nat.add_zero] at rS;have HL:=ai rS;clear rS;go_wp2;go_roundw
       case rel=>exact⟨k+1,ys,ae,by go_num,PL.o,TK.o.lt,HL.o⟩
       case measure=>simp[intOf];omega
  ·obtain rfl:n=k:=ae;go_wp2_with (go_at_call 238;refine(n6 xs _ _ cq.holds HBX.o).mono ?_;rintro e w' ⟨v',rfl,rfl,hm⟩);go_ret;exact⟨v',rfl,cq.2.2,by rw[qc8.o,List.take_of_length_le (by have:=HN.o;omega)] at hm;exact hm⟩
theorem yT{k:IntKind}{w:World}{t:TypeId}{d:Nat}:Holds k (w.alloc (.cells #[.int k (d:Int)] t)) (.slice (some ⟨w.heap.size,0,none⟩) 1 1) [d]:=by
 refine Holds.some rfl ae ae (by simp) (fun i hi=>?_);have:i=0:=by simpa using hi
 subst this;simp
theorem Fit.small{d:Nat}(h:d<1000000000):Fit d:=⟨Xa af h af⟩
theorem ur (a d:Nat) (va:Value) (w:World) (ha:eV w va a) (fa:Fit a) (hd:d<1000000000) :
    Calls prog 273 #[va,.int .u64 (d:Int)] w (uN w (a*d)):=by
 have h1:=@yT .u64 w 245 d;have e1:Ext w (w.alloc (.cells #[.int .u64 (d:Int)] 245)):=(Ext.refl w).alloc _;have hm:mv 1000000000 [d]=d:=gP _ _;have hbd:bK 1000000000 [d]:=by intro x hx;simp at hx;omega
 have fd:=Fit.small hd;have HM:=ai hm;clear hm;go_enter func273,ntmps273;go_wp2_with (first
  | (go_at_call 238;refine(n6 [d] _ _ h1 hbd).mono ?_;rintro e w' ⟨v',rfl,rfl,hm⟩)
  | (go_at_call 170;refine(z8 a _ va _ _ (ha.ext e1) hm fa (by rw[HM.o];exact fd)).mono ?_;rintro e w' ⟨v2,rfl,e2,QP⟩))
 go_ret;exact⟨v2,rfl,e1.trans e2,by rw[HM.o] at QP;exact QP⟩
