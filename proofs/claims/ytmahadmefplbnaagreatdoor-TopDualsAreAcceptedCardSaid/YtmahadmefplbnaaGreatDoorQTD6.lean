/- Part 6. -/
import Derived.Test.YtmahadmefplbnaaGreatDoorQTDB
import Derived.Test.YtmahadmefplbnaaGreatDoorQTD5
import Derived.Outline
set_option maxRecDepth 100000
set_option maxHeartbeats 2000000
open Go.Proofs.Tryz
namespace Go.Proofs.YtmahadmefplbnaaGreatDoor
open Go Go.RowKit
def lF(w:World)(n:Nat)(e:Ending)(w':World):Prop:=∃ v,e = .returned v/\Ext w w'/\cz w' v n
theorem eO{k:IntKind}{l:List Nat}{x:Nat}:(l.map fun(x:Nat)=>Value.int k x) ++ [.int k (x:Int)]=(l ++ [x]).map fun(x:Nat)=>Value.int k x:=by simp
theorem aK{B:Nat}{l:List Nat}(hB:0<B)(h:aC B l)(i:Nat):l[i]?.getD 0<B:=by
 simpa using fp hB h i
theorem fX(w:World):(sizeOf 245).run prog w = .ok 1 w:=ag
theorem sC (a b:Nat) (va vb:Value) (w:World) (ha:cz w va a) (hb:cz w vb b) (fa:Fit a) (fb:Fit b) :
    Calls prog 250 #[va,vb] w (lF w (a+b)):=by
 obtain⟨l0,hl0,cl0,rfl⟩:=ha;obtain⟨m0,hm0,cm0,rfl⟩:=hb;have nl0:=fa.len cl0 rfl;have nm0:=fb.len cm0 rfl;clear fa fb;obtain⟨i0,hi,hz0,hz1,hz2⟩:=info_parts iV
 -- L is the longer one,M the other
 have key:∃ L M vL vM,M.length<=L.length/\L.length<=2000/\aC 1000000000 L/\aC 1000000000 M/\mv 1000000000 l0+mv 1000000000 m0=mv 1000000000 L+mv 1000000000 M/\Holds .u64 w vL L/\Holds .u64 w vM M /\
     ((va=vL/\vb=vM)∨(va=vM/\vb=vL/\M.length<L.length)):=by
  by_cases h:l0.length<m0.length
  ·exact⟨m0,l0,vb,va,ae,nm0,cm0.lt,cl0.lt,ae,hm0,hl0,Or.inr ⟨rfl,rfl,h⟩⟩
  ·exact⟨l0,m0,va,vb,ae,nl0,cl0.lt,cm0.lt,rfl,hl0,hm0,Or.inl ⟨rfl,rfl⟩⟩
 clear hl0 hm0 nl0 nm0 cl0 cm0;obtain⟨L,M,vL,vM,hML,hL2,bL,bM,hsum,hL,hM,hv⟩:=key;rw[hsum];clear hsum l0 m0;obtain⟨n,hn⟩:∃ n,n=L.length:=⟨_,rfl⟩
 obtain⟨n',hn'⟩:∃ n',n'=M.length:=⟨_,rfl⟩
 obtain⟨adL,capL,kL,oL,rfl,h1L,hcL,hbL,hCL⟩:=hL;obtain⟨adM,capM,kM,oM,rfl,h1M,hcM,hbM,hCM⟩:=hM;rw[← hn] at hL2 hML h1L hbL hCL hv;rw[← hn'] at hML h1M hbM hCM hv;have HN:=aj hn;have HN':=aj hn';clear hn hn';rcases hv with⟨rfl,rfl⟩|⟨rfl,rfl,hlt⟩
 all_goals
  have H1:=aj hbL;have H2:=aj hCL;have H3:=aj hbM;have H4:=aj hCM;clear hbL hCL hbM hCM;go_enter func250,ntmps250;go_wp2_with (at_make;refine wpList_make_own _ rfl _ _ 214 rfl w.heap.size 245 i0 (.int .u64 0) 1 underlying214 hi hz0 hz1 _ _ _ (n+1) rfl rfl ae (by rw[hz2];omega) (by unfold maxLen;omega) (Nat.le_refl _) ?_;intro w0 hown0 hgrow0)
  go_loopw [5, 6, 22] (fun out c i wr => ∃ (k carry : Nat) (xs : List Nat), k <= n /\ i = .int .i64 k /\ c = .int .u64 carry /\ dp 1000000000 L M xs k carry /\ out = .slice (some ⟨w.heap.size, 0, none⟩) k (n + 1) /\
      wr.ownsRow w.heap.size 245 1 (.slice (some ⟨w.heap.size,0,none⟩) k (n+1)) k (xs.map fun(x:Nat)=>Value.int .u64 x)/\Ext w wr)
   (fun _ _ i _=>n-(intOf i).toNat)
  case atStart=>exact⟨0,0,[],Nat.zero_le _,rfl,rfl,dp.start _ _ _,rfl,hown0,(Below.refl _ _).grown hgrow0 (Nat.le_refl _) (fun k h=>by cases h)⟩
  case round =>
   obtain⟨k,carry,xs,hk,rfl,rfl,hinv,rfl,hown,hx⟩:=hrel;by_cases hkn:k<n
   ·have hix1:=aQ 214 245 underlying214 fX (cap:=capL) (fun h=>(H1.o h).1) k hkn;have hcell1:=(hx.cell (p:=⟨kL,oL+k,none⟩) (H1.o ae).2).trans (H2.o k hkn);have hc1:=hinv.cle;have hx1:=aK (B:=1000000000) af bL k;have hy1:=aK (B:=1000000000) af bM k;by_cases hkm:k<n'
    ·have hix2:=aQ 214 245 underlying214 fX (cap:=capM) (fun h=>(H3.o h).1) k hkm;have hcell2:=(hx.cell (p:=⟨kM,oM+k,none⟩) (H3.o ae).2).trans (H4.o k hkm);go_wp2_with (at_builtin;refine wpList_append_fits _ rfl (.tmp 40) (.tmp 43) 214 rfl w.heap.size 245 i0 1 underlying214 hi hz1 w.heap.size k (n+1) _ rfl (hown.alloc _) ⟨wr.heap.size,0,none⟩ 1 1 [.int .u64 (((carry+L[k]?.getD 0+M[k]?.getD 0) % 1000000000:Nat):Int)] rfl rfl (by intro t u ht;match t,ht with|0,ht=>simp at ht;subst ht;simp[Addr.add]) (by intro u hu;simp at hu;subst hu;rfl) ae ?_;intro w1 hown1 hgrow1);go_roundw
     case rel=>exact⟨k+1,(carry+L[k]?.getD 0+M[k]?.getD 0) / 1000000000,xs ++ [(carry+L[k]?.getD 0+M[k]?.getD 0) % 1000000000],ae,by go_num,by go_num,hinv.step af bL bM,rfl,by rw[← eO];exact hown1,(hx.alloc _).grown hgrow1 (fun k e=>by cases e;exact Nat.le_refl _)⟩
     case measure=>simp[intOf];omega
    ·have hm0:M[k]?.getD 0=0:=by rw[List.getElem?_eq_none (by have:=HN'.o;omega)];rfl
     have HM0:=aj hm0;clear hm0 hy1;go_wp2_with (at_builtin;refine wpList_append_fits _ rfl (.tmp 40) (.tmp 43) 214 rfl w.heap.size 245 i0 1 underlying214 hi hz1 w.heap.size k (n+1) _ rfl (hown.alloc _) ⟨wr.heap.size,0,none⟩ 1 1 [.int .u64 (((carry+L[k]?.getD 0) % 1000000000:Nat):Int)] rfl rfl (by intro t u ht;match t,ht with|0,ht=>simp at ht;subst ht;simp[Addr.add]) (by intro u hu;simp at hu;subst hu;rfl) ae ?_;intro w1 hown1 hgrow1);go_roundw
     case rel=>exact⟨k+1,(carry+L[k]?.getD 0) / 1000000000,xs ++ [(carry+L[k]?.getD 0) % 1000000000],ae,by go_num,by go_num,by have h:=hinv.step af bL bM;rw[show M.getD k 0=0 from HM0.o] at h;exact h,rfl,by rw[← eO];exact hown1,(hx.alloc _).grown hgrow1 (fun k e=>by cases e;exact Nat.le_refl _)⟩
     case measure=>simp[intOf];omega
   ·obtain rfl:n=k:=ae;have hdone:=(HN.o▸hinv:dp 1000000000 L M xs L.length carry).done af (by rw[← HN.o,← HN'.o];exact hML);go_wp2_with (first|(at_builtin;refine wpList_append_fits _ rfl (.tmp 48) (.tmp 50) 214 rfl w.heap.size 245 i0 1 underlying214 hi hz1 w.heap.size n (n+1) _ rfl (hown.alloc _) ⟨wr.heap.size,0,none⟩ 1 1 [.int .u64 (carry:Int)] rfl rfl (by intro t u ht;match t,ht with|0,ht=>simp at ht;subst ht;simp[Addr.add]) (by intro u hu;simp at hu;subst hu;rfl) ae ?_;intro w1 hown1 hgrow1;have hown2:=hown1;rw[eO] at hown2)|(go_at_call 238;refine(ik (xs ++ [carry]) _ _ (Holds.bX hown2) hdone.1).mono ?_;rintro e w' ⟨v',rfl,rfl,hm⟩));go_ret;exact⟨v',rfl,(hx.alloc _).grown hgrow1 (fun k e=>by cases e;exact Nat.le_refl _),by rw[hdone.2] at hm;exact hm⟩
theorem Canon.jt{B:Nat}{l m:List Nat}(hB:0<B)(hl:Canon B l)(hm:Canon B m)(h:mv B m<=mv B l):m.length<=l.length:=by
 by_cases hc:m.length<=l.length
 ·exact hc
 ·have:=hl.eB hB hm ae;omega
def wI(w:World)(n:Nat)(e:Ending)(w':World):Prop:=∃ k cap,e = .returned (.slice (some ⟨w.heap.size,0,none⟩) k cap)/\Ext w w'/\cz w' (.slice (some ⟨w.heap.size,0,none⟩) k cap) n
theorem pE (a b:Nat) (va vb:Value) (w:World) (ha:cz w va a) (hb:cz w vb b) (fa:Fit a) (hle:b<=a) :
    Calls prog 252 #[va,vb] w (wI w (a-b)):=by
 obtain⟨L,hL,cL,rfl⟩:=ha;obtain⟨M,hM,cM,rfl⟩:=hb;have hL2:=fa.len cL rfl;have hML:=cL.jt af cM hle;have HLE:=aj hle;clear fa hle;obtain⟨i0,hi,hz0,hz1,hz2⟩:=info_parts iV;obtain⟨n,hn⟩:∃ n,n=L.length:=⟨_,rfl⟩
 obtain⟨n',hn'⟩:∃ n',n'=M.length:=⟨_,rfl⟩
 obtain⟨adL,capL,kL,oL,rfl,h1L,hcL,hbL,hCL⟩:=hL;obtain⟨adM,capM,kM,oM,rfl,h1M,hcM,hbM,hCM⟩:=hM;rw[← hn] at hL2 hML h1L hbL hCL ⊢;rw[← hn'] at hML h1M hbM hCM ⊢;have HN:=aj hn;have HN':=aj hn';have H1:=aj hbL;have H2:=aj hCL;have H3:=aj hbM;have H4:=aj hCM;have bL:=cL.lt;have bM:=cM.lt;clear hbL hCL hbM hCM hn hn' cL cM;go_enter func252,ntmps252;go_wp2_with (at_make;refine wpList_make_own _ rfl _ _ 214 rfl w.heap.size 245 i0 (.int .u64 0) 1 underlying214 hi hz0 hz1 _ _ _ n rfl rfl ae (by rw[hz2];omega) (by unfold maxLen;omega) (Nat.le_refl _) ?_;intro w0 hown0 hgrow0)
 go_loopw [5, 6, 15] (fun out c i wr => ∃ (k borrow : Nat) (xs : List Nat), k <= n /\ i = .int .i64 k /\ c = .int .u64 borrow /\ aW 1000000000 L M xs k borrow /\ out = .slice (some ⟨w.heap.size, 0, none⟩) k n /\
     wr.ownsRow w.heap.size 245 1 (.slice (some ⟨w.heap.size,0,none⟩) k n) k (xs.map fun(x:Nat)=>Value.int .u64 x)/\Ext w wr)
  (fun _ _ i _=>n-(intOf i).toNat)
 case atStart=>exact⟨0,0,[],Nat.zero_le _,rfl,rfl,aW.start _ _ _,rfl,hown0,(Below.refl _ _).grown hgrow0 (Nat.le_refl _) (fun k h=>by cases h)⟩
 case round =>
  obtain⟨k,borrow,xs,hk,rfl,rfl,hinv,rfl,hown,hx⟩:=hrel;by_cases hkn:k<n
  ·have hix1:=aQ 214 245 underlying214 fX (cap:=capL) (fun h=>(H1.o h).1) k hkn;have hcell1:=(hx.cell (p:=⟨kL,oL+k,none⟩) (H1.o ae).2).trans (H2.o k hkn);have hc1:=hinv.ble;have hx1:=aK (B:=1000000000) af bL k;have hy1:=aK (B:=1000000000) af bM k
   have fin : ∀ (w1 : World) (d q : Nat), aW 1000000000 L M (xs ++ [d]) (k + 1) q -> w1.ownsRow w.heap.size 245 1 (.slice (some ⟨w.heap.size, 0, none⟩) (k + 1) n) (k + 1) ((xs.map fun (x : Nat) => Value.int .u64 x) ++ [.int .u64 (d : Int)]) -> Ext w w1 ->
       ∃ (k' borrow:Nat) (xs:List Nat),k'<=n/\Value.int .i64 ((k:Int)+1) = .int .i64 k'/\Value.int .u64 (q:Int) = .int .u64 borrow/\aW 1000000000 L M xs k' borrow/\Value.slice (some ⟨w.heap.size,0,none⟩) (k+1) n = .slice (some ⟨w.heap.size,0,none⟩) k' n /\
        w1.ownsRow w.heap.size 245 1 (.slice (some ⟨w.heap.size,0,none⟩) k' n) k' (xs.map fun(x:Nat)=>Value.int .u64 x)/\Ext w w1 :=
    fun w1 d q h1 h2 h3=>⟨k+1,q,xs ++ [d],ae,by go_num,rfl,h1,rfl,by rw[← eO];exact h2,h3⟩
   have FIN:=aj fin;clear fin;by_cases hkm:k<n'
   ·have hix2:=aQ 214 245 underlying214 fX (cap:=capM) (fun h=>(H3.o h).1) k hkm;have hcell2:=(hx.cell (p:=⟨kM,oM+k,none⟩) (H3.o ae).2).trans (H4.o k hkm);by_cases hlt:L[k]?.getD 0<borrow+M[k]?.getD 0
    ·have eD:(((L[k]?.getD 0+1000000000-(borrow+M[k]?.getD 0):Nat):Int))=((L[k]?.getD 0:Nat):Int)+1000000000-((borrow:Int)+((M[k]?.getD 0:Nat):Int)):=ae;have ED:=aj eD;clear eD;go_wp2_with (at_builtin;refine wpList_append_fits _ rfl (.tmp 36) (.tmp 40) 214 rfl w.heap.size 245 i0 1 underlying214 hi hz1 w.heap.size k n _ rfl (hown.alloc _) ⟨wr.heap.size,0,none⟩ 1 1 [.int .u64 (((L[k]?.getD 0+1000000000-(borrow+M[k]?.getD 0):Nat):Int))] rfl rfl (by intro t u ht;match t,ht with|0,ht=>simp at ht;subst ht;rw[ED.out];simp[Addr.add]) (by intro u hu;simp at hu;subst hu;rfl) ae ?_;intro w1 hown1 hgrow1);go_roundw
     case rel=>exact FIN.out w1 _ 1 (hinv.il af bL bM (by simpa using hlt)) hown1 ((hx.alloc _).grown hgrow1 (fun k e=>by cases e;exact Nat.le_refl _))
     case measure=>simp[intOf];omega
    ·have eD:(((L[k]?.getD 0-(borrow+M[k]?.getD 0):Nat):Int))=((L[k]?.getD 0:Nat):Int)-((borrow:Int)+((M[k]?.getD 0:Nat):Int)):=ae;have ED:=aj eD;clear eD;go_wp2_with (at_builtin;refine wpList_append_fits _ rfl (.tmp 36) (.tmp 40) 214 rfl w.heap.size 245 i0 1 underlying214 hi hz1 w.heap.size k n _ rfl (hown.alloc _) ⟨wr.heap.size,0,none⟩ 1 1 [.int .u64 (((L[k]?.getD 0-(borrow+M[k]?.getD 0):Nat):Int))] rfl rfl (by intro t u ht;match t,ht with|0,ht=>simp at ht;subst ht;rw[ED.out];simp[Addr.add]) (by intro u hu;simp at hu;subst hu;rfl) ae ?_;intro w1 hown1 hgrow1);go_roundw
     case rel=>exact FIN.out w1 _ 0 (hinv.jg af bL (by simpa using hlt)) hown1 ((hx.alloc _).grown hgrow1 (fun k e=>by cases e;exact Nat.le_refl _))
     case measure=>simp[intOf];omega
   ·have hm0:M[k]?.getD 0=0:=by rw[List.getElem?_eq_none (by have:=HN'.o;omega)];rfl
    have HM0:=aj hm0;clear hm0 hy1;by_cases hlt:L[k]?.getD 0<borrow
    ·have eD:(((L[k]?.getD 0+1000000000-borrow:Nat):Int))=((L[k]?.getD 0:Nat):Int)+1000000000-(borrow:Int):=ae;have ED:=aj eD;clear eD;go_wp2_with (at_builtin;refine wpList_append_fits _ rfl (.tmp 36) (.tmp 40) 214 rfl w.heap.size 245 i0 1 underlying214 hi hz1 w.heap.size k n _ rfl (hown.alloc _) ⟨wr.heap.size,0,none⟩ 1 1 [.int .u64 (((L[k]?.getD 0+1000000000-borrow:Nat):Int))] rfl rfl (by intro t u ht;match t,ht with|0,ht=>simp at ht;subst ht;rw[ED.out];simp[Addr.add]) (by intro u hu;simp at hu;subst hu;rfl) ae ?_;intro w1 hown1 hgrow1);go_roundw
     case rel=>exact FIN.out w1 _ 1 (by have h:=hinv.il af bL bM (by rw[show M.getD k 0=0 from HM0.o];simpa using hlt);rw[show M.getD k 0=0 from HM0.o] at h;exact h) hown1 ((hx.alloc _).grown hgrow1 (fun k e=>by cases e;exact Nat.le_refl _))
     case measure=>simp[intOf];omega
    ·have eD:(((L[k]?.getD 0-borrow:Nat):Int))=((L[k]?.getD 0:Nat):Int)-(borrow:Int):=ae;have ED:=aj eD;clear eD;go_wp2_with (at_builtin;refine wpList_append_fits _ rfl (.tmp 36) (.tmp 40) 214 rfl w.heap.size 245 i0 1 underlying214 hi hz1 w.heap.size k n _ rfl (hown.alloc _) ⟨wr.heap.size,0,none⟩ 1 1 [.int .u64 (((L[k]?.getD 0-borrow:Nat):Int))] rfl rfl (by intro t u ht;match t,ht with|0,ht=>simp at ht;subst ht;rw[ED.out];simp[Addr.add]) (by intro u hu;simp at hu;subst hu;rfl) ae ?_;intro w1 hown1 hgrow1);go_roundw
     case rel=>exact FIN.out w1 _ 0 (by have h:=hinv.jg af bL (by rw[show M.getD k 0=0 from HM0.o];simpa using hlt);rw[show M.getD k 0=0 from HM0.o] at h;exact h) hown1 ((hx.alloc _).grown hgrow1 (fun k e=>by cases e;exact Nat.le_refl _))
     case measure=>simp[intOf];omega
  ·obtain rfl:n=k:=ae;have hdone:=(HN.o▸hinv:aW 1000000000 L M xs L.length borrow).done (by rw[← HN.o,← HN'.o];exact hML) HLE.o;have hlt:=hinv.lt;go_wp2_with (go_at_call 238;refine(rW xs _ _ (Holds.bX hown) hlt).mono ?_;rintro e w' ⟨v',rfl,rfl,hm,ad',n',k',cap',hv,rfl⟩;cases hv);go_ret;exact⟨_,_,rfl,hx,by rw[hdone] at hm;exact hm⟩
theorem gS (a b:Nat) (va vb:Value) (w:World) (ha:cz w va a) (hb:cz w vb b) (fa:Fit a) (hle:b<=a) :
    Calls prog 252 #[va,vb] w (lF w (a-b)) :=
 (pE a b va vb w ha hb fa hle).mono fun _ _ ⟨_,_,h1,h2,h3⟩=>⟨_,h1,h2,h3⟩
def Own(w wr:World)(n:Nat)(xs:List Nat):Prop :=
 xs.length=n/\wr.ownsRow w.heap.size 245 1 (.slice (some ⟨w.heap.size,0,none⟩) n n) n (xs.map fun(x:Nat)=>Value.int .u64 x)/\Ext w wr
theorem Own.cell{w wr:World}{n:Nat}{xs:List Nat}(h:Own w wr n xs)(i:Nat)(hi:i<n):wr.cell? ⟨w.heap.size,i,none⟩=some (.int .u64 ((xs[i]?.getD 0:Nat):Int)):=by
 have:=h.2.1.cellAt i ae;rw[this];simp[show i<xs.length by rw[h.1];exact hi]
theorem Own.free{w wr:World}{n:Nat}{xs:List Nat}(h:Own w wr n xs)(i:Nat):wr.frozen? ⟨w.heap.size,i,none⟩=false:=h.2.1.frozenAt i
theorem Own.set{w wr:World}{n:Nat}{xs:List Nat}(h:Own w wr n xs)(i x:Nat):Own w (wr.setCell ⟨w.heap.size,i,none⟩ (.int .u64 (x:Int))) n (xs.set i x):=by
 have:=h.2.1.stored i (.int .u64 (x:Int));refine⟨by rw[List.length_set];exact h.1,?_,h.2.2.setCell (Nat.le_refl _) _⟩;rw[List.map_set];exact this.1
theorem Own.holds{w wr:World}{n:Nat}{xs:List Nat}(h:Own w wr n xs):Holds .u64 wr (.slice (some ⟨w.heap.size,0,none⟩) n n) xs:=Holds.bX h.2.1
theorem eA(k:IntKind)(n:Nat):(madeCells (Value.int k 0).cells (n*1)).toList=(List.replicate n 0).map fun(x:Nat)=>Value.int k x:=by
 apply List.ext_getElem
 ·simp[madeCells]
 ·intro i h1 h2;simp[madeCells,Value.cells,Nat.mod_one]
set_option maxHeartbeats 4000000 in
theorem oZ (a b:Nat) (va vb:Value) (w:World) (ha:cz w va a) (hb:cz w vb b) (fa:Fit a) (fb:Fit b) :
    Calls prog 170 #[va,vb] w (lF w (a*b)):=by
 obtain⟨L,hL,cL,rfl⟩:=ha;obtain⟨M,hM,cM,rfl⟩:=hb;have hL2:=fa.len cL rfl;have hM2:=fb.len cM rfl;clear fa fb;obtain⟨i0,hi,hz0,hz1,hz2⟩:=info_parts iV;obtain⟨n,hn⟩:∃ n,n=L.length:=⟨_,rfl⟩
 obtain⟨n',hn'⟩:∃ n',n'=M.length:=⟨_,rfl⟩
 obtain⟨adL,capL,kL,oL,rfl,h1L,hcL,hbL,hCL⟩:=hL;obtain⟨adM,capM,kM,oM,rfl,h1M,hcM,hbM,hCM⟩:=hM;rw[← hn] at hL2 h1L hbL hCL ⊢;rw[← hn'] at hM2 h1M hbM hCM ⊢;have HN:=aj hn;have HN':=aj hn';have H1:=aj hbL;have H2:=aj hCL;have H3:=aj hbM;have H4:=aj hCM;have BL:=aj cL.lt;have BM:=aj cM.lt;clear hbL hCL hbM hCM hn hn' cL cM;go_enter func170,ntmps170;go_wp2_with (at_make;refine wpList_make_full _ rfl _ _ 214 rfl w.heap.size 245 i0 (.int .u64 0) 1 underlying214 hi hz0 hz1 _ _ _ _ (n+n'+1) rfl rfl ae ae (by rw[hz2];omega) (by unfold maxLen;omega) (Nat.le_refl _) ?_;intro w0 hown0 hgrow0);rw[eA] at hown0;go_loopw [21] (fun i wr=>∃ (k:Nat) (xs:List Nat),k<=n/\i = .int .i64 k/\Own w wr (n+n'+1) xs/\aC 1000000000 xs/\mv 1000000000 xs=mv 1000000000 (L.take k)*mv 1000000000 M)
  (fun i _=>n-(intOf i).toNat)
 case atStart =>
  exact⟨0,List.replicate (n+n'+1) 0,Nat.zero_le _,rfl,⟨by simp,hown0,(Below.refl _ _).grown hgrow0 (Nat.le_refl _) (fun k h=>by cases h)⟩,fun x hx=>by rw[(List.mem_replicate.1 hx).2];decide,by rw[jQ];simp[mv]⟩
 case round =>
  obtain⟨k,xs,hk,rfl,hown,hbx,hval⟩:=hrel;have HBX:=aj hbx;have HVAL:=aj hval;have HOWN:=aj hown;clear hbx hval;by_cases hkn:k<n
  ·obtain⟨wo,rfl⟩:∃ wo:World,wo=wr:=⟨_,rfl⟩
   obtain⟨x,hx⟩:∃ x,x=L[k]?.getD 0:=⟨_,rfl⟩
   have hxlt:x<1000000000:=by rw[hx];exact aK af BL.out k
   have hcell1:wo.cell? ⟨kL,oL+k,none⟩=some (.int .u64 (x:Int)):=by
    rw[hx];exact(hown.2.2.cell (p:=⟨kL,oL+k,none⟩) (H1.o ae).2).trans (H2.o k hkn)
   have HX:=aj hx;clear hx hown;have hix1:=aQ 214 245 underlying214 fX (cap:=capL) (fun h=>(H1.o h).1) k hkn;go_wp2;go_loopw [8,28] (fun c i wr=>∃ (j carry:Nat) (ys:List Nat),j<=n'/\i = .int .i64 j/\c = .int .u64 carry/\Own w wr (n+n'+1) ys/\cw 1000000000 (mv 1000000000 (L.take k)*mv 1000000000 M) x M ys k j carry)
    (fun _ i _=>n'-(intOf i).toNat)
   case atStart=>exact⟨0,0,xs,Nat.zero_le _,rfl,rfl,HOWN.o,cw.start af HBX.o HVAL.o⟩
   case round =>
    obtain⟨j,carry,ys,hj,rfl,rfl,hown,hin⟩:=hrel;have HIN:=aj hin;have hcl:=hin.cle;clear hin;by_cases hjn:j<n'
    ·have hix2:=aQ 214 245 underlying214 fX (cap:=capM) (fun h=>(H3.o h).1) j hjn;obtain⟨y,hy⟩:∃ y,y=M[j]?.getD 0:=⟨_,rfl⟩
     obtain⟨o,ho⟩:∃ o,o=ys[k+j]?.getD 0:=⟨_,rfl⟩
     have hylt:y<1000000000:=by rw[hy];exact aK af BM.out j
     have holt:o<1000000000:=by rw[ho];exact aK af HIN.o.lt (k+j)
     have hcell2:wr.cell? ⟨kM,oM+j,none⟩=some (.int .u64 (y:Int)):=by
      rw[hy];exact(hown.2.2.cell (p:=⟨kM,oM+j,none⟩) (H3.o ae).2).trans (H4.o j hjn)
     have hcell3:wr.cell? ⟨w.heap.size,k+j,none⟩=some (.int .u64 (o:Int)):=by
      rw[ho];exact hown.cell (k+j) ae
     have hfree:=hown.free (k+j);have hprod:x*y<=999999998000000001:=by
      have:=Nat.mul_le_mul (show x<=999999999 by omega) (show y<=999999999 by omega);omega
     have hprod':(x:Int)*(y:Int)<=999999998000000001:=by
      have:((x*y:Nat):Int)<=999999998000000001:=ae;rwa[Int.natCast_mul] at this
     have hprod0:(0:Int)<=(x:Int)*(y:Int):=Int.mul_nonneg ae ae;have HY:=aj hy;have HO:=aj ho;have HOW:=aj hown;clear hy ho hown;have hlen:ys.length=n+n'+1:=HOW.o.1;have HST:=aj (HIN.o.tG af hxlt BM.out (by have:=HN'.o;omega) ae HO.o HY.o);have HSET:=aj (HOW.o.set (k+j) ((carry+(o+x*y)) % 1000000000));clear hlen;go_wp2;go_roundw
     case rel=>exact⟨j+1,(carry+(o+x*y)) / 1000000000,_,ae,by go_num,by simp only[Value.int.injEq,true_and];omega,by have:=HSET.o;rw[show(((carry+(o+x*y)) % 1000000000:Nat):Int)=((carry:Int)+((o:Int)+(x:Int)*(y:Int))) % 1000000000 by simp] at this;exact this,HST.o⟩
     case measure=>simp[intOf];omega
    ·obtain rfl:n'=j:=ae;have hdone:=(HN'.o▸HIN.o:cw 1000000000 (mv 1000000000 (L.take k)*mv 1000000000 M) x M ys k M.length carry).done;rw[← HN'.o,show mv 1000000000 (L.take k)*mv 1000000000 M+1000000000 ^ k*(x*mv 1000000000 M)=mv 1000000000 (L.take (k+1))*mv 1000000000 M by rw[lT,HX.o]] at hdone;have HDONE:=aj hdone;have HOW:=aj hown;clear hdone hown;have hroom:mv 1000000000 (L.take (k+1))*mv 1000000000 M<1000000000 ^ (n+n'):=by
      have h1:=iw (nv BL.out (k+1));have h2:=iw BM.out;rw[← HN'.o] at h2;rw[List.length_take,← HN.o,Nat.min_eq_left ae] at h1;have h3:=mG h1 h2;exact Nat.lt_of_lt_of_le h3 (Nat.pow_le_pow_right af ae)
     have HR:=aj hroom;clear hroom;go_wp2;go_loopw [8,11] (fun c i wr=>∃ (p carry:Nat) (ys:List Nat),p<=n+n'+1/\i = .int .i64 p/\c = .int .u64 carry/\Own w wr (n+n'+1) ys/\bW 1000000000 (mv 1000000000 (L.take (k+1))*mv 1000000000 M) ys p carry)
      (fun _ i _=>n+n'+1-(intOf i).toNat)
     case atStart=>exact⟨k+n',carry,ys,ae,by go_num,rfl,HOW.o,HDONE.o⟩
     case round =>
      obtain⟨p,carry,ys,hp,rfl,rfl,hown,hin⟩:=hrel;have HIN:=aj hin;have HOW:=aj hown;have hcl:=hin.cle;clear hin hown;by_cases hc0:0<carry
      ·have hlen:ys.length=n+n'+1:=HOW.o.1;have hpl:p<n+n'+1:=by have:=HIN.o.room af hc0 HR.o ae;omega
       obtain⟨o,ho⟩:∃ o,o=ys[p]?.getD 0:=⟨_,rfl⟩
       have holt:o<1000000000:=by rw[ho];exact aK af HIN.o.lt p
       have hcell3:wr.cell? ⟨w.heap.size,p,none⟩=some (.int .u64 (o:Int)):=by
        rw[ho];exact HOW.o.cell p hpl
       have hfree:=HOW.o.free p;have HST:=aj (HIN.o.tG af ae ho);have HSET:=aj (HOW.o.set p ((carry+o) % 1000000000));clear hlen ho;go_wp2;go_roundw
       case rel=>exact⟨p+1,(carry+o) / 1000000000,_,ae,by go_num,by go_num,by have:=HSET.o;rw[show(((carry+o) % 1000000000:Nat):Int)=((carry:Int)+(o:Int)) % 1000000000 by omega] at this;exact this,HST.o⟩
       case measure=>simp[intOf];omega
      ·obtain rfl:carry=0:=ae;have hlast:=HIN.o.sum;rw[Nat.mul_zero,Nat.add_zero] at hlast;have HL:=aj hlast;clear hlast;go_wp2;go_roundw
       case rel=>exact⟨k+1,ys,ae,by go_num,HOW.o,HIN.o.lt,HL.o⟩
       case measure=>simp[intOf];omega
  ·obtain rfl:n=k:=ae;go_wp2_with (go_at_call 238;refine(ik xs _ _ hown.holds HBX.o).mono ?_;rintro e w' ⟨v',rfl,rfl,hm⟩);go_ret;exact⟨v',rfl,hown.2.2,by rw[HVAL.o,List.take_of_length_le (by have:=HN.o;omega)] at hm;exact hm⟩
theorem n4{k:IntKind}{w:World}{t:TypeId}{d:Nat}:Holds k (w.alloc (.cells #[.int k (d:Int)] t)) (.slice (some ⟨w.heap.size,0,none⟩) 1 1) [d]:=by
 refine Holds.some rfl ae ae (by simp) (fun i hi=>?_);have:i=0:=by simpa using hi
 subst this;simp
theorem Fit.small{d:Nat}(h:d<1000000000):Fit d:=⟨Cs af h af⟩
theorem kZ (a d:Nat) (va:Value) (w:World) (ha:cz w va a) (fa:Fit a) (hd:d<1000000000) :
    Calls prog 273 #[va,.int .u64 (d:Int)] w (lF w (a*d)):=by
 have h1:=@n4 .u64 w 245 d;have e1:Ext w (w.alloc (.cells #[.int .u64 (d:Int)] 245)):=(Ext.refl w).alloc _;have hm:mv 1000000000 [d]=d:=cS _ _;have hbd:aC 1000000000 [d]:=by intro x hx;simp at hx;omega
 have fd:=Fit.small hd;have HM:=aj hm;clear hm;go_enter func273,ntmps273;go_wp2_with (first
  | (go_at_call 238;refine(ik [d] _ _ h1 hbd).mono ?_;rintro e w' ⟨v',rfl,rfl,hm⟩)
  | (go_at_call 170;refine(oZ a _ va _ _ (ha.ext e1) hm fa (by rw[HM.o];exact fd)).mono ?_;rintro e w' ⟨v2,rfl,e2,hm2⟩))
 go_ret;exact⟨v2,rfl,e1.trans e2,by rw[HM.o] at hm2;exact hm2⟩
end Go.Proofs.YtmahadmefplbnaaGreatDoor
