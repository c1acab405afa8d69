/- Part 11. -/
import Derived.Test.YtmahadmefplbnaaGreatDoorQVLB
import Derived.Test.YtmahadmefplbnaaGreatDoorQVL7
import Derived.RangeFuncNested
import Derived.RangeFuncBound
import Derived.RangeFuncCalls
import Derived.RangeFuncLeaves
import Derived.RangeFuncBox
import Derived.Shelf.Abstract
import Derived.Shelf.RegionOpen
import Derived.OwnWalkIn
import Derived.TacticsInMore
import Derived.LoopNIn
import Derived.LoopIn
set_option maxRecDepth 100000
set_option maxHeartbeats 2000000
open Go.Proofs.Tryz
namespace Go.Proofs.YtmahadmefplbnaaGreatDoor
open Go Go.RowKit Go.Shelf
attribute [local go_sem] Oper.semAt_some
def bk(n k:Nat):List (Fin n):=(List.range k).filterMap fun j=>if h:n-1-j<n then some ⟨n-1-j,h⟩ else none
theorem uL(n k j:Nat)(hj:j=n-1-k)(h:j<n):bk n (k+1)=bk n k ++ [⟨j,h⟩]:=by
 subst hj;unfold bk;rw[List.range_succ,List.filterMap_append];simp[h]
def eZ(n₀ Bs:Nat)(A B:World):Prop:=Below n₀ A B/\B.heap[Bs]?=A.heap[Bs]?
theorem eZ.refl(n₀ Bs:Nat)(A:World):eZ n₀ Bs A A:=⟨Below.refl _ _,rfl⟩
theorem eZ.trans{n₀ Bs:Nat}{A B C:World}(h:eZ n₀ Bs A B)(k:eZ n₀ Bs B C):eZ n₀ Bs A C:=⟨h.1.trans k.1,k.2.trans h.2⟩
theorem eZ.put{n₀ Bs:Nat}{w:World}(hn:n₀<=w.heap.size)(GM:Bs<w.heap.size)(W:World)(l:Nat)(o o':Obj)(hl:w.heap.size<=l)(h:W.heap[l]?=some o)(h1:o.isCells=false)(h2:o.isWalk=false):eZ n₀ Bs W (W.putObj l o') :=
 ⟨belowK_b hn W l o o' hl h h1 h2,World.putObj_heap_other ae⟩
theorem eZ.setCell{n₀ Bs:Nat}{A B:World}(h:eZ n₀ Bs A B){p:Addr}(h1:n₀<=p.block)(h2:Bs≠p.block)(u:Value):eZ n₀ Bs A (B.setCell p u) :=
 ⟨h.1.setCell h1 u,(Below.heap_setCell B p u Bs h2).trans h.2⟩
theorem eZ.drew{n₀ Bs:Nat}{A B:World}(h:eZ n₀ Bs A B):eZ n₀ Bs A B.drew:=⟨h.1.drew,h.2⟩
theorem pF(n k:Nat)(hk:k<=n):(bk n k).length=k:=by
 induction k with
 | zero=>simp[bk]
 | succ k ih=>rw[uL n k _ rfl ae];simp[ih ae]
theorem Pm (F:Fence) (n:Nat) (hF:F.fn 271) (hro:F.round=none) (hn:1<=n) (l Bs n₀ b off cap:Nat) (ad:Option Addr) (zs:List Nat) (len:Nat) (hreach:len<=1000000) (hb:0<len->ad=some ⟨b,off,none⟩/\b<n₀)
    (J Jx:List (Fin len)->World->Prop)
    (hY:∀ pre (x:Fin len) W,J pre W->pre.length<len->YieldAt F (n-1) prog l #[.int .i64 (x.val:Int),.int .u64 ((zs[x.val]?.getD 0:Nat):Int)] W fun e W' =>
     (e = .returned (.bool true)/\J (pre ++ [x]) W'/\eZ n₀ Bs W W')∨(e = .returned (.bool false)/\Jx (pre ++ [x]) W'))
    (W:World) (GM:W.cell? ⟨Bs,0,none⟩=some (.slice ad len cap)) (hc:∀ j,j<len->W.cell? ⟨b,off+j,none⟩=some (.int .u64 ((zs.getD j 0:Nat):Int))) (h0:J [] W) :
    CallsIn F n prog 271 #[.func (.yield l) #[] #[],.pointer (some ⟨Bs,0,none⟩)] W fun e W'=>(∃ v,e = .returned v) /\
     ((∃ ys,ys=bk len len/\J ys W')∨(∃ pre,(∃ k,k<=len/\pre=bk len k)/\Jx pre W')):=by
 have HB:=ai hb;have HC:=ai hc;clear hb hc;refine callsIn_of_wp func271 rfl hF ?_ hro;simp only[ntmps271,List.size_toArray,List.length_cons,List.length_nil,Nat.reduceAdd,Nat.reduceSub,Array.replicate_succ,Array.replicate_zero,List.push_toArray,List.append_toArray,List.nil_append,List.cons_append];gi_wp2;gi_loopw [3] (fun i wr=>∃ k:Nat,k<=len/\i = .int .i64 ((len:Int)-1-k)/\J (bk len k) wr/\eZ n₀ Bs W wr)
  (fun i _=>(intOf i+1).toNat)
 case atStart=>exact⟨0,Nat.zero_le _,by simp,h0,eZ.refl _ _ _⟩
 case round =>
  obtain⟨k,hk,rfl,hJs,hnx⟩:=hrel;have qng:wr.cell? ⟨Bs,0,none⟩=some (.slice ad len cap):=(World.cell?_of_block (w:=W) (a:=⟨Bs,0,none⟩) hnx.2).trans GM;clear GM;by_cases aP:k<len
  ·obtain⟨j,hj⟩:∃ j,j=len-1-k:=⟨_,rfl⟩
   have ej:(len:Int)-1-k=(j:Int):=ae;rw[ej];have Gy:j<len:=ae;have hix:=dG 214 245 underlying214 lj (cap:=cap) (fun h=>(HB.o h).1) j Gy;have hcx:wr.cell? ⟨b,off+j,none⟩=some (.int .u64 ((zs.getD j 0:Nat):Int)):=(hnx.1.cell (p:=⟨b,off+j,none⟩) (HB.o ae).2).trans (HC.o j Gy);have HJ:=ai hj;clear ej hj;obtain⟨fn,tmps,assign,body,hy,hR⟩:=hY _ ⟨j,Gy⟩ wr hJs (by rw[pF _ _ hk];exact aP);dsimp only at hy;gi_wp2;refine hR.mono ?_;rintro e W3 (⟨rfl,hJ3,Ok⟩|⟨rfl,hJx3⟩)
   ·gi_wp2;go_roundw
    case rel=>exact⟨k+1,ae,by have:=HJ.o;go_num,by rw[uL _ _ _ HJ.o Gy];exact hJ3,hnx.trans Ok⟩
    case measure=>simp[intOf]
   ·gi_wp2;refine bodyPost_ret (results_none rfl _ _ _) rfl ?_;exact⟨⟨_,rfl⟩,.inr ⟨_,⟨k+1,ae,by rw[uL _ _ _ HJ.o Gy]⟩,hJx3⟩⟩
  ·obtain rfl:len=k:=ae;gi_wp2;go_end0;exact⟨⟨_,rfl⟩,.inl ⟨_,rfl,hJs⟩⟩
set_option maxHeartbeats 1000000 in
theorem oO (F:Fence) (n:Nat) (hF:F.fn 240) (hro:F.round=none) (a:Option Addr) (len cap:Nat) (w:World) :
    CallsIn F n prog 240 #[.slice a len cap] w fun e w'=>e = .returned (.func (.func 271) #[] #[.pointer (some ⟨w.heap.size,0,none⟩)])/\w'=w.alloc (.cells #[.slice a len cap] 214):=by
 refine callsIn_of_wp func240 rfl hF ?_ hro;simp only[ntmps240,List.size_toArray,List.length_cons,List.length_nil,Nat.reduceAdd,Nat.reduceSub,Array.replicate_succ,Array.replicate_zero,List.push_toArray,List.append_toArray,List.nil_append,List.cons_append];gi_wp2;go_ret;exact⟨rfl,rfl⟩
theorem qJ (F:Fence) (n:Nat) (hF:F.fn 271) (hro:F.round=none) (hn:1<=n) (Bs n₀ b off cap:Nat) (ad:Option Addr) (zs:List Nat) (len:Nat) (hreach:len<=1000000) (w:World) (GM:Bs<w.heap.size) (hn₀:n₀<=w.heap.size)
    (hb:0<len->ad=some ⟨b,off,none⟩/\b<n₀) (I6:w.cell? ⟨Bs,0,none⟩=some (.slice ad len cap)) (hc:∀ j,j<len->w.cell? ⟨b,off+j,none⟩=some (.int .u64 ((zs.getD j 0:Nat):Int))) :
    SeqStopsK F n prog 271 #[.pointer (some ⟨Bs,0,none⟩)] (fun x:Fin len=>#[Value.int .i64 (x.val:Int),Value.int .u64 ((zs[x.val]?.getD 0:Nat):Int)]) (eZ n₀ Bs) (fun ys=>ys=bk len len)
     (fun pre=>∃ k,k<=len/\pre=bk len k) len w:=fun l J Jx W hW _ _ hY h0 =>
 Pm F n hF hro hn l Bs n₀ b off cap ad zs len hreach hb J Jx hY W ((hW.cell (p:=⟨Bs,0,none⟩) GM).trans I6)
  (fun j hj=>(hW.cell (p:=⟨b,off+j,none⟩) (by exact Nat.lt_of_lt_of_le (hb ae).2 hn₀)).trans (hc j hj)) h0
