/- Part 12. -/
import Derived.Test.YtmahadmefplbnaaGreatDoorQTDB
import Derived.Test.YtmahadmefplbnaaGreatDoorQTD6
import Derived.Test.YtmahadmefplbnaaGreatDoorQTD9
import Derived.Test.YtmahadmefplbnaaGreatDoorQTD11
import Derived.Lib.AtoiErrMem
set_option maxRecDepth 100000
set_option maxHeartbeats 2000000
open Go.Proofs.Tryz
namespace Go.Proofs.YtmahadmefplbnaaGreatDoor
open Go Go.RowKit
def Ek(w:World)(v:Value)(n:Int):Prop:=∃ ad k cap,v = .agg #[.bool (decide (n<0)),.slice ad k cap]/\cz w (.slice ad k cap) n.natAbs
theorem oX(n:Int):Lib.trimPrefix (zl n) [45]=Lib.decDigits n.natAbs:=by
 by_cases h:n<0
 ·rw[bZ h];simp[Lib.trimPrefix,Lib.hasPrefix]
 ·rw[bI ae];have:=cT n.natAbs;cases hd:Lib.decDigits n.natAbs with
  | nil=>simp[Lib.trimPrefix,Lib.hasPrefix]
  | cons b t =>
   have hb:b≠45:=fun e=>this t (by rw[hd,e])
   simp[Lib.trimPrefix,Lib.hasPrefix,Ne.symm hb]
theorem sS(n:Int):Lib.hasPrefix (zl n) [45]=decide (n<0):=by
 by_cases h:n<0
 ·rw[bZ h];simp[Lib.hasPrefix,h]
 ·rw[bI ae];have:=cT n.natAbs;cases hd:Lib.decDigits n.natAbs with
  | nil=>simp[Lib.hasPrefix,h]
  | cons b t =>
   have hb:b≠45:=fun e=>this t (by rw[hd,e])
   simp[Lib.hasPrefix,List.isPrefixOf,h,Ne.symm hb]
theorem DV(n:Int)(w:World):Calls prog 190 #[.string (zs n),.string ⟨#[45]⟩] w fun e w' =>
 e = .returned (.tuple #[.string ⟨(Lib.decDigits n.natAbs).toArray⟩,.bool (decide (n<0))])/\w'=w:=by
 have:=strings_CutPrefix (zs n) ⟨#[45]⟩ w;rw[bH,show(⟨#[45]⟩:ByteArray).data.toList=[45] from rfl,oX,sS] at this;exact this
theorem dV(R:List UInt8)(a b:Nat):((⟨R.toArray⟩:ByteArray).extract a b).data.toList=(R.drop a).take (b-a):=by
 rw[ByteArray.data_extract,Array.toList_extract]
theorem Az (R:List UInt8) (h:∀ b ∈ R,cC b=true) (hne:0<R.length) (hl:R.length<=100000) (lo:Nat) (hlo:lo=R.length-9) (w:World) :
    Calls prog 237 #[.string ((⟨R.toArray⟩:ByteArray).extract lo R.length),.int .i64 10,.int .i64 64] w fun e w' =>
     e = .returned (.tuple #[.int .u64 ((val (R.drop lo):Nat):Int),.nilIface])/\Ext w w':=by
 have e2:((⟨R.toArray⟩:ByteArray).extract lo R.length).data.toList=R.drop lo:=by
  rw[dV,List.take_of_length_le (by simp)]
 refine(strconv_ParseUint_10_at64_ok _ ?_ (val (R.drop lo)) ?_ w).mono ?_
 ·rw[← ByteArray.size_data,← Array.length_toList,e2,List.length_drop];omega
 ·rw[e2];exact qO _ (fun b hb=>h b (List.mem_of_mem_drop hb)) (by intro e;have:=congrArg List.length e;simp at this;omega) (rJ h hlo)
 ·rintro e w' ⟨rfl,hw⟩;refine⟨rfl,?_⟩;rcases hw with rfl|rfl
  ·exact Ext.refl _
  ·exact Lib.bytesWorld_below _ _ _
structure Room(W:World)(g n:Nat)(P:List Nat):Prop where
 le:P.length<=n
 out:∃ cs:Array Value,ax W g cs 245/\cs.size=n/\∀ i,i<P.length->cs[i]?=some (.int .u64 ((P.getD i 0:Nat):Int))
theorem Room.cell{W:World}{g n:Nat}{P:List Nat}(h:Room W g n P)(hl:P.length<n):∃ v,W.cell? ⟨g,P.length,none⟩=some v:=by
 obtain⟨cs,hb,hs,_⟩:=h.out;exact⟨cs[P.length]'(by omega),hb.cell _ (Array.getElem?_eq_getElem _)⟩
theorem Room.free{W:World}{g n:Nat}{P:List Nat}(h:Room W g n P)(i:Nat):W.frozen? ⟨g,i,none⟩=false:=by
 obtain⟨cs,hb,hs,_⟩:=h.out;exact hb.free i
theorem Room.alloc{W:World}{g n:Nat}{P:List Nat}(h:Room W g n P)(o:Obj):Room (W.alloc o) g n P :=
 let ⟨cs,hb,hr⟩:=h.out;⟨h.le,cs,hb.alloc o,hr⟩
theorem Room.drew{W:World}{g n:Nat}{P:List Nat}(h:Room W g n P):Room W.drew g n P :=
 let ⟨cs,hb,hr⟩:=h.out;⟨h.le,cs,hb.drew,hr⟩
theorem Room.ext{W W':World}{g n:Nat}{P:List Nat}(h:Room W g n P)(e:Ext W W'):Room W' g n P :=
 let ⟨cs,hb,hr⟩:=h.out;⟨h.le,cs,hb.ext e,hr⟩
theorem Room.push{W:World}{g n:Nat}{P:List Nat}(h:Room W g n P)(hl:P.length<n)(x:Nat):Room (W.setCell ⟨g,P.length,none⟩ (.int .u64 (x:Int))) g n (P ++ [x]):=by
 obtain⟨cs,hb,hs,hc⟩:=h.out;refine⟨by simp;omega,_,hb.set P.length (.int .u64 (x:Int)),by simp[hs],fun i hi=>?_⟩;simp only[List.length_append,List.length_singleton] at hi;rw[Array.getElem?_setIfInBounds];by_cases e:P.length=i
 ·subst e;rw[if_pos rfl,if_pos ae];simp
 ·rw[if_neg e,hc i ae];simp[List.getElem?_append_left (show i<P.length by omega)]
theorem Room.holds{W:World}{g n:Nat}{P:List Nat}(h:Room W g n P)(hn:n<=9223372036854775807):Holds .u64 W (.slice (some ⟨g,0,none⟩) P.length n) P:=by
 obtain⟨cs,hb,hs,hc⟩:=h.out;refine Holds.some rfl h.le hn hb.lt (fun i hi=>?_);rw[Nat.zero_add];exact hb.cell i (hc i hi)
theorem Room.bX{W:World}{B g n:Nat}(h:W.ownsRow B 245 1 (.slice (some ⟨g,0,none⟩) 0 n) 0 []):Room W g n []:=by
 rcases h.2 with⟨e,_⟩|⟨g',cap,cur,e,_,hb,_,_,hs,_⟩
 ·cases e
 ·cases e;exact⟨Nat.zero_le _,cur,⟨hb⟩,ae,fun i hi=>by simp at hi⟩
structure jb(D:List UInt8)(V:Nat)(R:List UInt8)(P:List Nat):Prop where
 len:0<R.length->9*P.length+R.length=D.length
 room:P.length<=D.length / 9+1
 dig:∀ b ∈ R,cC b=true
 lt:aC 1000000000 P
 val:mv 1000000000 P+1000000000 ^ P.length*val R=V
theorem jb.step{D R:List UInt8}{V lo:Nat}{P:List Nat}(h:jb D V R P)(hR:0<R.length)(hl:lo=R.length-9):jb D V (R.take lo) (P ++ [Go.Proofs.YtmahadmefplbnaaGreatDoor.val (R.drop lo)]):=by
 have h1:=h.len hR;refine⟨?_,?_,fun b hb=>h.dig b (List.mem_of_mem_take hb),?_,?_⟩
 ·simp only[List.length_take,List.length_append,List.length_singleton];omega
 ·simp only[List.length_append,List.length_singleton];omega
 ·intro x hx;rcases List.mem_append.1 hx with hx|hx
  ·exact h.lt x hx
  ·simp only[List.mem_singleton] at hx;subst hx;exact rJ h.dig hl
 ·have:=vE h.val hl;simpa using this
theorem lU(R:List UInt8)(lo:Nat):(⟨R.toArray⟩:ByteArray).extract 0 lo=⟨(R.take lo).toArray⟩:=by
 apply bO;rw[dV];simp
theorem cz.apart{W:World}{B o k c n g i:Nat}(h:cz W (.slice (some ⟨B,o,none⟩) k c) n)(hB:g≠B)(u:Value):cz (W.setCell ⟨g,i,none⟩ u) (.slice (some ⟨B,o,none⟩) k c) n:=by
 obtain⟨l,⟨ad,cap,b,off,hv,h1,h2,h3,h4⟩,hc,hm⟩:=h;refine⟨l,⟨ad,cap,b,off,hv,h1,h2,fun h0=>⟨(h3 h0).1,by simp;exact(h3 h0).2⟩,fun j hj=>?_⟩,hc,hm⟩;have hb:=(h3 ae).1;cases hv;cases hb;rw[World.cell?_setCell_other _ _ _ _ (by intro e;cases e;exact hB rfl)];exact h4 j hj
theorem yh{W:World}{g k c off:Nat}{P:List Nat}{V h:Nat}{D:List UInt8}(hm:cz W (.slice (some ⟨g,off,none⟩) k c) (mv 1000000000 P))(hv:jb D V [] P)(hg:h≠g)(u u':Value):cz ((W.setCell ⟨h,0,none⟩ u).setCell ⟨h,1,none⟩ u') (.slice (some ⟨g,off,none⟩) k c) V:=by
 have:=hv.val;rw[show Go.Proofs.YtmahadmefplbnaaGreatDoor.val []=0 from rfl,Nat.mul_zero,Nat.add_zero] at this;rw[← this];exact(hm.apart hg u).apart hg u'
theorem bC (n:Int) (w:World) (hn:(zl n).length<=100000) :
    Calls prog 169 #[.string (zs n)] w fun e w'=>∃ v,e = .returned v/\Ext w w'/\Ek w' v n:=by
 obtain⟨i0,hi,hz0,hz1,hz2⟩:=info_parts iV;obtain⟨D,hD⟩:∃ D,D=Lib.decDigits n.natAbs:=⟨_,rfl⟩
 obtain⟨B,hB⟩:∃ B,B=decide (n<0):=⟨_,rfl⟩
 have hDl:D.length<=100000:=by
  rw[hD];have:(Lib.decDigits n.natAbs).length<=(zl n).length:=by
   by_cases h:n<0
   ·rw[bZ h];simp
   ·rw[bI ae];exact Nat.le_refl _
  omega
 have HI0:Hid (jb D n.natAbs D []):=aj ⟨fun _=>by simp,by simp,by rw[hD];exact a7 _,fun x hx=>by simp at hx,by rw[hD,cG];simp[mv]⟩;have HD:=aj hD;have HB:=aj hB;clear hD hB hn;go_enter func169,ntmps169;go_wp2_with (first
  | (go_at_call 190;refine(DV n _).mono ?_;rw[← HD.o,← HB.o];rintro e w' ⟨rfl,rfl⟩)
  | (at_make;refine wpList_make_own _ rfl _ _ 214 rfl (w.heap.size+1) 245 i0 (.int .u64 0) 1 underlying214 hi hz0 hz1 _ _ _ (D.length / 9+1) rfl rfl (by simp) (by rw[hz2];omega) (by unfold maxLen;omega) (by simp) ?_;intro w1 hown1 hgrow1))
 go_loopw [3, 5] (fun s sl W => ∃ (R : List UInt8) (P : List Nat), s = .string ⟨R.toArray⟩ /\ sl = .slice (some ⟨w.heap.size + 1, 0, none⟩) P.length (D.length / 9 + 1) /\ R.length <= D.length /\
     jb D n.natAbs R P/\Room W (w.heap.size+1) (D.length / 9+1) P/\ax W w.heap.size #[.bool false,.slice none 0 0] 216/\Ext w W)
  (fun s _ _=>match s with | .string t=>t.size|_=>0)
 case atStart=>exact⟨D,[],rfl,rfl,Nat.le_refl _,HI0.o,Room.bX (by simpa using hown1),((ax.new w #[.bool false,.slice none 0 0] 216).grown hgrow1 (by simp)),((Ext.refl w).alloc _).grown hgrow1 (fun k h=>by cases h)⟩
 case round =>
  obtain⟨R,P,rfl,rfl,h1,hinv,hroom,hblk,hx⟩:=hrel;have HV:=aj hinv;by_cases hR:0<R.length
  ·have hP:P.length<=D.length / 9:=by have:=hinv.len hR;omega
   clear hinv;have hpl:P.length<D.length / 9+1:=ae;obtain⟨lo,hlo⟩:∃ lo,lo=R.length-9:=⟨_,rfl⟩
   have hmax:max ((R.length:Int)-9) 0=(lo:Int):=ae;have hlo1:lo<=R.length:=ae;have hlo2:(lo:Int)<=(R.length:Int):=ae;have HL:=aj hlo;clear hlo;go_wp2_with (first
    | (go_at_call 237;refine cto (Az R HV.o.dig hR ae lo HL.o _) fun w2 e2=>?_))
   have hroom2:=hroom.ext e2;obtain⟨v0,hcell⟩:=hroom2.cell hpl;have hfree:=hroom2.free P.length;have hsz:=hroom2.out;have hlt:w.heap.size+1<w2.heap.size:=let ⟨cs,hb,_⟩:=hsz;hb.lt;have HR2:=aj hroom2;clear hsz hroom2;go_region;go_roundw
   case rel =>
    repeat apply Exists.intro
    refine⟨?_,rfl⟩;have hmin:min lo R.length=lo:=ae;have hH:=HL.o;refine⟨R.take lo,P ++ [val (R.drop lo)],?_,?_,?_,HV.o.step hR hH,?_,?_,?_⟩
    ·rw[lU]
    ·simp
    ·rw[List.length_take];omega
    ·exact((HR2.o.push hpl _).alloc _).drew
    ·exact(((hblk.ext e2).other _ (by simp)).alloc _).drew
    ·exact(((hx.trans e2).setCell (by simp) _).alloc _).drew
   case measure =>
    have hH:=HL.o;show(ByteArray.extract _ _ _).size<ByteArray.size _;rw[lU];simp[ByteArray.size];omega
  ·obtain rfl:R=[]:=List.length_eq_zero_iff.1 ae;clear hinv;have hh:=hroom.holds ae;have c0:=hblk.cell 0 (v:=.bool false) rfl;have c1:=hblk.cell 1 (v:=.slice none 0 0) rfl;have f0:=hblk.free 0;have f1:=hblk.free 1;have HH:=aj hh;have HK:=aj hblk;clear hh hblk hroom;go_wp2_with (first
    | (go_at_call 238;refine(rW P _ _ HH.o HV.o.lt).mono ?_;rintro e w' ⟨v',rfl,rfl,hm,ad,nn,k,cap,e1,rfl⟩))
   refine bodyPost_ret (v:=.agg #[.bool B,.slice (some ⟨w.heap.size+1,0,none⟩) k (D.length / 9+1)]) (by simp[results,results169,go_sem,c0,c1]) rfl ⟨_,rfl,?_,_,_,_,by rw[HB.o],yh hm HV.o ae _ _⟩;exact(hx.setCell (Nat.le_refl _) _).setCell (Nat.le_refl _) _
end Go.Proofs.YtmahadmefplbnaaGreatDoor
