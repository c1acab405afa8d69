/- Part 50. -/
import Derived.Test.YtmahadmefplbnaaGreatDoorQFUB
import Derived.Test.YtmahadmefplbnaaGreatDoorQFU38
import Derived.Test.YtmahadmefplbnaaGreatDoorQFU49
set_option maxRecDepth 100000
set_option maxHeartbeats 2000000
set_option linter.unusedSimpArgs false
set_option linter.unusedVariables false
namespace Go.Proofs.YtmahadmefplbnaaGreatDoor
open Go Go.RowKit
theorem Cw (ao_:Option Addr) (n cap:Nat) (t:Nat->T3) (c:Nat->Int) (hc:c=(fun k=>bQ (t k).l)) (w:World) (g:Gd w) (hl:mH w ao_ n t) (hs:∀ k,k<n->TS (t k)) (hn:n<=1000000):Calls Tryz.prog 29 #[.slice ao_ n cap,.bool true] w (aC w (.int .i64 (fm c n))):=by
 have HG:=ai g;have HC:=ai hc;have HL:=ai hl;have HS:=ai hs;clear g hc hl hs;go_enter Tryz.func29,Tryz.ntmps29;go_upto_region 1 with fail
 by_cases h0:n=0
 ·have hz2:((n:Nat):Int)=0:=ae;have hpf:fm c n=13:=by rw [fm,if_pos h0]
  have HPF:=ai hpf;clear hpf h0;go_wp2;go_ret;exact ⟨by rw [HPF.o];rfl,(Ext.refl w)⟩
 ·have hz2:¬ ((n:Nat):Int)=0:=ae;have HN0:=ai h0;go_upto_region 3 with fail
  by_cases h6:60<n
  ·have hz3:(60:Int)<((n:Nat):Int):=ae;have HPF:Hid (fm c n=4):=ai (by rw [fm,if_neg HN0.o,if_pos h6]);clear h6;go_wp2;go_ret;exact ⟨by rw [HPF.o];rfl,(Ext.refl w)⟩
  ·have hz3:¬ (60:Int)<((n:Nat):Int):=ae;have HPF:Hid (fm c n=fz c n):=ai (ko HN0.o h6);clear h6 hz2 h0;go_wp2_with fail;go_loopw [5] (fun x0_ wx=>∃ k:Nat,x0_ = .int .i64 k/\k<=n/\Hid (∀ i,i<k->c i=0)/\Hid (Ext w wx)) (fun x0_ _=>n-(intOf x0_).toNat)
   case atStart=>exact ⟨0,rfl,Nat.zero_le _,ai (fun i hi=>absurd hi (Nat.not_lt_zero i)),ai (Ext.refl w)⟩
   case round =>
    rename World=>w1
    obtain ⟨k,rfl,hkk,HGk,HH⟩:=hrel;have HX1:=ai HH.o;clear HH;by_cases hlt:k<n
    ·have hlt2:(k:Int)<((n:Nat):Int):=ae;obtain ⟨la,o_,rfl,zx_,zy_,zz_⟩:=HL.o k hlt;have HCx:=ai zx_;have HCy:=ai zy_;have HCz:=ai zz_;clear zx_ zy_ zz_;rcases A8 (t k) with ⟨h1_,h2_⟩|⟨h1_,h2_⟩|⟨h1_,h2_⟩
     ·have HCE:=ai h1_;have HIS:=ai h2_;clear h1_ h2_;have cl_o____k___3:=aw HX1.o (HCx.o);have cl_o____k___3___1:=aw HX1.o (HCy.o);have cl_o____k___3___2:=aw HX1.o (HCz.o);go_wp2_with fail;refine ((HCE.o▸gw (t k) _ (HG.o.ext (HX1.o)) (HS.o k hlt))).mono ?_;rintro e w2 ⟨rfl,e2⟩;have HX2:=ai (HX1.o.trans e2);clear e2 cl_o____k___3 cl_o____k___3___1 cl_o____k___3___2;go_wp2_with fail;go_roundw
      case rel=>exact ⟨k+1,by go_num,ae,ai (mw HGk.o (by rw [HC.o];exact HIS.o)),ai HX2.o⟩
      case measure=>simp [intOf];omega
     ·have HCE:=ai h1_;have HIS:=ai h2_;clear h1_ h2_;have cl_o____k___3:=aw HX1.o (HCx.o);have cl_o____k___3___1:=aw HX1.o (HCy.o);have cl_o____k___3___2:=aw HX1.o (HCz.o);go_wp2_with fail;refine ((HCE.o▸gw (t k) _ (HG.o.ext (HX1.o)) (HS.o k hlt))).mono ?_;rintro e w2 ⟨rfl,e2⟩;have HX2:=ai (HX1.o.trans e2);clear e2 cl_o____k___3 cl_o____k___3___1 cl_o____k___3___2;go_wp2;go_ret;exact ⟨congrArg (fun i=>Ending.returned (.int .i64 i)) (show _=fm c n from Eq.symm (by rw [HPF.o,n9 (c:=c) hlt HGk.o (by rw [HC.o];show bQ (t k).l≠0;rw [HIS.o];decide),HC.o];show bQ (t k).l=2;exact HIS.o)),HX2.o⟩
     ·have HCE:=ai h1_;have HIS:=ai h2_;clear h1_ h2_;have cl_o____k___3:=aw HX1.o (HCx.o);have cl_o____k___3___1:=aw HX1.o (HCy.o);have cl_o____k___3___2:=aw HX1.o (HCz.o);go_wp2_with fail;refine ((HCE.o▸gw (t k) _ (HG.o.ext (HX1.o)) (HS.o k hlt))).mono ?_;rintro e w2 ⟨rfl,e2⟩;have HX2:=ai (HX1.o.trans e2);clear e2 cl_o____k___3 cl_o____k___3___1 cl_o____k___3___2;go_wp2_with fail;go_roundw
      case rel=>exact ⟨k+1,by go_num,ae,ai (mw HGk.o (by rw [HC.o];exact HIS.o)),ai HX2.o⟩
      case measure=>simp [intOf];omega
    ·have hk2:k=n:=ae;have hge:¬ (k:Int)<((n:Nat):Int):=ae;go_wp2;go_ret;exact ⟨by rw [HPF.o,gV (by rw [← hk2];exact HGk.o)];rfl,HX1.o⟩
section
variable {X w:World} {n:Nat} {p:Nat->V3} {vr vc v:Value} {va:Nat->Value}
end
theorem uQ (vo:Option Addr) (n cap:Nat) (t:Nat->T3) (w:World) (g:Gd w) (hl:mH w vo n t) (hs:∀ k,k<n->TS (t k)) (hn:n<=1000000) (he:fm (fun k=>bQ (t k).l) n≠0):Calls Tryz.prog 26 #[.slice vo n cap] w (aC w (.tuple #[.agg #[.string ⟨#[]⟩,.string ⟨#[]⟩,.string ⟨#[]⟩,.string ⟨#[]⟩,.slice none 0 0],.int .i64 (fm (fun k=>bQ (t k).l) n)])):=by
 have HG:=ai g;have HL:=ai hl;have HS:=ai hs;clear g hl hs;go_enter Tryz.func26,Tryz.ntmps26;go_wp2_with fail;refine cto (jf vo n cap t _ (HG.o.ext (((Ext.refl w).alloc _))) (HL.o.ext ((Ext.refl w).alloc _)) HS.o hn) fun w1 e1=>?_
 have HX1:Hid (Ext w w1):=ai (((Ext.refl w).alloc _).trans e1);have HB0_1:Hid (ak w1 (w.heap.size) (#[.string ⟨#[]⟩,.string ⟨#[]⟩,.string ⟨#[]⟩,.string ⟨#[]⟩,.slice none 0 0]) 60):=ai (((ak.nw (#[.string ⟨#[]⟩,.string ⟨#[]⟩,.string ⟨#[]⟩,.string ⟨#[]⟩,.slice none 0 0]) 60)).ext e1);have HGEB0:Hid (w.heap.size<=w.heap.size):=ai (Nat.le_refl _);clear e1;have hz2:¬ fm (fun k=>bQ (t k).l) n=0:=he;have c0_0:=HB0_1.o.cell 0 rfl;have f0_0:=HB0_1.o.free 0;have c0_1:=HB0_1.o.cell 1 rfl;have f0_1:=HB0_1.o.free 1;have c0_2:=HB0_1.o.cell 2 rfl;have f0_2:=HB0_1.o.free 2;have c0_3:=HB0_1.o.cell 3 rfl;have f0_3:=HB0_1.o.free 3;have c0_4:=HB0_1.o.cell 4 rfl;have f0_4:=HB0_1.o.free 4;go_wp2_with fail;refine au (fun W=>Ext w W/\ak W (w.heap.size) (#[.string ⟨#[]⟩,.string ⟨#[]⟩,.string ⟨#[]⟩,.string ⟨#[]⟩,.slice none 0 0]) 60) ⟨(((((HX1.o.setCell (HGEB0.o) _).setCell (HGEB0.o) _).setCell (HGEB0.o) _).setCell (HGEB0.o) _).setCell (HGEB0.o) _),(((((HB0_1.o.set 0 (.string ⟨#[]⟩)).set 1 (.string ⟨#[]⟩)).set 2 (.string ⟨#[]⟩)).set 3 (.string ⟨#[]⟩)).set 4 (.slice none 0 0))⟩ ?_;rintro w2 ⟨e2,bB0_2⟩;have HX2:=ai e2;have HB0_2:=ai bB0_2;clear e2 bB0_2 c0_0 f0_0 c0_1 f0_1 c0_2 f0_2 c0_3 f0_3 c0_4 f0_4;have gB0_0:=HB0_2.o.cell 0 rfl;have gB0_1:=HB0_2.o.cell 1 rfl;have gB0_2:=HB0_2.o.cell 2 rfl;have gB0_3:=HB0_2.o.cell 3 rfl;have gB0_4:=HB0_2.o.cell 4 rfl;refine bodyPost_ret (v:=.tuple #[.agg #[.string ⟨#[]⟩,.string ⟨#[]⟩,.string ⟨#[]⟩,.string ⟨#[]⟩,.slice none 0 0],.int .i64 (fm (fun k=>bQ (t k).l) n)]) (by simp [results,Tryz.results26,go_sem,gB0_0,gB0_1,gB0_2,gB0_3,gB0_4]) rfl ⟨rfl,HX2.o⟩
def Bq (t:T3):Bool:=decide (t.x.size<=24/\t.y.size<=24/\t.z.size<=24)
def s5 (n:Nat) (t:Nat->T3):Bool:=decide ((∀ i,i<n->Bq (t i)=true)/\(n<=6∨n=61))
theorem C8 {n:Nat} {t:Nat->T3} (h:s5 n t=true):(∀ k,k<n->TS (t k))/\n<=61:=by
 obtain ⟨h1,h2⟩:=of_decide_eq_true h;refine ⟨fun k hk=>?_,ae⟩;obtain ⟨a,b,c⟩:=of_decide_eq_true (h1 k hk);exact ⟨ae,ae,ae⟩
theorem ph (t:T3) (w:World):Calls Tryz.prog 110 #[.agg #[.string t.x,.string t.y,.string t.z]] w (aC w (.bool (Bq t))):=by
 go_enter Tryz.func110,Tryz.ntmps110;go_upto_region 1 with fail
 refine au (fun W=>Ext w W/\ak W (w.heap.size) (#[.string t.x,.string t.y,.string t.z]) 67) ⟨((Ext.refl w).alloc _),(ak.nw (#[.string t.x,.string t.y,.string t.z]) 67)⟩ ?_;rintro w1 ⟨e1,bB0_1⟩;have HX1:=ai e1;have HB0_1:=ai bB0_1;have HGEB0:Hid (w.heap.size<=w.heap.size):=ai (Nat.le_refl _);clear e1 bB0_1;by_cases hx_:t.x.size<=24
 ·have sx_:((t.x.size:Nat):Int)<=24:=ae;by_cases hy_:t.y.size<=24
  ·have sy_:((t.y.size:Nat):Int)<=24:=ae;by_cases hz_:t.z.size<=24
   ·have sz_:((t.z.size:Nat):Int)<=24:=ae;have HPF:Hid (Bq t=true):=ai (decide_eq_true ⟨hx_,hy_,hz_⟩);clear hx_ hy_ hz_;have c0_0:=HB0_1.o.cell 0 rfl;have c0_1:=HB0_1.o.cell 1 rfl;have c0_2:=HB0_1.o.cell 2 rfl;go_wp2;go_ret;exact ⟨by rw [HPF.o];rfl,HX1.o⟩
   ·have sz_:¬ ((t.z.size:Nat):Int)<=24:=ae;have HPF:Hid (Bq t=false):=ai (decide_eq_false (fun h=>by obtain ⟨a_,b_,c_⟩:=h;omega));clear hx_ hy_ hz_;have c0_0:=HB0_1.o.cell 0 rfl;have c0_1:=HB0_1.o.cell 1 rfl;have c0_2:=HB0_1.o.cell 2 rfl;go_wp2;go_ret;exact ⟨by rw [HPF.o];rfl,HX1.o⟩
  ·have sy_:¬ ((t.y.size:Nat):Int)<=24:=ae;have HPF:Hid (Bq t=false):=ai (decide_eq_false (fun h=>by obtain ⟨a_,b_,c_⟩:=h;omega));clear hx_ hy_;have c0_0:=HB0_1.o.cell 0 rfl;have c0_1:=HB0_1.o.cell 1 rfl;go_wp2;go_ret;exact ⟨by rw [HPF.o];rfl,HX1.o⟩
 ·have sx_:¬ ((t.x.size:Nat):Int)<=24:=ae;have HPF:Hid (Bq t=false):=ai (decide_eq_false (fun h=>by obtain ⟨a_,b_,c_⟩:=h;omega));clear hx_;have c0_0:=HB0_1.o.cell 0 rfl;go_wp2;go_ret;exact ⟨by rw [HPF.o];rfl,HX1.o⟩
theorem DM (ao_:Option Addr) (n cap:Nat) (t:Nat->T3) (w:World) (hl:mH w ao_ n t) (hn:n<=maxLen):Calls Tryz.prog 38 #[.slice ao_ n cap] w (aC w (.bool (s5 n t))):=by
 have HL:=ai hl;clear hl;unfold maxLen at hn;go_enter Tryz.func38,Tryz.ntmps38;go_wp2_with fail;go_loopw [3] (fun x0_ wx=>∃ k:Nat,x0_ = .int .i64 k/\k<=n/\Hid (∀ i,i<k->Bq (t i)=true)/\Hid (Ext w wx)) (fun x0_ _=>n-(intOf x0_).toNat)
 case atStart=>exact ⟨0,rfl,Nat.zero_le _,ai (fun i hi=>absurd hi (Nat.not_lt_zero i)),ai (Ext.refl w)⟩
 case round =>
  rename World=>w1
  obtain ⟨k,rfl,hkk,HGk,HH⟩:=hrel;have HX1:=ai HH.o;clear HH;by_cases hlt:k<n
  ·have hlt2:(k:Int)<((n:Nat):Int):=ae;obtain ⟨la,o_,rfl,zx_,zy_,zz_⟩:=HL.o k hlt;have HCx:=ai zx_;have HCy:=ai zy_;have HCz:=ai zz_;clear zx_ zy_ zz_;by_cases hi:Bq (t k)=true
   ·have HSH:=ai hi;clear hi;have cl_o____k___3:=aw HX1.o (HCx.o);have cl_o____k___3___1:=aw HX1.o (HCy.o);have cl_o____k___3___2:=aw HX1.o (HCz.o);go_wp2_with fail;refine ((HSH.o▸ph (t k) _)).mono ?_;rintro e w2 ⟨rfl,e2⟩;have HX2:=ai (HX1.o.trans e2);clear e2 cl_o____k___3 cl_o____k___3___1 cl_o____k___3___2;go_wp2_with fail;go_roundw
    case rel=>exact ⟨k+1,by go_num,ae,ai (fun i hi=>by by_cases e:i=k;exact e▸HSH.o;exact HGk.o i ae),ai HX2.o⟩
    case measure=>simp [intOf];omega
   ·have hi2:Bq (t k)=false:=by simpa using hi
    have HSH:=ai hi2;clear hi hi2;have HPF:Hid (s5 n t=false):=ai (decide_eq_false (fun h=>by have:=h.1 k hlt;rw [HSH.o] at this;cases this));have cl_o____k___3:=aw HX1.o (HCx.o);have cl_o____k___3___1:=aw HX1.o (HCy.o);have cl_o____k___3___2:=aw HX1.o (HCz.o);go_wp2_with fail;refine ((HSH.o▸ph (t k) _)).mono ?_;rintro e w2 ⟨rfl,e2⟩;have HX2:=ai (HX1.o.trans e2);clear e2 cl_o____k___3 cl_o____k___3___1 cl_o____k___3___2;go_wp2;go_ret;exact ⟨by rw [HPF.o];rfl,HX2.o⟩
  ·have hk2:k=n:=ae;have hge:¬ (k:Int)<((n:Nat):Int):=ae;go_upto_region 6 with fail
   have HAL:Hid (∀ i,i<n->Bq (t i)=true):=ai (by rw [← hk2];exact HGk.o);by_cases h6:n<=6
   ·have h6b:((n:Nat):Int)<=6:=ae;have HPF:Hid (s5 n t=true):=ai (decide_eq_true ⟨HAL.o,Or.inl h6⟩);clear h6;go_wp2;go_ret;exact ⟨by rw [HPF.o];rfl,HX1.o⟩
   ·have h6b:¬ ((n:Nat):Int)<=6:=ae;by_cases h61:n=61
    ·have h61b:((n:Nat):Int)=61:=ae;have h61c:=beq_iff_eq.2 h61b;have HPF:Hid (s5 n t=true):=ai (decide_eq_true ⟨HAL.o,Or.inr h61⟩);clear h61 h6;go_wp2;go_ret;exact ⟨by rw [HPF.o];rfl,HX1.o⟩
    ·have h61b:¬ ((n:Nat):Int)=61:=ae;have h61c:=beq_eq_false_iff_ne.2 h61b;have HPF:Hid (s5 n t=false):=ai (decide_eq_false (fun h=>h.2.elim h6 h61));clear h6;go_wp2;go_ret;exact ⟨by rw [HPF.o];rfl,HX1.o⟩
theorem lK (vo:Option Addr) (n cap:Nat) (t:Nat->T3) (w:World) (g:Gd w) (hl:mH w vo n t) (hs:∀ k,k<n->TS (t k)) (hn:n<=1000000) (he:fm (fun k=>bQ (t k).l) n≠0) (s:Nat->ByteArray) (mo:ByteArray) (da:Option Addr) (m dc:Nat):Calls Tryz.prog 107 #[.slice vo n cap,.agg #[.string (s 0),.string (s 1),.string (s 2),.string mo,.slice da m dc]] w (aC w (.int .i64 (fm (fun k=>bQ (t k).l) n))):=by
 have HG:=ai g;have HL:=ai hl;have HS:=ai hs;clear g hl hs;go_enter Tryz.func107,Tryz.ntmps107;go_wp2_with fail;refine cto (jf vo n cap t _ (HG.o.ext (((Ext.refl w).alloc _))) (HL.o.ext ((Ext.refl w).alloc _)) HS.o hn) fun w1 e1=>?_
 have HX1:Hid (Ext w w1):=ai (((Ext.refl w).alloc _).trans e1);clear e1;have hz2:¬ fm (fun k=>bQ (t k).l) n=0:=he;go_wp2;go_ret;exact ⟨rfl,HX1.o⟩
theorem uP (vo:Option Addr) (n cap:Nat) (t:Nat->T3) (w:World) (g:Gd w) (hl:mH w vo n t) (hs:∀ k,k<n->TS (t k)) (hn:n<=1000000) (he:fm (fun k=>bQ (t k).l) n≠0) (s:Nat->ByteArray) (mo:ByteArray) (da:Option Addr) (m dc:Nat):Calls Tryz.prog 39 #[.slice vo n cap,.agg #[.string (s 0),.string (s 1),.string (s 2),.string mo,.slice da m dc]] w (aC w (.tuple #[.slice none 0 0,.int .i64 (fm (fun k=>bQ (t k).l) n)])):=by
 have HG:=ai g;have HL:=ai hl;have HS:=ai hs;clear g hl hs;go_enter Tryz.func39,Tryz.ntmps39;go_wp2_with fail;refine cto (jf vo n cap t _ (HG.o.ext (((Ext.refl w).alloc _))) (HL.o.ext ((Ext.refl w).alloc _)) HS.o hn) fun w1 e1=>?_
 have HX1:Hid (Ext w w1):=ai (((Ext.refl w).alloc _).trans e1);clear e1;have hz2:¬ fm (fun k=>bQ (t k).l) n=0:=he;go_wp2;go_ret2;exact ⟨rfl,HX1.o⟩
theorem yu (vo:Option Addr) (n cap:Nat) (t:Nat->T3) (w:World) (g:Gd w) (hl:mH w vo n t) (hs:∀ k,k<n->TS (t k)) (hn:n<=1000000) (he:fm (fun k=>bQ (t k).l) n≠0) (s:Nat->ByteArray) (mo:ByteArray) (da:Option Addr) (m dc:Nat):Calls Tryz.prog 40 #[.slice vo n cap,.agg #[.string (s 0),.string (s 1),.string (s 2),.string mo,.slice da m dc]] w (aC w (.tuple #[.slice none 0 0,.int .i64 (fm (fun k=>bQ (t k).l) n)])):=by
 have HG:=ai g;have HL:=ai hl;have HS:=ai hs;clear g hl hs;go_enter Tryz.func40,Tryz.ntmps40;go_wp2_with fail;refine cto (lK vo n cap t _ (HG.o.ext (((Ext.refl w).alloc _))) (HL.o.ext ((Ext.refl w).alloc _)) HS.o hn he s mo da m dc) fun w1 e1=>?_
 have HX1:Hid (Ext w w1):=ai (((Ext.refl w).alloc _).trans e1);clear e1;have hz2:¬ fm (fun k=>bQ (t k).l) n=0:=he;go_wp2;go_ret2;exact ⟨rfl,HX1.o⟩
theorem sP (vo:Option Addr) (n cap:Nat) (t:Nat->T3) (w:World) (g:Gd w) (hl:mH w vo n t) (hs:∀ k,k<n->TS (t k)) (hn:n<=1000000) (he:fm (fun k=>bQ (t k).l) n≠0) (s:Nat->ByteArray) (mo:ByteArray) (da:Option Addr) (m dc:Nat):Calls Tryz.prog 37 #[.slice vo n cap,.agg #[.string (s 0),.string (s 1),.string (s 2),.string mo,.slice da m dc]] w (aC w (.int .i64 (fm (fun k=>bQ (t k).l) n))):=by
 have HG:=ai g;have HL:=ai hl;have HS:=ai hs;clear g hl hs;go_enter Tryz.func37,Tryz.ntmps37;go_wp2_with fail;refine cto (lK vo n cap t _ (HG.o.ext (((Ext.refl w).alloc _))) (HL.o.ext ((Ext.refl w).alloc _)) HS.o hn he s mo da m dc) fun w1 e1=>?_
 have HX1:Hid (Ext w w1):=ai (((Ext.refl w).alloc _).trans e1);clear e1;have hz2:¬ fm (fun k=>bQ (t k).l) n=0:=he;go_wp2;go_ret;exact ⟨rfl,HX1.o⟩
theorem sj (vo:Option Addr) (n cap:Nat) (t:Nat->T3) (w:World) (g:Gd w) (hl:mH w vo n t) (hnm:n<=maxLen):Calls Tryz.prog 9 #[.slice vo n cap] w (aC w (.bool true)):=by
 have HG:=ai g;have HL:=ai hl;clear g hl;go_enter Tryz.func9,Tryz.ntmps9;go_upto_region 1 with fail
 by_cases hf:s5 n t=true
 ·have HFW:=ai hf;obtain ⟨hts_,hn_⟩:=C8 hf;have HS:=ai hts_;clear hf hts_;go_wp2_with fail;refine cto (cf _ (HG.o.ext ((Ext.refl w)))) fun w1 e1=>?_
  have HX1:Hid (Ext w w1):=ai ((Ext.refl w).trans e1);clear e1;go_wp2_with fail;refine ((HFW.o▸DM vo n cap t _ (HL.o.ext HX1.o) hnm)).mono ?_;rintro e w2 ⟨rfl,e2⟩;have HX2:=ai (HX1.o.trans e2);clear e2;go_wp2_with fail;refine cto (Cw vo n cap t _ rfl _ (HG.o.ext (HX2.o)) (HL.o.ext HX2.o) HS.o ae) fun w3 e3=>?_
  have HX3:=ai (HX2.o.trans e3);clear e3;go_upto_region 4 with fail
  by_cases he:fm (fun k=>bQ (t k).l) n=0
  ·have hz2:fm (fun k=>bQ (t k).l) n=0:=he;go_wp2;go_ret;exact ⟨rfl,HX3.o⟩
  ·have hz2:¬ fm (fun k=>bQ (t k).l) n=0:=he;go_wp2_with fail;refine cto (uQ vo n cap t _ (HG.o.ext (HX3.o)) (HL.o.ext HX3.o) HS.o ae he) fun w4 e4=>?_
   have HX4:=ai (HX3.o.trans e4);clear e4;go_wp2_with fail;refine cto (uP vo n cap t _ (HG.o.ext ((HX4.o.alloc _))) (HL.o.ext (HX4.o.alloc _)) HS.o ae he (fun _=>⟨#[]⟩) ⟨#[]⟩ none 0 0) fun w5 e5=>?_
   have HX5:Hid (Ext w w5):=ai ((HX4.o.alloc _).trans e5);have HB0_5:Hid (ak w5 (w4.heap.size) (#[.string ⟨#[]⟩,.string ⟨#[]⟩,.string ⟨#[]⟩,.string ⟨#[]⟩,.slice none 0 0]) 60):=ai (((ak.nw (#[.string ⟨#[]⟩,.string ⟨#[]⟩,.string ⟨#[]⟩,.string ⟨#[]⟩,.slice none 0 0]) 60)).ext e5);have HGEB0:Hid (w.heap.size<=w4.heap.size):=ai (HX4.o.size);clear e5;go_wp2_with fail;refine cto (yu vo n cap t _ (HG.o.ext (HX5.o)) (HL.o.ext HX5.o) HS.o ae he (fun _=>⟨#[]⟩) ⟨#[]⟩ none 0 0) fun w6 e6=>?_
   have HX6:=ai (HX5.o.trans e6);have HB0_6:=ai (HB0_5.o.ext e6);clear e6;have c0_3:=HB0_6.o.cell 3 rfl;have c0_4:=HB0_6.o.cell 4 rfl;go_wp2_with fail;refine cto (sP vo n cap t _ (HG.o.ext (HX6.o)) (HL.o.ext HX6.o) HS.o ae he (fun _=>⟨#[]⟩) ⟨#[]⟩ none 0 0) fun w7 e7=>?_
   have HX7:=ai (HX6.o.trans e7);clear e7 c0_3 c0_4;go_wp2;go_ret;exact ⟨rfl,HX7.o⟩
 ·have hf2:s5 n t=false:=by simpa using hf
  have HFW:=ai hf2;clear hf hf2;go_wp2_with fail;refine cto (cf _ (HG.o.ext ((Ext.refl w)))) fun w1 e1=>?_
  have HX1:Hid (Ext w w1):=ai ((Ext.refl w).trans e1);clear e1;go_wp2_with fail;refine ((HFW.o▸DM vo n cap t _ (HL.o.ext HX1.o) hnm)).mono ?_;rintro e w2 ⟨rfl,e2⟩;have HX2:=ai (HX1.o.trans e2);clear e2;go_wp2_with fail;refine cto (cf _ (HG.o.ext (HX2.o))) fun w3 e3=>?_
  have HX3:=ai (HX2.o.trans e3);clear e3;go_wp2;go_ret;exact ⟨rfl,HX3.o⟩
end Go.Proofs.YtmahadmefplbnaaGreatDoor
