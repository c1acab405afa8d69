/- Part 22 of the proof: A1. -/
import Derived.Test.YtcenemaadnlknaaGreatDoorQPB2
import Derived.Test.YtcenemaadnlknaaGreatDoorQPB20
set_option maxRecDepth 100000
set_option maxHeartbeats 2000000
theorem Go.Proofs.YtcenemaadnlknaaGreatDoor.Hi22 {p:Prop} (h:p):Go.RowKit.Hid p:=h
namespace Go.Proofs.YtcenemaadnlknaaGreatDoor
open Go Go.RowKit
theorem fsign_c (n:Int) (w:World):Calls Tryz.prog 47 #[.string (zs n)] w (Ret w (.int .i64 n.sign)):=by
 obtain ⟨B,hB⟩:∃ B,B=decide (n<0):=⟨_,rfl⟩
 have HB:=Hi22 hB
 rcases Int.lt_trichotomy n 0 with h|h|h
 ·have hb:B=true:=by rw [hB];simpa using h
  subst hb
  have H:Hid (n.sign=-1):=Hi22 (Int.sign_eq_neg_one_of_neg h)
  clear hB h
  go_enter Tryz.func47,Tryz.ntmps47
  go_wp2_with (go_at_call 75;refine (split_c n _).mono ?_;rw [← HB.out];rintro e w1 ⟨rfl,e1⟩)
  go_ret
  exact ⟨by rw [H.out];rfl,e1⟩
 ·have hb:B=false:=by rw [hB];simp;omega
  subst hb
  have h1:=zs_is0 h
  have H:Hid (n.sign=0):=Hi22 (by rw [h];rfl)
  clear hB h
  go_enter Tryz.func47,Tryz.ntmps47
  go_wp2_with (go_at_call 75;refine (split_c n _).mono ?_;rw [← HB.out];rintro e w1 ⟨rfl,e1⟩)
  go_ret
  exact ⟨by rw [H.out];rfl,e1⟩
 ·have hb:B=false:=by rw [hB];simp;omega
  subst hb
  have h1:=zs_not0 (n:=n) (by omega)
  have H:Hid (n.sign=1):=Hi22 (Int.sign_eq_one_of_pos h)
  clear hB h
  go_enter Tryz.func47,Tryz.ntmps47
  go_wp2_with (go_at_call 75;refine (split_c n _).mono ?_;rw [← HB.out];rintro e w1 ⟨rfl,e1⟩)
  go_ret
  exact ⟨by rw [H.out];rfl,e1⟩
theorem fneg_c (n:Int) (w:World) (hl:(zl n).length<=100000):Calls Tryz.prog 144 #[.string (zs n)] w (Ret w (.string (zs (-n)))):=by
 obtain ⟨B,hB⟩:∃ B,B=decide (n<0):=⟨_,rfl⟩
 have HB:=Hi22 hB
 have hl2:(zs (n.natAbs:Int)).size<=100000:=by
  rw [zs_nat_size]
  have:=unsign_zl n
  rcases Int.lt_or_le n 0 with h|h
  ·rw [zl_neg h] at hl;simp at hl;omega
  ·rw [zl_pos h] at hl;exact hl
 rcases Int.lt_trichotomy n 0 with h|h|h
 ·have hb:B=true:=by rw [hB];simpa using h
  subst hb
  have H:Hid ((n.natAbs:Int)=-n):=Hi22 (by omega)
  clear hB h
  go_enter Tryz.func144,Tryz.ntmps144
  go_wp2_with (go_at_call 75;refine (split_c n _).mono ?_;rw [← HB.out];rintro e w1 ⟨rfl,e1⟩)
  go_ret
  exact ⟨ret_str H.out,e1⟩
 ·have hb:B=false:=by rw [hB];simp;omega
  subst hb
  have h1:=zs_is0 h
  have H:Hid ((n.natAbs:Int)=-n):=Hi22 (by omega)
  clear hB h
  go_enter Tryz.func144,Tryz.ntmps144
  go_wp2_with (go_at_call 75;refine (split_c n _).mono ?_;rw [← HB.out];rintro e w1 ⟨rfl,e1⟩)
  go_ret
  exact ⟨ret_str H.out,e1⟩
 ·have hb:B=false:=by rw [hB];simp;omega
  subst hb
  have h1:=zs_not0 (n:=n) (by omega)
  have H:Hid ((⟨#[45]⟩:ByteArray) ++ zs (n.natAbs:Int)=zs (-n)):=Hi22 (by rw [show (n.natAbs:Int)=n by omega];exact zs_neg_pos h)
  clear hB h
  go_enter Tryz.func144,Tryz.ntmps144
  go_wp2_with (go_at_call 75;refine (split_c n _).mono ?_;rw [← HB.out];rintro e w1 ⟨rfl,e1⟩)
  go_ret
  exact ⟨ret_qs H.out,e1⟩
theorem canon_go (a s:ByteArray) (mi v:Bool) (w:World) (hc:∀ w,Calls Tryz.prog 75 #[.string a] w (Ret w (.tuple #[.bool mi,.string s]))) (hs:s.size<=1000000)
    (hv:Hid ((¬ Dg s->v=false)/\(Dg s->(s.size=0->v=false)/\(∀ h:0<s.size,((s[0].toNat:Int)=48->(mi=true∨1<s.size)->v=false)/\((s[0].toNat:Int)=48->mi=false->s.size<=1->v=true)/\(¬ (s[0].toNat:Int)=48->v=true))))) :
    Calls Tryz.prog 114 #[.string a] w (Ret w (.bool v)):=by
 go_enter Tryz.func114,Tryz.ntmps114
 go_wp2_with (go_at_call 75;refine (hc _).mono ?_;rintro e w1 ⟨rfl,e1⟩)
 go_loop [5] (fun i=>∃ k:Nat,k<=s.size/\i = .int .i64 k/\Hid (∀ j (h:j<s.size),j<k->48<=(s[j].toNat:Int)/\(s[j].toNat:Int)<=57)) (fun i=>s.size-(intOf i).toNat)
 case atStart=>exact ⟨0,Nat.zero_le _,rfl,Hi22 (fun j h h'=>by omega)⟩
 case round =>
  obtain ⟨k,hk,rfl,hdg⟩:=hrel
  by_cases hlt:k<s.size
  ·rcases Int.lt_or_le (s[k].toNat:Int) 48 with hd|hd
   ·have e2:v=false:=hv.out.1 (fun h=>by have:=(h k hlt).1;omega)
    have E2:=Hi22 e2
    clear e2
    go_wp2
    go_ret
    exact ⟨by rw [E2.out];rfl,e1⟩
   ·rcases Int.lt_or_le 57 (s[k].toNat:Int) with hd2|hd2
    ·have e2:v=false:=hv.out.1 (fun h=>by have:=(h k hlt).2;omega)
     have E2:=Hi22 e2
     clear e2
     go_wp2
     go_ret
     exact ⟨by rw [E2.out];rfl,e1⟩
    ·have HD:=Hi22 (And.intro hd hd2)
     go_wp2
     go_round
     case rel=>exact ⟨k+1,by omega,by go_num,Hi22 (fun j h h'=>by
      by_cases e:j=k
      ·subst e;exact HD.out
      ·exact hdg.out j h (by omega))⟩
     case measure=>simp [intOf];omega
  ·have hall:=hv.out.2 (fun j h=>hdg.out j h (by omega))
   have HALL:=Hi22 hall
   clear hall
   by_cases h0:s.size=0
   ·have E2:=Hi22 (HALL.out.1 h0)
    have h0':(s.size:Int)=0:=by omega
    clear h0
    go_wp2
    go_ret
    exact ⟨by rw [E2.out];rfl,e1⟩
   ·have h1:0<s.size:=by omega
    have h1':(0:Int)<s.size:=by omega
    have h0':¬ (s.size:Int)=0:=by omega
    by_cases h48:(s[0].toNat:Int)=48
    ·cases mi
     ·by_cases h2:1<s.size
      ·have E2:=Hi22 ((HALL.out.2 h1).1 h48 (Or.inr h2))
       have h2':(1:Int)<s.size:=by omega
       go_wp2
       go_ret
       exact ⟨by rw [E2.out];rfl,e1⟩
      ·have E2:=Hi22 ((HALL.out.2 h1).2.1 h48 rfl (by omega))
       have h2':¬ (1:Int)<s.size:=by omega
       go_wp2
       go_ret
       exact ⟨by rw [E2.out];rfl,e1⟩
     ·have E2:=Hi22 ((HALL.out.2 h1).1 h48 (Or.inl rfl))
      go_wp2
      go_ret
      exact ⟨by rw [E2.out];rfl,e1⟩
    ·have E2:=Hi22 ((HALL.out.2 h1).2.2 h48)
     go_wp2
     go_ret
     exact ⟨by rw [E2.out];rfl,e1⟩
def CanonI (l:List UInt8):Prop:=∃ n:Int,l=zl n
theorem canon_iff (l t:List UInt8) (mi:Bool) (ht:Lib.trimPrefix l [45]=t) (hm:Lib.hasPrefix l [45]=mi) :
    CanonI l ↔ t≠[]/\(t.head?≠some 48∨(t.length=1/\mi=false))/\∀ b ∈ t,isDig b=true:=by
 rcases trim_cases l with ⟨t',rfl,h1,h2⟩|⟨h0,h1,h2⟩
 ·obtain rfl:t'=t:=by rw [← h1,ht]
  obtain rfl:mi=true:=by rw [← hm,h2]
  constructor
  ·rintro ⟨n,hn⟩
   have hneg:n<0:=by rw [← zl_head_neg,← hn];rfl
   rw [zl_neg hneg] at hn
   have e:=(List.cons.inj hn).2
   obtain ⟨b,r,e2,hb⟩:=dec_head n.natAbs (by omega)
   exact ⟨by rw [e];exact dec_ne _,Or.inl (by rw [e,e2];simpa using hb),by rw [e];exact dec_digs _⟩
  ·rintro ⟨g1,g3,g4⟩
   have g3':t'.head?≠some 48:=by
    rcases g3 with g|⟨_,g⟩
    ·exact g
    ·cases g
   have e:=dec_of_digs t' g1 g4 (Or.inl g3')
   have hp:val t'≠0:=by intro hv;rw [hv,dec_zero] at e;rw [← e] at g3';simp at g3'
   exact ⟨-(val t':Int),by rw [zl_neg (by omega),Int.natAbs_neg,Int.natAbs_natCast,e]⟩
 ·obtain rfl:l=t:=by rw [← h1,ht]
  obtain rfl:mi=false:=by rw [← hm,h2]
  constructor
  ·rintro ⟨n,hn⟩
   have hneg:0<=n:=by
    rcases Int.lt_or_le n 0 with h|h
    ·rw [zl_neg h] at hn;exact absurd hn (h0 _)
    ·exact h
   rw [zl_pos hneg] at hn
   refine ⟨by rw [hn];exact dec_ne _,?_,by rw [hn];exact dec_digs _⟩
   by_cases hz:n.natAbs=0
   ·right;rw [hn,hz,dec_zero];exact ⟨rfl,rfl⟩
   ·left
    obtain ⟨b,r,e2,hb⟩:=dec_head n.natAbs hz
    rw [hn,e2];simpa using hb
  ·rintro ⟨g1,g3,g4⟩
   have e:=dec_of_digs l g1 g4 (by
    rcases g3 with g|⟨g,_⟩
    ·exact Or.inl g
    ·obtain ⟨b,rfl⟩:=List.length_eq_one_iff.1 g
     by_cases hb:b=48
     ·right;rw [hb]
     ·left;simp [hb])
   exact ⟨(val l:Int),by rw [zl_nat,e]⟩
theorem head_48:∀ (l:List UInt8) (h:0<l.length),((l[0].toNat:Int)=48 ↔ l.head?=some 48)
 | b :: t,_=>by
  simp only [List.getElem_cons_zero,List.head?_cons,Option.some.injEq]
  constructor
  ·intro e;apply UInt8.toNat_inj.1;show b.toNat=48;omega
  ·intro e;rw [e];rfl
theorem canon_c (a:ByteArray) (v:Bool) (w:World) (hs:a.size<=1000000) (hv:(CanonI a.data.toList->v=true)/\(¬ CanonI a.data.toList->v=false)) :
    Calls Tryz.prog 114 #[.string a] w (Ret w (.bool v)):=by
 obtain ⟨t,ht⟩:∃ t,Lib.trimPrefix a.data.toList [45]=t:=⟨_,rfl⟩
 obtain ⟨mi,hm⟩:∃ mi,Lib.hasPrefix a.data.toList [45]=mi:=⟨_,rfl⟩
 have hc:=split_any a
 rw [ht,hm] at hc
 have hiff:=canon_iff a.data.toList t mi ht hm
 obtain ⟨s,hst⟩:∃ s:ByteArray,s=⟨t.toArray⟩:=⟨_,rfl⟩
 rw [← hst] at hc
 have hl:s.data.toList=t:=by rw [hst]
 have hsz:s.size=t.length:=by rw [size_list,hl]
 have htl:t.length<=a.data.toList.length:=by
  rcases trim_cases a.data.toList with ⟨t',e,e1,_⟩|⟨_,e1,_⟩
  ·rw [← ht,e1,e];simp
  ·rw [← ht,e1];exact Nat.le_refl _
 clear hst
 have hdg:Dg s ↔ ∀ b ∈ t,isDig b=true:=by rw [dg_iff,hl]
 refine canon_go a s mi v w hc (by rw [← size_list a] at htl;omega) (Hi22 ⟨fun h=>hv.2 (fun e=>h (hdg.2 (hiff.1 e).2.2)),fun h=>⟨fun h0=>hv.2 (fun e=>(hiff.1 e).1 (List.length_eq_zero_iff.1 (by omega))),fun h1=>?_⟩⟩)
 have h48:(s[0].toNat:Int)=48 ↔ t.head?=some 48:=by rw [bytes_getElem _ 0 h1,head_48,hl]
 have hne:t≠[]:=by intro e;rw [e,List.length_nil] at hsz;omega
 refine ⟨fun e hh=>hv.2 (fun hc=>?_),fun e hm0 h2=>hv.1 (hiff.2 ⟨hne,Or.inr ⟨by omega,hm0⟩,hdg.1 h⟩),fun e=>hv.1 (hiff.2 ⟨hne,Or.inl (fun hh=>e (h48.2 hh)),hdg.1 h⟩)⟩
 rcases (hiff.1 hc).2.1 with k|⟨k1,k2⟩
 ·exact k (h48.1 e)
 ·rcases hh with hh|hh
  ·rw [k2] at hh;cases hh
  ·omega
theorem rightI_canon (l t:List UInt8) (ht:Lib.trimPrefix l [45]=t):RightI l ↔ CanonI l/\t.length<=200:=by
 have h1:=right_iff l t _ ht rfl
 have h2:=canon_iff l t _ ht rfl
 rw [h1,h2]
 constructor
 ·rintro ⟨a,b,c,d⟩;exact ⟨⟨a,c,d⟩,b⟩
 ·rintro ⟨⟨a,c,d⟩,b⟩;exact ⟨a,b,c,d⟩
theorem fright_c (a:ByteArray) (v:Bool) (w:World) (hs:a.size<=1000000) (hv:(RightI a.data.toList->v=true)/\(¬ RightI a.data.toList->v=false)) :
    Calls Tryz.prog 71 #[.string a] w (Ret w (.bool v)):=by
 obtain ⟨t,ht⟩:∃ t,Lib.trimPrefix a.data.toList [45]=t:=⟨_,rfl⟩
 obtain ⟨mi,hm⟩:∃ mi,Lib.hasPrefix a.data.toList [45]=mi:=⟨_,rfl⟩
 have hc:=split_any a
 rw [ht,hm] at hc
 have hri:=rightI_canon a.data.toList t ht
 obtain ⟨s,hst⟩:∃ s:ByteArray,s=⟨t.toArray⟩:=⟨_,rfl⟩
 rw [← hst] at hc
 have hsz:s.size=t.length:=by rw [size_list,hst]
 clear hst
 have HC:=Hi22 hc
 by_cases h1:CanonI a.data.toList
 ·have K:=Hi22 (fun w=>canon_c a true w hs ⟨fun _=>rfl,fun h=>absurd h1 h⟩)
  by_cases h2:t.length<=200
  ·have E:=Hi22 (hv.1 (hri.2 ⟨h1,h2⟩))
   have h2':(s.size:Int)<=200:=by omega
   clear hv hri hc h1 h2 hsz ht hm
   go_enter Tryz.func71,Tryz.ntmps71
   go_wp2_with (first
    | (go_at_call 75;refine (HC.out _).mono ?_;rintro e w1 ⟨rfl,e1⟩)
    | (go_at_call 114;refine (K.out _).mono ?_;rintro e w2 ⟨rfl,e2⟩))
   go_ret
   exact ⟨by rw [E.out];rfl,e1.trans e2⟩
  ·have E:=Hi22 (hv.2 (fun h=>h2 (hri.1 h).2))
   have h2':¬ (s.size:Int)<=200:=by omega
   have h2'':decide ((s.size:Int)<=200)=false:=by simpa using h2'
   clear hv hri hc h1 h2 hsz ht hm
   go_enter Tryz.func71,Tryz.ntmps71
   go_wp2_with (first
    | (go_at_call 75;refine (HC.out _).mono ?_;rintro e w1 ⟨rfl,e1⟩)
    | (go_at_call 114;refine (K.out _).mono ?_;rintro e w2 ⟨rfl,e2⟩))
   go_ret
   exact ⟨by rw [E.out];rfl,e1.trans e2⟩
 ·have K:=Hi22 (fun w=>canon_c a false w hs ⟨fun h=>absurd h h1,fun _=>rfl⟩)
  have E:=Hi22 (hv.2 (fun h=>h1 (hri.1 h).1))
  clear hv hri hc h1 hsz ht hm
  go_enter Tryz.func71,Tryz.ntmps71
  go_wp2_with (first
   | (go_at_call 75;refine (HC.out _).mono ?_;rintro e w1 ⟨rfl,e1⟩)
   | (go_at_call 114;refine (K.out _).mono ?_;rintro e w2 ⟨rfl,e2⟩))
  go_ret
  exact ⟨by rw [E.out];rfl,e1.trans e2⟩
end Go.Proofs.YtcenemaadnlknaaGreatDoor
