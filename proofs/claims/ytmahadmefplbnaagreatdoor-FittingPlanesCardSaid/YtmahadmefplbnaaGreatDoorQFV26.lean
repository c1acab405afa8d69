/- Part 26. -/
import Derived.Test.YtmahadmefplbnaaGreatDoorQFVB
import Derived.Test.YtmahadmefplbnaaGreatDoorQFV25
import Derived.Lib.ParseIntBTie
set_option maxRecDepth 100000
set_option maxHeartbeats 2000000
open Go.Proofs.Tryz
set_option linter.unusedSimpArgs false
set_option linter.unusedVariables false
namespace Go.Proofs.YtmahadmefplbnaaGreatDoor
theorem s0:True:=by
 /- cX bD kJ b8 aU fJ dw fK mU dL Cl oU xQ qcmp_le Cm rq jX mR eA cC aV zR um bE kK jz uo uA iU mS Rn.mem ft.cons aw C8 aq.uD aq.other iQ rf mX QB.div QB.int QB.add QB.mul QB.neg QB.mono QB.cU QB.cq IB.mono dC ey dX gV gU js tri nL QB.len QB.size a7 cd j0 rv dK cY -/
 trivial
end Go.Proofs.YtmahadmefplbnaaGreatDoor
namespace Go.Proofs.YtmahadmefplbnaaGreatDoor
open Go Go.RowKit
theorem ax{w w':World}(e:Ext w w'){a:Addr}{v:Value}(h:w.cell? a=some v):w'.cell? a=some v:=(e.cell (xi h)).trans h
theorem gO{cs:Array Value}{i:Nat}{u v:Value}(h:cs[i]?=some u):(cs.setIfInBounds i v)[i]?=some v:=by
 have:=(Array.getElem?_eq_some_iff.1 h).1;simp[this]
theorem fl{cs:Array Value}{i j:Nat}{u v:Value}(hij:i≠j)(h:cs[j]?=some u):(cs.setIfInBounds i v)[j]?=some u:=by
 rw[Array.getElem?_setIfInBounds_ne hij];exact h
theorem aZ{c:Prop}[Decidable c]{a b a' b':Prop}(h:if c then a else b)(ha:a->a')(hb:b->b'):if c then a' else b':=by
 split
 ·rename_i hc;rw[if_pos hc] at h;exact ha h
 ·rename_i hc;rw[if_neg hc] at h;exact hb h
theorem wK{c:Prop}[Decidable c]{a b a' b':Prop}(h:if c then a else b)(ha:a->a')(hb:b->b'):if c then a' else b':=aZ h ha hb
theorem Mv.le{X w W:World}{S:Nat->Prop}(h:Mv X w S W){k:Nat}(hk:S k∨w.heap.size<=k):X.heap.size<=k:=hk.elim (h.low k) (fun e=>Nat.le_trans h.base e)
def Rd(w:World)(v:Value)(n:Nat)(g:Nat->Value):Prop:=∃ (ao:Option Addr) (cap:Nat),v = .slice ao n cap/\n<=cap/\cap<=maxLen/\∀ i,i<n->∃ a,ao=some a/\w.cell? (a.add i)=some (g i)
theorem Rd.ext{w w':World}{v:Value}{n:Nat}{g:Nat->Value}(h:Rd w v n g)(e:Ext w w'):Rd w' v n g:=by
 obtain⟨ao,cap,h1,h2,h3,h4⟩:=h;exact⟨ao,cap,h1,h2,h3,fun i hi=>let ⟨a,e1,e2⟩:=h4 i hi;⟨a,e1,ax e e2⟩⟩
theorem Rd.congr{w:World}{v:Value}{n:Nat}{g g':Nat->Value}(h:Rd w v n g)(e:∀ i,i<n->g i=g' i):Rd w v n g':=by
 obtain⟨ao,cap,h1,h2,h3,h4⟩:=h;exact⟨ao,cap,h1,h2,h3,fun i hi=>let ⟨a,e1,e2⟩:=h4 i hi;⟨a,e1,by rw[← e i hi];exact e2⟩⟩
theorem Rd.nil(w:World)(g:Nat->Value):Rd w (.slice none 0 0) 0 g:=⟨none,0,rfl,Nat.le_refl _,Nat.zero_le _,fun i hi=>absurd hi ae⟩
theorem Rd.az{w:World}{k n cap:Nat}{cs:Array Value}{t:TypeId}{g:Nat->Value}(hB:aq w k cs t)(h1:n<=cap)(h2:cap<=maxLen)(hc:∀ i,i<n->cs[i]?=some (g i)):Rd w (.slice (some ⟨k,0,none⟩) n cap) n g :=
 ⟨_,_,rfl,h1,h2,fun i hi=>⟨_,rfl,by
  have e:(⟨k,0,none⟩:Addr).add i=⟨k,i,none⟩:=by unfold Addr.add;split <;> simp_all
  rw[e];exact hB.cell i (hc i hi)⟩⟩
abbrev Rs(w:World)(v:Value)(n:Nat)(t:Nat->ByteArray):Prop:=Rd w v n (fun i => .string (t i))
abbrev Rq(w:World)(v:Value)(n:Nat)(a:Nat->Rat):Prop:=Rd w v n (fun i => .string (qs (a i)))
abbrev Ri(w:World)(v:Value)(n:Nat)(a:Nat->Int):Prop:=Rd w v n (fun i => .int .i64 (a i))
theorem mN{n k m:Nat}{a b:Nat->Rat}(ha:∀ i,i<n->QB k (a i))(hb:∀ i,i<n->QB m (b i)):∀ i,i<=n->QB (1+i*(k+m+1)) (aH i (fun j=>a j*b j))
 | 0,_=>by simp only[aH];exact(QB.int (n:=0) (k:=1) ⟨af⟩ af).mono ae
 | i+1,hi=>by
  rw[aH];exact((mN ha hb i ae).add ((ha i ae).mul (hb i ae))).mono (by rw[Nat.add_mul,Nat.one_mul];omega)
theorem Ba{i n k m:Nat}(hi:i<=n)(h:n*(k+m+1)<=198):1+i*(k+m+1)<=199:=by
 have:=Nat.mul_le_mul_right (k+m+1) hi;omega
theorem G7:QB 1 (0:Rat):=QB.int (n:=0) (k:=1) ⟨af⟩ af
theorem kO{c:Prop}[Decidable c]{q:Nat}{a b:Rat}(ha:QB q a)(hb:QB q b):QB q (if c then a else b):=by
 split
 ·exact ha
 ·exact hb
theorem r4 {n at_:Nat} {f:Nat->Rat} {FC:Array Value} (h:∀ j,j<n->FC[j]?=some (.string (qs (f j)))) (hat:at_<n) (j:Nat) (hj:j<n) :
    (FC.setIfInBounds at_ (.string ⟨#[48]⟩))[j]?=some (.string (qs (if j=at_ then 0 else f j))):=by
 by_cases e:j=at_
 ·subst e;rw[if_pos rfl,bE];exact gO (h j hj)
 ·rw[if_neg e];exact fl (Ne.symm e) (h j hj)
theorem uw {n k:Nat} {f0 bf:Nat->Rat} {x:Rat} {FK:Array Value} (h:∀ j,j<n->FK[j]?=some (.string (qs (if j<k then f0 j+x*bf j else f0 j)))) (hb:bf k=0) (j:Nat) (hj:j<n) :
    FK[j]?=some (.string (qs (if j<k+1 then f0 j+x*bf j else f0 j))):=by
 rw[h j hj];by_cases e:j=k
 ·subst e;rw[if_neg ae,if_pos ae,hb,Rat.mul_zero,Rat.add_zero]
 ·by_cases h1:j<k
  ·rw[if_pos h1,if_pos ae]
  ·rw[if_neg h1,if_neg ae]
theorem xR {n k:Nat} {f0 bf:Nat->Rat} {x:Rat} {FK:Array Value} (h:∀ j,j<n->FK[j]?=some (.string (qs (if j<k then f0 j+x*bf j else f0 j)))) (hk:k<n) (j:Nat) (hj:j<n) :
    (FK.setIfInBounds k (.string (qs (f0 k+x*bf k))))[j]?=some (.string (qs (if j<k+1 then f0 j+x*bf j else f0 j))):=by
 by_cases e:j=k
 ·subst e;rw[if_pos ae];exact gO (h j hj)
 ·rw[fl (Ne.symm e) (h j hj)];by_cases h1:j<k
  ·rw[if_pos h1,if_pos ae]
  ·rw[if_neg h1,if_neg ae]
theorem DM(X:World)(lb lo fg fcap n at_ bg bcap q:Nat)(c bc:Rat)(f bf:Nat->Rat)(LC FC BC:Array Value)(tl:TypeId)(w:World)(g:Gd X)(hX:Ext X w)(xl:X.heap.size<=lb)(xf:X.heap.size<=fg)(n1:lb≠fg)(n2:bg≠lb)(n3:bg≠fg)(bl:aq w lb LC tl)(bF:aq w fg FC 34)(bG:aq w bg BC 34)(l0:LC[lo]?=some (.string (qs c)))(l1:LC[lo+1]?=some (.slice (some ⟨fg,0,none⟩) n fcap))(hF:∀ j,j<n->FC[j]?=some (.string (qs (f j))))(hG:∀ j,j<n->BC[j]?=some (.string (qs (bf j))))(hat:at_<n)(hn:n<=1000000)(hq1:1<=q)(hq2:q<=900)(qc:QB q c)(qb:QB q bc)(qf:∀ j,j<n->QB q (f j))(qbf:∀ j,j<n->QB q (bf j)):Calls prog 257 #[.pointer (some ⟨lb,lo,none⟩),.int .i64 (at_:Int),.agg #[.string (qs bc),.slice (some ⟨bg,0,none⟩) n bcap]] w (fun e w'=>e = .returned (.tuple #[])/\Mv X w (fun k=>k=lb∨k=fg) w'/\∃ LD,aq w' lb LD tl/\LD[lo]?=some (.string (qs (c+f at_*bc)))/\(∀ i,i≠lo->LD[i]?=LC[i]?)/\∃ FD,aq w' fg FD 34/\∀ j,j<n->FD[j]?=some (.string (qs ((if j=at_ then 0 else f j)+f at_*bf j)))):=by
 have HG:=ai g;have HLB:=ai bl;have HFB:=ai bF;have HGB:=ai bG;have HL0:=ai l0;have HL1:=ai l1;have HFC:=ai hF;have HGC:=ai hG;have HQc:=ai qc;have HQb:=ai qb;have HQ:=ai qf;have HQf:=ai qbf;have HN1:=ai n1;have HN2:=ai n2;have HN3:=ai n3;clear g bl bF bG l0 l1 hF hG qc qb qf qbf n1 n2 n3;have HX0:Hid (Mv X w (fun k=>k=lb∨k=fg) w):=ai (Mv.refl hX (fun k h=>h.elim (fun e=>e▸xl) (fun e=>e▸xf)));have HQ1:=ai hq1;have hat2:(at_:Int)<(n:Int):=ae;clear hX xl xf;go_enter func257,ntmps257;go_upto_region 1 with fail
 refine aw (fun W=>Mv X w (fun k=>k=lb∨k=fg) W/\aq W (lb) (LC) tl/\aq W (fg) (FC) 34/\aq W (bg) (BC) 34/\aq W (w.heap.size) (#[.string (qs bc),.slice (some ⟨bg,0,none⟩) n bcap]) 182) ⟨(HX0.o.alloc _),(HLB.o.alloc _),(HFB.o.alloc _),(HGB.o.alloc _),(aq.nw (#[.string (qs bc),.slice (some ⟨bg,0,none⟩) n bcap]) 182)⟩ ?_;rintro w1 ⟨e1,bBl_1,bBf_1,bBg_1,bB0_1⟩;have HX1:=ai e1;have HBl_1:=ai bBl_1;have HBf_1:=ai bBf_1;have HBg_1:=ai bBg_1;have HB0_1:=ai bB0_1;have HGEB0:Hid (w.heap.size<=w.heap.size):=ai (Nat.le_refl _);clear e1 bBl_1 bBf_1 bBg_1 bB0_1;have cl_lo___1:=HBl_1.o.cell (lo+1) HL1.o;have cf_at_:=HBf_1.o.cell (at_) (HFC.o at_ hat);have ff_at_:=HBf_1.o.free at_;by_cases hz:f at_=0
 ·have z1:=cC hz;have HZ:=ai hz;clear hz;go_wp2_with fail;refine aw (fun W=>Mv X w (fun k=>k=lb∨k=fg) W/\aq W (lb) (LC) tl/\aq W (fg) ((FC).setIfInBounds at_ (.string ⟨#[48]⟩)) 34/\aq W (bg) (BC) 34/\aq W (w.heap.size) (#[.string (qs bc),.slice (some ⟨bg,0,none⟩) n bcap]) 182) ⟨(HX1.o.setCell (Or.inl (Or.inr rfl)) _),(HBl_1.o.other (a:=⟨fg,at_,none⟩) _ (HN1.o)),(HBf_1.o.set at_ (.string ⟨#[48]⟩)),(HBg_1.o.other (a:=⟨fg,at_,none⟩) _ (HN3.o)),(HB0_1.o.other (a:=⟨fg,at_,none⟩) _ (by have:=HFB.o.lt;first|omega|(simp only[];omega)|(simp;omega)))⟩ ?_;rintro w2 ⟨e2,bBl_2,bBf_2,bBg_2,bB0_2⟩;have HX2:=ai e2;have HBl_2:=ai bBl_2;have HBf_2:=ai bBf_2;have HBg_2:=ai bBg_2;have HB0_2:=ai bB0_2;clear e2 bBl_2 bBf_2 bBg_2 bB0_2 cl_lo___1 cf_at_ ff_at_;go_wp2
  first|go_end0|((try simp only[Exit.inBlock,Exit.then]);refine bodyPost_ret (results_none rfl _ _ _) rfl ?_)
  exact⟨rfl,HX2.o,_,HBl_2.o,by rw[HZ.o,Rat.zero_mul,Rat.add_zero];exact HL0.o,fun i _=>rfl,_,HBf_2.o,fun j hj=>by rw[HZ.o,Rat.zero_mul,Rat.add_zero];exact r4 HFC.o hat j hj⟩
 ·have z1:=aV hz;clear hz;go_wp2_with fail;refine aw (fun W=>Mv X w (fun k=>k=lb∨k=fg) W/\aq W (lb) (LC) tl/\aq W (fg) ((FC).setIfInBounds at_ (.string ⟨#[48]⟩)) 34/\aq W (bg) (BC) 34/\aq W (w.heap.size) (#[.string (qs bc),.slice (some ⟨bg,0,none⟩) n bcap]) 182) ⟨(HX1.o.setCell (Or.inl (Or.inr rfl)) _),(HBl_1.o.other (a:=⟨fg,at_,none⟩) _ (HN1.o)),(HBf_1.o.set at_ (.string ⟨#[48]⟩)),(HBg_1.o.other (a:=⟨fg,at_,none⟩) _ (HN3.o)),(HB0_1.o.other (a:=⟨fg,at_,none⟩) _ (by have:=HFB.o.lt;first|omega|(simp only[];omega)|(simp;omega)))⟩ ?_;rintro w2 ⟨e2,bBl_2,bBf_2,bBg_2,bB0_2⟩;have HX2:=ai e2;have HBl_2:=ai bBl_2;have HBf_2:=ai bBf_2;have HBg_2:=ai bBg_2;have HB0_2:=ai bB0_2;clear e2 bBl_2 bBf_2 bBg_2 bB0_2 cl_lo___1 cf_at_ ff_at_;refine ay [.val (.pointer (some ⟨lb,lo,none⟩)),.val (.pointer (some ⟨lb,lo,none⟩)),.val (.pointer (some ⟨lb,lo,none⟩)),.val (.pointer (some ⟨lb,lo,none⟩)),.val (.string (qs c)),.val (.string (qs (f at_))),.val (.pointer (some ⟨w.heap.size,0,none⟩)),.val (.string (qs bc)),.val (.string (qs (f at_*bc))),.val (.string (qs (c+f at_*bc))),.val (.pointer (some ⟨lb,lo,none⟩)),.val (.pointer (some ⟨lb,lo,none⟩)),.aR] (fun L g W=>(if L 12=true then aq W (lb) ((LC).setIfInBounds lo (.string (qs (c+f at_*bc)))) tl else aq W (lb) (LC) tl)) (S:=fun k=>k=lb) ag ag ag (Mv.refl HX2.o.ext (fun k h=>(fun e=>Nat.le_trans (HX2.o.le (Or.inl (Or.inl rfl))) (Nat.le_of_eq e.symm)) h)) ?_ ?_ ?_ ?_ (fun gv_ w3 hm_ he_=>?_)
  ·exact fun gz_=>(by rw[if_neg af];exact HBl_2.o.drew)
  ·exact fun L g W W1 h e=>aZ (h) (fun h=>h.ext e) (fun h=>h.ext e)
  ·intro i v L g W hi h;have n12_:i≠12:=fun e=>by subst e;exact absurd (show false=true from hi) af
   simp only[au n12_,av n12_];exact h
  ·skip
   refine RI 0 (.pointer (some ⟨lb,lo,none⟩))<|RI 0 (.pointer (some ⟨lb,lo,none⟩))<|R1 1<|R1 2 ?_;refine RV (fun A_ hs_ K_ hK_=>?_) ?_;· have q27_:=hs_.val 3;have n12_:=hs_.no 12 af ag;have e12_:=hs_.e;rw[if_neg (by rw[n12_];decide)] at e12_;have cl_lo:=e12_.cell (lo) HL0.o;clear e12_ n12_;go_simp;exact bY hK_
   refine RI 6 (.string (qs (f at_)))<|RI 5 (.pointer (some ⟨w.heap.size,0,none⟩))<|J2 (fun hs_=>hs_.val 6) (fun hs_=>(hs_.mv.az HB0_2.o (fun h=>((show w.heap.size≠lb from by have:=HLB.o.lt;first|omega|(simp only[];omega)|(simp;omega))) h)).cell 0 rfl)<|K2 (fun hs_=>hs_.val 5) (fun hs_=>hs_.val 7) (fun hs_=>bD (f at_) bc _ (HG.o.ext hs_.mv.ext) (HQ.o at_ hat) HQb.o ae ae)<|K2 (fun hs_=>hs_.val 4) (fun hs_=>hs_.val 8) (fun hs_=>cX c (f at_*bc) _ (HG.o.ext hs_.mv.ext) HQc.o ((HQ.o at_ hat).mul HQb.o) ae ae)<|R1 0<|R1 10 ?_;refine aA.cons (fun L_ g_ A_ W_ hs_=>?_) ?_
   ·have q35_:=hs_.val 11;have q33_:=hs_.val 9;refine cI.aR fun K_ hK_=>?_;have n_:=hs_.not;have e_:=hs_.e;rw[if_neg (by rw[n_];decide)] at e_;have c_0:=e_.cell (lo) HL0.o;have f_0:=e_.free lo;have HE_:=ai e_;have HM_:=ai hs_.mv;have HEE_:=ai hs_.e;clear e_ n_;go_simp;exact hK_.o undef _ (HM_.o.setCell (Or.inl (rfl)) _) (by rw[aM,if_pos rfl];exact(HE_.o.set lo _))
   exact aA.nil
  simp only[dD,Ke.value,aX,Act.put,List.setIfInBounds_toArray,List.set_cons_zero,List.set_cons_succ];have HX3:=ai (HX2.o.comp hm_ (fun k h=>(fun e=>(by rw[e];exact(Or.inl (Or.inl rfl)))) h));have HBl_3:Hid (aq w3 (lb) ((LC).setIfInBounds lo (.string (qs (c+f at_*bc)))) tl):=ai (by have h_:=he_;rw[if_pos rfl] at h_;exact h_);have HBf_3:=ai (hm_.az HBf_2.o (fun h=>((show fg≠lb from fun h=>HN1.o h.symm)) h));have HBg_3:=ai (hm_.az HBg_2.o (fun h=>((show bg≠lb from HN2.o)) h));have HB0_3:=ai (hm_.az HB0_2.o (fun h=>((show w.heap.size≠lb from by have:=HLB.o.lt;first|omega|(simp only[];omega)|(simp;omega))) h));clear hm_ he_;obtain⟨LC2,a2_,a3_,a4_⟩:∃ z,aq w3 lb z tl/\z[lo]?=some (.string (qs (c+f at_*bc)))/\∀ i,i≠lo->z[i]?=LC[i]?:=⟨_,HBl_3.o,gO HL0.o,fun i hi=>Array.getElem?_setIfInBounds_ne (Ne.symm hi)⟩
  obtain⟨f0,a5_⟩:∃ f0:Nat->Rat,f0=fun j=>if j=at_ then 0 else f j:=⟨_,rfl⟩
  obtain⟨FC2,a6_,a7_⟩:∃ z,aq w3 fg z 34/\∀ j,j<n->z[j]?=some (.string (qs (f0 j))):=⟨_,HBf_3.o,fun j hj=>by rw[a5_];exact r4 HFC.o hat j hj⟩
  have a8_:=(a4_ (lo+1) ae).trans HL1.o;have HL2:=ai a2_;have HLC2:=ai a3_;have HLN:=ai a4_;have HF0:=ai a5_;have HF2:=ai a6_;have HFC2:=ai a7_;have HL3:=ai a8_;have HQ0:Hid (∀ j,j<n->QB q (f0 j)):=ai (fun j hj=>by rw[a5_];exact kO (G7.mono HQ1.o) (HQ.o j hj));clear a2_ a3_ a4_ a5_ a6_ a7_ a8_;have c0_1:=HB0_3.o.cell 1 rfl;go_wp2_with fail;clear c0_1;go_loopw [39] (fun x0_ wx=>∃ k:Nat,x0_ = .int .i64 k/\k<=n/\Hid (Mv X w (fun k=>k=lb∨k=fg) wx/\aq wx (w.heap.size) (#[.string (qs bc),.slice (some ⟨bg,0,none⟩) n bcap]) 182/\aq wx lb LC2 tl/\aq wx bg BC 34/\∃ FK,aq wx fg FK 34/\∀ j,j<n->FK[j]?=some (.string (qs (if j<k then f0 j+f at_*bf j else f0 j))))) (fun x0_ _=>n-(intOf x0_).toNat)
  case atStart=>exact⟨0,rfl,Nat.zero_le _,ai ⟨HX3.o,HB0_3.o,HL2.o,HBg_3.o,_,HF2.o,fun j hj=>by rw[if_neg (Nat.not_lt_zero _)];exact HFC2.o j hj⟩⟩
  case round =>
   rename World=>w4
   obtain⟨k,rfl,hk,HH⟩:=hrel;have HX4:=ai HH.o.1;have HB0_4:=ai HH.o.2.1;have HBl_4:=ai HH.o.2.2.1;have HBg_4:=ai HH.o.2.2.2.1;obtain⟨FK,a1_,a2_⟩:=HH.o.2.2.2.2;have HBf_4:=ai a1_;have HFK:=ai a2_;clear a1_ a2_ HH;by_cases hlt:k<n
   ·have hlt2:(k:Int)<(n:Int):=ae;have fk_:=HFK.o k hlt;rw[if_neg ae] at fk_;have HFk:=ai fk_;clear fk_;by_cases hy:bf k=0
    ·have z2:=cC hy;have HY:=ai hy;clear hy;have cg_k:=HBg_4.o.cell (k) (HGC.o k hlt);go_wp2_with fail;go_roundw
     case rel=>exact⟨k+1,by go_num,ae,ai ⟨HX4.o,HB0_4.o,HBl_4.o,HBg_4.o,_,HBf_4.o,uw HFK.o HY.o⟩⟩
     case measure=>simp[intOf];omega
    ·have z2:=aV hy;clear hy;have cg_k:=HBg_4.o.cell (k) (HGC.o k hlt);go_wp2_with fail;clear cg_k;refine ay [.val (.pointer (some ⟨lb,lo,none⟩)),.val (.pointer (some ⟨lb,lo,none⟩)),.val (.pointer (some ⟨lb,lo+1,none⟩)),.val (.slice (some ⟨fg,0,none⟩) n fcap),.val (.int .i64 (k:Int)),.val (.pointer (some ⟨lb,lo,none⟩)),.val (.pointer (some ⟨lb,lo,none⟩)),.val (.pointer (some ⟨lb,lo+1,none⟩)),.val (.slice (some ⟨fg,0,none⟩) n fcap),.val (.int .i64 (k:Int)),.val (.pointer (some ⟨fg,k,none⟩)),.val (.string (qs (f0 k))),.val (.string (qs (f at_))),.val (.string (qs (bf k))),.val (.string (qs (f at_*bf k))),.val (.string (qs (f0 k+f at_*bf k))),.val (.pointer (some ⟨fg,k,none⟩)),.aR] (fun L g W=>(if L 17=true then aq W (fg) ((FK).setIfInBounds k (.string (qs (f0 k+f at_*bf k)))) 34 else aq W (fg) (FK) 34)) (S:=fun k=>k=fg) ag ag ag (Mv.refl HX4.o.ext (fun k h=>(fun e=>Nat.le_trans (HX4.o.le (Or.inl (Or.inr rfl))) (Nat.le_of_eq e.symm)) h)) ?_ ?_ ?_ ?_ (fun gv_ w5 hm_ he_=>?_)
     ·exact fun gz_=>(by rw[if_neg af];exact HBf_4.o.drew)
     ·exact fun L g W W1 h e=>aZ (h) (fun h=>h.ext e) (fun h=>h.ext e)
     ·intro i v L g W hi h;have n17_:i≠17:=fun e=>by subst e;exact absurd (show false=true from hi) af
      simp only[au n17_,av n17_];exact h
     ·skip
      refine RI 0 (.pointer (some ⟨lb,lo,none⟩))<|R1 0<|R1 1<|J2 (fun hs_=>hs_.val 2) (fun hs_=>(hs_.mv.az HBl_4.o (fun h=>((show lb≠fg from HN1.o)) h)).cell (lo+1) HL3.o)<|RI 7 (.int .i64 (k:Int))<|RI 0 (.pointer (some ⟨lb,lo,none⟩))<|R1 5<|R1 6<|J2 (fun hs_=>hs_.val 7) (fun hs_=>(hs_.mv.az HBl_4.o (fun h=>((show lb≠fg from HN1.o)) h)).cell (lo+1) HL3.o)<|RI 7 (.int .i64 (k:Int))<|R2 8 9 ?_;refine RV (fun A_ hs_ K_ hK_=>?_) ?_;· have q56_:=hs_.val 10;have n17_:=hs_.no 17 af ag;have e17_:=hs_.e;rw[if_neg (by rw[n17_];decide)] at e17_;have cf_k:=e17_.cell (k) HFk.o;clear e17_ n17_;go_simp;exact bY hK_
      refine RI 6 (.string (qs (f at_)))<|RI 8 (.string (qs (bf k)))<|K2 (fun hs_=>hs_.val 12) (fun hs_=>hs_.val 13) (fun hs_=>bD (f at_) (bf k) _ (HG.o.ext hs_.mv.ext) (HQ.o at_ hat) (HQf.o k hlt) ae ae)<|K2 (fun hs_=>hs_.val 11) (fun hs_=>hs_.val 14) (fun hs_=>cX (f0 k) (f at_*bf k) _ (HG.o.ext hs_.mv.ext) (HQ0.o k hlt) ((HQ.o at_ hat).mul (HQf.o k hlt)) ae ae)<|R2 3 4 ?_;refine aA.cons (fun L_ g_ A_ W_ hs_=>?_) ?_
      ·have q62_:=hs_.val 16;have q61_:=hs_.val 15;refine cI.aR fun K_ hK_=>?_;have n_:=hs_.not;have e_:=hs_.e;rw[if_neg (by rw[n_];decide)] at e_;have c_0:=e_.cell (k) HFk.o;have f_0:=e_.free k;have HE_:=ai e_;have HM_:=ai hs_.mv;have HEE_:=ai hs_.e;clear e_ n_;go_simp;exact hK_.o undef _ (HM_.o.setCell (Or.inl (rfl)) _) (by rw[aM,if_pos rfl];exact(HE_.o.set k _))
      exact aA.nil
     simp only[dD,Ke.value,aX,Act.put,List.setIfInBounds_toArray,List.set_cons_zero,List.set_cons_succ];have HX5:=ai (HX4.o.comp hm_ (fun k h=>(fun e=>(by rw[e];exact(Or.inl (Or.inr rfl)))) h));have HBl_5:=ai (hm_.az HBl_4.o (fun h=>((show lb≠fg from HN1.o)) h));have HBf_5:Hid (aq w5 (fg) ((FK).setIfInBounds k (.string (qs (f0 k+f at_*bf k)))) 34):=ai (by have h_:=he_;rw[if_pos rfl] at h_;exact h_);have HBg_5:=ai (hm_.az HBg_4.o (fun h=>((show bg≠fg from HN3.o)) h));have HB0_5:=ai (hm_.az HB0_4.o (fun h=>((show w.heap.size≠fg from by have:=HFB.o.lt;first|omega|(simp only[];omega)|(simp;omega))) h));clear hm_ he_;go_wp2_with fail;go_roundw
     case rel=>exact⟨k+1,by go_num,ae,ai ⟨HX5.o,HB0_5.o,HBl_5.o,HBg_5.o,_,HBf_5.o,xR HFK.o hlt⟩⟩
     case measure=>simp[intOf];omega
   ·have hk2:k=n:=ae;subst hk2;have hge:¬ (k:Int)<(k:Int):=ae;go_wp2
    first|go_end0|((try simp only[Exit.inBlock,Exit.then]);refine bodyPost_ret (results_none rfl _ _ _) rfl ?_)
    exact⟨rfl,HX4.o,_,HBl_4.o,HLC2.o,HLN.o,_,HBf_4.o,fun j hj=>by have:=HFK.o j hj;rw[if_pos hj,HF0.o] at this;exact this⟩
theorem E4(m:Int)(w:World)(g:Gd w)(h:IB 1 m):Calls prog 229 #[.string (zs m),.string (zs 1)] w (aD w (.tuple #[.string (qs (m:Rat)),.int .i64 0])):=by
 have:=DQ m 1 af w g h (⟨af⟩:IB 1 ((1:Nat):Int)) af af;rw[mkRat_one] at this;exact this
theorem zD(m:Int)(w:World)(g:Gd w)(h:-9<=m/\m<=9):Calls prog 231 #[.int .i64 m,.int .i64 1] w (aD w (.tuple #[.string (qs (m:Rat)),.int .i64 0])):=by
 have HG:=ai g;have H:=ai h;clear g h;have i1:IB 1 m:=⟨by have:=H.o;omega⟩
 have i2:IB 1 ((1:Nat):Int):=⟨af⟩
 have HI1:=ai i1;have HI2:=ai i2;clear i1 i2;go_enter func231,ntmps231;go_wp2_with fail;refine cto (uA m (by have:=H.o;omega) (by have:=H.o;omega) _ HG.o) fun w1 e1=>?_
 go_wp2_with fail;refine cto (uA 1 af af _ (HG.o.ext e1)) fun w2 e2=>?_
 go_wp2_with fail;refine cto (E4 m _ (HG.o.ext (e1.trans e2)) HI1.o) fun w3 e3=>?_
 go_wp2;go_ret2;exact⟨rfl,(e1.trans e2).trans e3⟩
def og(i j k:Int):V3:=⟨((i.tmod 10:Int):Rat),((j.tmod 10:Int):Rat),((k.tmod 10:Int):Rat)⟩
theorem kF(i:Int):-9<=i.tmod 10/\i.tmod 10<=9:=by
 have h:=Int.natAbs_tmod i 10;have:=Nat.mod_lt i.natAbs (y:=10) af;simp only[show(10:Int).natAbs=10 from rfl] at h;omega
theorem ka(m:Int)(w:World)(g:Gd w)(h:-9<=m/\m<=9):Calls prog 161 #[.int .i64 m] w (aD w (.string (qs (m:Rat)))):=by
 have H:=ai h;have HG:=ai g;clear h g;go_enter func161,ntmps161;go_wp2_with fail;refine cto (zD m _ (HG.o.ext (Ext.refl w)) H.o) fun w1 e1=>?_
 have HX1:Hid (Ext w w1):=ai ((Ext.refl w).trans e1);clear e1;go_wp2;go_ret;exact⟨rfl,HX1.o⟩
theorem Al(i j k:Int)(w:World)(g:Gd w)(hi0:-128<=i/\i<=127)(hj0:-128<=j/\j<=127)(hk0:-128<=k/\k<=127):Calls prog 82 #[.agg #[.int .i8 i,.int .i8 j,.int .i8 k]] w (aD w (.agg #[.string (qs ((og i j k).x)),.string (qs ((og i j k).y)),.string (qs ((og i j k).z))])):=by
 have HG:=ai g;clear g;have wi_:IntKind.i64.wrap i=i:=IntWalk.i64_in i ae;have wj_:IntKind.i64.wrap j=j:=IntWalk.i64_in j ae;have wk_:IntKind.i64.wrap k=k:=IntWalk.i64_in k ae;go_enter func82,ntmps82;go_wp2_with fail;refine aw (fun W=>Ext w W/\aq W (w.heap.size) #[.int .i8 i,.int .i8 j,.int .i8 k] 24/\aq W (w.heap.size+1) #[.string ⟨#[]⟩,.string ⟨#[]⟩,.string ⟨#[]⟩] 67) ⟨(((Ext.refl w).alloc _).alloc _),((aq.nw (#[.int .i8 i,.int .i8 j,.int .i8 k]) 24).alloc _),(aq.nw (#[.string ⟨#[]⟩,.string ⟨#[]⟩,.string ⟨#[]⟩]) 67)⟩ ?_;rintro w1 ⟨e1,bB0_1,bB1_1⟩;have HX1:=ai e1;have HB0_1:=ai bB0_1;have HB1_1:=ai bB1_1;have HGEB0:Hid (w.heap.size<=w.heap.size):=ai ah;have HGEB1:Hid (w.heap.size<=w.heap.size+1):=ai ah;clear e1 bB0_1 bB1_1;refine jZ (X:=w) [⟨w.heap.size+1,#[.string ⟨#[]⟩,.string ⟨#[]⟩,.string ⟨#[]⟩],#[.string (qs ((og i j k).x)),.string (qs ((og i j k).y)),.string (qs ((og i j k).z))],67⟩] [.val (.pointer (some ⟨w.heap.size,0,none⟩)),.val (.int .i8 i),.val (.int .i64 i),.val (.int .i64 (i.tmod 10)),.val (.string (qs ((og i j k).x))),.val (.pointer (some ⟨w.heap.size,1,none⟩)),.val (.int .i8 j),.val (.int .i64 j),.val (.int .i64 (j.tmod 10)),.val (.string (qs ((og i j k).y))),.val (.pointer (some ⟨w.heap.size,2,none⟩)),.val (.int .i8 k),.val (.int .i64 k),.val (.int .i64 (k.tmod 10)),.val (.string (qs ((og i j k).z))),.val (.agg #[.string (qs ((og i j k).x)),.string (qs ((og i j k).y)),.string (qs ((og i j k).z))]),.st 0] ag ag ag HX1.o.drew (List.forall_mem_cons.2 ⟨⟨HGEB1.o,HB1_1.o.drew⟩,(fun _ h=>by cases h)⟩) Hx ?_ (fun g1 w2 hx_ hk_ hb_ hm_ hne_=>?_)
 ·skip
  refine ft.cons (fun g1 A_ W_ hs_=>?_) ?_
  ·have q1_:=(hs_.old 1 (by kernel_rfl):A_.tmps[1]?.getD undef = .pointer (some ⟨w.heap.size,0,none⟩))
   refine Rn.val fun K_ hK_=>?_
   go_simp;exact hK_.o _ (Ext.refl _)
  refine ft.cons (fun g1 A_ W_ hs_=>?_) ?_
  ·have q3_:=hs_.val 0 rfl rfl rfl;have cB0_0:=((hs_.Fk (Hu (show w.heap.size+1≠w.heap.size from ah) Hv) HB0_1.o.drew)).cell 0 rfl;refine Rn.val fun K_ hK_=>?_
   go_simp;exact hK_.o _ (Ext.refl _)
  refine ft.cons (fun g1 A_ W_ hs_=>?_) ?_
  ·have q4_:=hs_.val 1 rfl rfl rfl;refine Rn.val fun K_ hK_=>?_
   go_simp;exact hK_.o _ (Ext.refl _)
  refine ft.cons (fun g1 A_ W_ hs_=>?_) ?_
  ·have q5_:=hs_.val 2 rfl rfl rfl;refine Rn.val fun K_ hK_=>?_
   go_simp;exact hK_.o _ (Ext.refl _)
  refine ft.cons (fun g1 A_ W_ hs_=>?_) ?_
  ·have q6_:=hs_.val 3 rfl rfl rfl;refine Rn.val fun K_ hK_=>?_
   go_simp;refine((ka (i.tmod 10) _ (HG.o.ext hs_.1) (kF _):Calls _ _ _ _ (aD _ (.string (qs (og i j k).x))))).mono ?_;rintro e W9_ ⟨rfl,e9_⟩;exact hK_.o _ e9_
  refine ft.cons (fun g1 A_ W_ hs_=>?_) ?_
  ·have q1_:=(hs_.old 1 (by kernel_rfl):A_.tmps[1]?.getD undef = .pointer (some ⟨w.heap.size,0,none⟩))
   refine Rn.val fun K_ hK_=>?_
   go_simp;exact hK_.o _ (Ext.refl _)
  refine ft.cons (fun g1 A_ W_ hs_=>?_) ?_
  ·have q8_:=hs_.val 5 rfl rfl rfl;have cB0_1:=((hs_.Fk (Hu (show w.heap.size+1≠w.heap.size from ah) Hv) HB0_1.o.drew)).cell 1 rfl;refine Rn.val fun K_ hK_=>?_
   go_simp;exact hK_.o _ (Ext.refl _)
  refine ft.cons (fun g1 A_ W_ hs_=>?_) ?_
  ·have q9_:=hs_.val 6 rfl rfl rfl;refine Rn.val fun K_ hK_=>?_
   go_simp;exact hK_.o _ (Ext.refl _)
  refine ft.cons (fun g1 A_ W_ hs_=>?_) ?_
  ·have q10_:=hs_.val 7 rfl rfl rfl;refine Rn.val fun K_ hK_=>?_
   go_simp;exact hK_.o _ (Ext.refl _)
  refine ft.cons (fun g1 A_ W_ hs_=>?_) ?_
  ·have q11_:=hs_.val 8 rfl rfl rfl;refine Rn.val fun K_ hK_=>?_
   go_simp;refine((ka (j.tmod 10) _ (HG.o.ext hs_.1) (kF _):Calls _ _ _ _ (aD _ (.string (qs (og i j k).y))))).mono ?_;rintro e W9_ ⟨rfl,e9_⟩;exact hK_.o _ e9_
  refine ft.cons (fun g1 A_ W_ hs_=>?_) ?_
  ·have q1_:=(hs_.old 1 (by kernel_rfl):A_.tmps[1]?.getD undef = .pointer (some ⟨w.heap.size,0,none⟩))
   refine Rn.val fun K_ hK_=>?_
   go_simp;exact hK_.o _ (Ext.refl _)
  refine ft.cons (fun g1 A_ W_ hs_=>?_) ?_
  ·have q13_:=hs_.val 10 rfl rfl rfl;have cB0_2:=((hs_.Fk (Hu (show w.heap.size+1≠w.heap.size from ah) Hv) HB0_1.o.drew)).cell 2 rfl;refine Rn.val fun K_ hK_=>?_
   go_simp;exact hK_.o _ (Ext.refl _)
  refine ft.cons (fun g1 A_ W_ hs_=>?_) ?_
  ·have q14_:=hs_.val 11 rfl rfl rfl;refine Rn.val fun K_ hK_=>?_
   go_simp;exact hK_.o _ (Ext.refl _)
  refine ft.cons (fun g1 A_ W_ hs_=>?_) ?_
  ·have q15_:=hs_.val 12 rfl rfl rfl;refine Rn.val fun K_ hK_=>?_
   go_simp;exact hK_.o _ (Ext.refl _)
  refine ft.cons (fun g1 A_ W_ hs_=>?_) ?_
  ·have q16_:=hs_.val 13 rfl rfl rfl;refine Rn.val fun K_ hK_=>?_
   go_simp;refine((ka (k.tmod 10) _ (HG.o.ext hs_.1) (kF _):Calls _ _ _ _ (aD _ (.string (qs (og i j k).z))))).mono ?_;rintro e W9_ ⟨rfl,e9_⟩;exact hK_.o _ e9_
  refine ft.cons (fun g1 A_ W_ hs_=>?_) ?_
  ·have q7_:=hs_.val 4 rfl rfl rfl;have q12_:=hs_.val 9 rfl rfl rfl;have q17_:=hs_.val 14 rfl rfl rfl;refine Rn.val fun K_ hK_=>?_
   go_simp;exact hK_.o _ (Ext.refl _)
  refine ft.cons (fun g1 A_ W_ hs_=>?_) ?_
  ·have q2_:=(hs_.old 2 (by kernel_rfl):A_.tmps[2]?.getD undef = .pointer (some ⟨w.heap.size+1,0,none⟩))
   have q18_:=hs_.val 15 rfl rfl rfl;refine Rn.st (n:=0) rfl fun hB0 K_ hK_=>?_
   have hB:aq W_ (w.heap.size+1) #[.string ⟨#[]⟩,.string ⟨#[]⟩,.string ⟨#[]⟩] 67:=hB0;clear hB0;have c_0:=hB.cell 0 rfl;have f_0:=hB.free 0;have c_1:=hB.cell 1 rfl;have f_1:=hB.free 1;have c_2:=hB.cell 2 rfl;have f_2:=hB.free 2;have HB:=ai hB;clear hB;go_simp;exact hK_.o _ ((((oD.refl _ _).set 0 _).set 1 _).set 2 _) (((HB.o.set 0 _).set 1 _).set 2 _)
  exact ft.nil
 simp only[fs,Kd.value,aX,Act.put,List.setIfInBounds_toArray,List.set_cons_zero,List.set_cons_succ];have HX2:Hid (Ext w w2):=ai hx_;have HB1_2:Hid (aq w2 (w.heap.size+1) #[.string (qs ((og i j k).x)),.string (qs ((og i j k).y)),.string (qs ((og i j k).z))] 67):=ai (hb_ 0 _ rfl);clear hx_ hm_ hne_ hk_ hb_;go_wp2_with fail;have gB1_0:=HB1_2.o.cell 0 rfl;have gB1_1:=HB1_2.o.cell 1 rfl;have gB1_2:=HB1_2.o.cell 2 rfl;refine bodyPost_ret (v:=.agg #[.string (qs ((og i j k).x)),.string (qs ((og i j k).y)),.string (qs ((og i j k).z))]) (by simp[results,results82,go_sem,gB1_0,gB1_1,gB1_2]) rfl ⟨rfl,HX2.o⟩
end Go.Proofs.YtmahadmefplbnaaGreatDoor
