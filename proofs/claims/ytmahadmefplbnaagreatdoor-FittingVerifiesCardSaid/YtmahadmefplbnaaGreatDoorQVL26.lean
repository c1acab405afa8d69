/- Part 26. -/
import Derived.Test.YtmahadmefplbnaaGreatDoorQVLB
import Derived.Test.YtmahadmefplbnaaGreatDoorQVL25
import Derived.Lib.ParseIntBTie
set_option maxRecDepth 100000
set_option maxHeartbeats 2000000
open Go.Proofs.Tryz
set_option linter.unusedSimpArgs false
set_option linter.unusedVariables false
namespace Go.Proofs.YtmahadmefplbnaaGreatDoor
theorem s0:True:=by
 /- fU de sN dS cr kD eQ ju vN il RS yR Kv qcmp_le RT rq rp vH gU eR cu Na FY df sP qq FZ F8 pd vI Rn.mem ke.cons aB Sy ay.Gb ay.other oI Bq vQ QB.div QB.int QB.add QB.mul QB.neg QB.mono QB.fM QB.ey IB.mono gS j2 iL mT mS qg tri wZ QB.len QB.size cC dU rz Ci ik fV -/
 trivial
end Go.Proofs.YtmahadmefplbnaaGreatDoor
namespace Go.Proofs.YtmahadmefplbnaaGreatDoor
open Go Go.RowKit
theorem aC{w w':World}(e:Ext w w'){a:Addr}{v:Value}(h:w.cell? a=some v):w'.cell? a=some v:=(e.cell (Ju h)).trans h
theorem mM{cs:Array Value}{i:Nat}{u v:Value}(h:cs[i]?=some u):(cs.setIfInBounds i v)[i]?=some v:=by
 have:=(Array.getElem?_eq_some_iff.1 h).1;simp[this]
theorem j5{cs:Array Value}{i j:Nat}{u v:Value}(Gz:i≠j)(h:cs[j]?=some u):(cs.setIfInBounds i v)[j]?=some u:=by
 rw[Array.getElem?_setIfInBounds_ne Gz];exact h
theorem cA{c:Prop}[Decidable c]{a b a' b':Prop}(h:if c then a else b)(ha:a->a')(hb:b->b'):if c then a' else b':=by
 split
 ·rename_i hc;rw[if_pos hc] at h;exact ha h
 ·rename_i hc;rw[if_neg hc] at h;exact hb h
theorem IY{c:Prop}[Decidable c]{a b a' b':Prop}(h:if c then a else b)(ha:a->a')(hb:b->b'):if c then a' else b':=cA h ha hb
theorem Mv.le{X w W:World}{S:Nat->Prop}(h:Mv X w S W){k:Nat}(hk:S k∨w.heap.size<=k):X.heap.size<=k:=hk.elim (h.low k) (fun e=>Nat.le_trans h.base e)
def Rd(w:World)(v:Value)(n:Nat)(g:Nat->Value):Prop:=∃ (ao:Option Addr) (cap:Nat),v = .slice ao n cap/\n<=cap/\cap<=maxLen/\∀ i,i<n->∃ a,ao=some a/\w.cell? (a.add i)=some (g i)
theorem Rd.ext{w w':World}{v:Value}{n:Nat}{g:Nat->Value}(h:Rd w v n g)(e:Ext w w'):Rd w' v n g:=by
 obtain⟨ao,cap,h1,h2,h3,h4⟩:=h;exact⟨ao,cap,h1,h2,h3,fun i hi=>let ⟨a,e1,e2⟩:=h4 i hi;⟨a,e1,aC e e2⟩⟩
theorem Rd.congr{w:World}{v:Value}{n:Nat}{g g':Nat->Value}(h:Rd w v n g)(e:∀ i,i<n->g i=g' i):Rd w v n g':=by
 obtain⟨ao,cap,h1,h2,h3,h4⟩:=h;exact⟨ao,cap,h1,h2,h3,fun i hi=>let ⟨a,e1,e2⟩:=h4 i hi;⟨a,e1,by rw[← e i hi];exact e2⟩⟩
theorem Rd.nil(w:World)(g:Nat->Value):Rd w (.slice none 0 0) 0 g:=⟨none,0,rfl,Nat.le_refl _,Nat.zero_le _,fun i hi=>absurd hi ae⟩
theorem Rd.aH{w:World}{k n cap:Nat}{cs:Array Value}{t:TypeId}{g:Nat->Value}(hB:ay w k cs t)(h1:n<=cap)(h2:cap<=maxLen)(hc:∀ i,i<n->cs[i]?=some (g i)):Rd w (.slice (some ⟨k,0,none⟩) n cap) n g :=
 ⟨_,_,rfl,h1,h2,fun i hi=>⟨_,rfl,by
  have e:(⟨k,0,none⟩:Addr).add i=⟨k,i,none⟩:=by unfold Addr.add;split <;> simp_all
  rw[e];exact hB.cell i (hc i hi)⟩⟩
abbrev Rs(w:World)(v:Value)(n:Nat)(t:Nat->ByteArray):Prop:=Rd w v n (fun i => .string (t i))
abbrev Rq(w:World)(v:Value)(n:Nat)(a:Nat->Rat):Prop:=Rd w v n (fun i => .string (qs (a i)))
abbrev Ri(w:World)(v:Value)(n:Nat)(a:Nat->Int):Prop:=Rd w v n (fun i => .int .i64 (a i))
theorem Fz{n k m:Nat}{a b:Nat->Rat}(ha:∀ i,i<n->QB k (a i))(hb:∀ i,i<n->QB m (b i)):∀ i,i<=n->QB (1+i*(k+m+1)) (bD i (fun j=>a j*b j))
 | 0,_=>by simp only[bD];exact(QB.int (n:=0) (k:=1) ⟨af⟩ af).mono ae
 | i+1,hi=>by
  rw[bD];exact((Fz ha hb i ae).add ((ha i ae).mul (hb i ae))).mono (by rw[Nat.add_mul,Nat.one_mul];omega)
theorem O6{i n k m:Nat}(hi:i<=n)(h:n*(k+m+1)<=198):1+i*(k+m+1)<=199:=by
 have:=Nat.mul_le_mul_right (k+m+1) hi;omega
theorem QB0:QB 1 (0:Rat):=QB.int (n:=0) (k:=1) ⟨af⟩ af
theorem sR{c:Prop}[Decidable c]{q:Nat}{a b:Rat}(ha:QB q a)(hb:QB q b):QB q (if c then a else b):=by
 split
 ·exact ha
 ·exact hb
theorem Dc {n at_:Nat} {f:Nat->Rat} {FC:Array Value} (h:∀ j,j<n->FC[j]?=some (.string (qs (f j)))) (AX:at_<n) (j:Nat) (hj:j<n) :
    (FC.setIfInBounds at_ (.string ⟨#[48]⟩))[j]?=some (.string (qs (if j=at_ then 0 else f j))):=by
 by_cases e:j=at_
 ·subst e;rw[if_pos rfl,df];exact mM (h j hj)
 ·rw[if_neg e];exact j5 (Ne.symm e) (h j hj)
theorem F4 {n k:Nat} {f0 bf:Nat->Rat} {x:Rat} {FK:Array Value} (h:∀ j,j<n->FK[j]?=some (.string (qs (if j<k then f0 j+x*bf j else f0 j)))) (hb:bf k=0) (j:Nat) (hj:j<n) :
    FK[j]?=some (.string (qs (if j<k+1 then f0 j+x*bf j else f0 j))):=by
 rw[h j hj];by_cases e:j=k
 ·subst e;rw[if_neg ae,if_pos ae,hb,Rat.mul_zero,Rat.add_zero]
 ·by_cases h1:j<k
  ·rw[if_pos h1,if_pos ae]
  ·rw[if_neg h1,if_neg ae]
theorem Ky {n k:Nat} {f0 bf:Nat->Rat} {x:Rat} {FK:Array Value} (h:∀ j,j<n->FK[j]?=some (.string (qs (if j<k then f0 j+x*bf j else f0 j)))) (hk:k<n) (j:Nat) (hj:j<n) :
    (FK.setIfInBounds k (.string (qs (f0 k+x*bf k))))[j]?=some (.string (qs (if j<k+1 then f0 j+x*bf j else f0 j))):=by
 by_cases e:j=k
 ·subst e;rw[if_pos ae];exact mM (h j hj)
 ·rw[j5 (Ne.symm e) (h j hj)];by_cases h1:j<k
  ·rw[if_pos h1,if_pos ae]
  ·rw[if_neg h1,if_neg ae]
theorem T9(X:World)(lb lo fg eh n at_ bg bcap q:Nat)(c bc:Rat)(f bf:Nat->Rat)(LC FC BC:Array Value)(tl:TypeId)(w:World)(g:Gd X)(hX:Ext X w)(xl:X.heap.size<=lb)(xf:X.heap.size<=fg)(n1:lb≠fg)(n2:bg≠lb)(n3:bg≠fg)(bl:ay w lb LC tl)(bF:ay w fg FC 34)(bG:ay w bg BC 34)(l0:LC[lo]?=some (.string (qs c)))(l1:LC[lo+1]?=some (.slice (some ⟨fg,0,none⟩) n eh))(hF:∀ j,j<n->FC[j]?=some (.string (qs (f j))))(hG:∀ j,j<n->BC[j]?=some (.string (qs (bf j))))(AX:at_<n)(hn:n<=1000000)(jo:1<=q)(kn:q<=900)(qc:QB q c)(qb:QB q bc)(qf:∀ j,j<n->QB q (f j))(qbf:∀ j,j<n->QB q (bf j)):Calls prog 257 #[.pointer (some ⟨lb,lo,none⟩),.int .i64 (at_:Int),.agg #[.string (qs bc),.slice (some ⟨bg,0,none⟩) n bcap]] w (fun e w'=>e = .returned (.tuple #[])/\Mv X w (fun k=>k=lb∨k=fg) w'/\∃ LD,ay w' lb LD tl/\LD[lo]?=some (.string (qs (c+f at_*bc)))/\(∀ i,i≠lo->LD[i]?=LC[i]?)/\∃ FD,ay w' fg FD 34/\∀ j,j<n->FD[j]?=some (.string (qs ((if j=at_ then 0 else f j)+f at_*bf j)))):=by
 have HG:=ai g;have HLB:=ai bl;have HFB:=ai bF;have HGB:=ai bG;have HL0:=ai l0;have HL1:=ai l1;have HFC:=ai hF;have JN:=ai hG;have JF:=ai qc;have HQb:=ai qb;have HQ:=ai qf;have uP:=ai qbf;have LI:=ai n1;have Vu:=ai n2;have QY:=ai n3;clear g bl bF bG l0 l1 hF hG qc qb qf qbf n1 n2 n3;have zE:Hid (Mv X w (fun k=>k=lb∨k=fg) w):=ai (Mv.refl hX (fun k h=>h.elim (fun e=>e▸xl) (fun e=>e▸xf)));have HQ1:=ai jo;have qbX:(at_:Int)<(n:Int):=ae;clear hX xl xf;go_enter func257,ntmps257;go_upto_region 1 with fail
 refine aB (fun W=>Mv X w (fun k=>k=lb∨k=fg) W/\ay W (lb) (LC) tl/\ay W (fg) (FC) 34/\ay W (bg) (BC) 34/\ay W (w.heap.size) (#[.string (qs bc),.slice (some ⟨bg,0,none⟩) n bcap]) 182) ⟨(zE.o.alloc _),(HLB.o.alloc _),(HFB.o.alloc _),(HGB.o.alloc _),(ay.nw (#[.string (qs bc),.slice (some ⟨bg,0,none⟩) n bcap]) 182)⟩ ?_;rintro w1 ⟨e1,Ew,U2,U1,a7⟩;have aD:=ai e1;have zK:=ai Ew;have JU:=ai U2;have VL:=ai U1;have ax:=ai a7;have aF:Hid (w.heap.size<=w.heap.size):=ai (Nat.le_refl _);clear e1 Ew U2 U1 a7;have zy:=zK.o.cell (lo+1) HL1.o;have gy:=JU.o.cell (at_) (HFC.o at_ AX);have OR:=JU.o.free at_;by_cases hz:f at_=0
 ·have z1:=eR hz;have HZ:=ai hz;clear hz;go_wp2_with fail;refine aB (fun W=>Mv X w (fun k=>k=lb∨k=fg) W/\ay W (lb) (LC) tl/\ay W (fg) ((FC).setIfInBounds at_ (.string ⟨#[48]⟩)) 34/\ay W (bg) (BC) 34/\ay W (w.heap.size) (#[.string (qs bc),.slice (some ⟨bg,0,none⟩) n bcap]) 182) ⟨(aD.o.setCell (Or.inl (Or.inr rfl)) _),(zK.o.other (a:=⟨fg,at_,none⟩) _ (LI.o)),(JU.o.set at_ (.string ⟨#[48]⟩)),(VL.o.other (a:=⟨fg,at_,none⟩) _ (QY.o)),(ax.o.other (a:=⟨fg,at_,none⟩) _ (by have:=HFB.o.lt;first|omega|(simp only[];omega)|(simp;omega)))⟩ ?_;rintro w2 ⟨e2,Ev,Ey,Ex,dx⟩;have aM:=ai e2;have mB:=ai Ev;have Qt:=ai Ey;have VK:=ai Ex;have az:=ai dx;clear e2 Ev Ey Ex dx zy gy OR;go_wp2
  first|go_end0|((try simp only[Exit.inBlock,Exit.then]);refine bodyPost_ret (results_none rfl _ _ _) rfl ?_)
  exact⟨rfl,aM.o,_,mB.o,by rw[HZ.o,Rat.zero_mul,Rat.add_zero];exact HL0.o,fun i _=>rfl,_,Qt.o,fun j hj=>by rw[HZ.o,Rat.zero_mul,Rat.add_zero];exact Dc HFC.o AX j hj⟩
 ·have z1:=cu hz;clear hz;go_wp2_with fail;refine aB (fun W=>Mv X w (fun k=>k=lb∨k=fg) W/\ay W (lb) (LC) tl/\ay W (fg) ((FC).setIfInBounds at_ (.string ⟨#[48]⟩)) 34/\ay W (bg) (BC) 34/\ay W (w.heap.size) (#[.string (qs bc),.slice (some ⟨bg,0,none⟩) n bcap]) 182) ⟨(aD.o.setCell (Or.inl (Or.inr rfl)) _),(zK.o.other (a:=⟨fg,at_,none⟩) _ (LI.o)),(JU.o.set at_ (.string ⟨#[48]⟩)),(VL.o.other (a:=⟨fg,at_,none⟩) _ (QY.o)),(ax.o.other (a:=⟨fg,at_,none⟩) _ (by have:=HFB.o.lt;first|omega|(simp only[];omega)|(simp;omega)))⟩ ?_;rintro w2 ⟨e2,Ev,Ey,Ex,dx⟩;have aM:=ai e2;have mB:=ai Ev;have Qt:=ai Ey;have VK:=ai Ex;have az:=ai dx;clear e2 Ev Ey Ex dx zy gy OR;refine aE [.val (.pointer (some ⟨lb,lo,none⟩)),.val (.pointer (some ⟨lb,lo,none⟩)),.val (.pointer (some ⟨lb,lo,none⟩)),.val (.pointer (some ⟨lb,lo,none⟩)),.val (.string (qs c)),.val (.string (qs (f at_))),.val (.pointer (some ⟨w.heap.size,0,none⟩)),.val (.string (qs bc)),.val (.string (qs (f at_*bc))),.val (.string (qs (c+f at_*bc))),.val (.pointer (some ⟨lb,lo,none⟩)),.val (.pointer (some ⟨lb,lo,none⟩)),.ch] (fun L g W=>(if L 12=true then ay W (lb) ((LC).setIfInBounds lo (.string (qs (c+f at_*bc)))) tl else ay W (lb) (LC) tl)) (S:=fun k=>k=lb) ag ag ag (Mv.refl aM.o.ext (fun k h=>(fun e=>Nat.le_trans (aM.o.le (Or.inl (Or.inl rfl))) (Nat.le_of_eq e.symm)) h)) ?_ ?_ ?_ ?_ (fun fI w3 aK bW=>?_)
  ·exact fun B5=>(by rw[if_neg af];exact mB.o.drew)
  ·exact fun L g W W1 h e=>cA (h) (fun h=>h.ext e) (fun h=>h.ext e)
  ·intro i v L g W hi h;have j6:i≠12:=gJ hi rfl;simp only[bB j6,bE j6];exact h
  ·skip
   refine RI 0 (.pointer (some ⟨lb,lo,none⟩))<|RI 0 (.pointer (some ⟨lb,lo,none⟩))<|R1 1<|R1 2 ?_;refine RV (fun A_ aw K_ aL=>?_) ?_;· have qlX:=aw.val 3;have j6:=aw.no 12 af ag;have Be:=aw.e;rw[if_neg (by rw[j6];decide)] at Be;have qki:=Be.cell (lo) HL0.o;clear Be j6;go_simp;exact du aL
   refine RI 6 (.string (qs (f at_)))<|RI 5 (.pointer (some ⟨w.heap.size,0,none⟩))<|J2 (fun aw=>aw.val 6) (fun aw=>(aw.mv.aH az.o (fun h=>((show w.heap.size≠lb from by have:=HLB.o.lt;first|omega|(simp only[];omega)|(simp;omega))) h)).cell 0 rfl)<|K2 (fun aw=>aw.val 5) (fun aw=>aw.val 7) (fun aw=>de (f at_) bc _ (HG.o.ext aw.mv.ext) (HQ.o at_ AX) HQb.o ae ae)<|K2 (fun aw=>aw.val 4) (fun aw=>aw.val 8) (fun aw=>fU c (f at_*bc) _ (HG.o.ext aw.mv.ext) JF.o ((HQ.o at_ AX).mul HQb.o) ae ae)<|R1 0<|R1 10 ?_;refine aN.cons (fun L_ g_ A_ W_ aw=>?_) ?_
   ·have RZ:=aw.val 11;have qfU:=aw.val 9;refine fl.ch fun K_ aL=>?_;have n_:=aw.not;have e_:=aw.e;rw[if_neg (by rw[n_];decide)] at e_;have B7:=e_.cell (lo) HL0.o;have B6:=e_.free lo;have a8:=ai e_;have bU:=ai aw.mv;have nS:=ai aw.e;clear e_ n_;go_simp;exact aL.o undef _ (bU.o.setCell (Or.inl (rfl)) _) (by rw[bS,if_pos rfl];exact(a8.o.set lo _))
   exact aN.nil
  simp only[gm,Ke.value,b7,Act.put,aq,au,av];have bA:=ai (aM.o.comp aK (fun k h=>(fun e=>(by rw[e];exact(Or.inl (Or.inl rfl)))) h));have Qs:Hid (ay w3 (lb) ((LC).setIfInBounds lo (.string (qs (c+f at_*bc)))) tl):=ai (by have h_:=bW;rw[if_pos rfl] at h_;exact h_);have zL:=ai (aK.aH Qt.o (fun h=>((show fg≠lb from fun h=>LI.o h.symm)) h));have qd2:=ai (aK.aH VK.o (fun h=>((show bg≠lb from Vu.o)) h));have aA:=ai (aK.aH az.o (fun h=>((show w.heap.size≠lb from by have:=HLB.o.lt;first|omega|(simp only[];omega)|(simp;omega))) h));clear aK bW;obtain⟨LC2,gY,zD,QU⟩:∃ z,ay w3 lb z tl/\z[lo]?=some (.string (qs (c+f at_*bc)))/\∀ i,i≠lo->z[i]?=LC[i]?:=⟨_,Qs.o,mM HL0.o,fun i hi=>Array.getElem?_setIfInBounds_ne (Ne.symm hi)⟩
  obtain⟨f0,a5_⟩:∃ f0:Nat->Rat,f0=fun j=>if j=at_ then 0 else f j:=⟨_,rfl⟩
  obtain⟨FC2,YS,a7_⟩:∃ z,ay w3 fg z 34/\∀ j,j<n->z[j]?=some (.string (qs (f0 j))):=⟨_,zL.o,fun j hj=>by rw[a5_];exact Dc HFC.o AX j hj⟩
  have Vk:=(QU (lo+1) ae).trans HL1.o;have HL2:=ai gY;have qij:=ai zD;have xL:=ai QU;have Fc:=ai a5_;have HF2:=ai YS;have qis:=ai a7_;have HL3:=ai Vk;have HQ0:Hid (∀ j,j<n->QB q (f0 j)):=ai (fun j hj=>by rw[a5_];exact sR (QB0.mono HQ1.o) (HQ.o j hj));clear gY zD QU a5_ YS a7_ Vk;have aI:=aA.o.cell 1 rfl;go_wp2_with fail;clear aI;go_loopw [39] (fun bY wx=>∃ k:Nat,bY = .int .i64 k/\k<=n/\Hid (Mv X w (fun k=>k=lb∨k=fg) wx/\ay wx (w.heap.size) (#[.string (qs bc),.slice (some ⟨bg,0,none⟩) n bcap]) 182/\ay wx lb LC2 tl/\ay wx bg BC 34/\∃ FK,ay wx fg FK 34/\∀ j,j<n->FK[j]?=some (.string (qs (if j<k then f0 j+f at_*bf j else f0 j))))) (fun bY _=>n-(intOf bY).toNat)
  case atStart=>exact⟨0,rfl,Nat.zero_le _,ai ⟨bA.o,aA.o,HL2.o,qd2.o,_,HF2.o,fun j hj=>by rw[if_neg (Nat.not_lt_zero _)];exact qis.o j hj⟩⟩
  case round =>
   rename World=>w4
   obtain⟨k,rfl,hk,HH⟩:=hrel;have bO:=ai HH.o.1;have aJ:=ai HH.o.2.1;have xS:=ai HH.o.2.2.1;have JT:=ai HH.o.2.2.2.1;obtain⟨FK,gC,gY⟩:=HH.o.2.2.2.2;have tT:=ai gC;have LL:=ai gY;clear gC gY HH;by_cases aP:k<n
   ·have fj:(k:Int)<(n:Int):=ae;have fk_:=LL.o k aP;rw[if_neg ae] at fk_;have HFk:=ai fk_;clear fk_;by_cases hy:bf k=0
    ·have z2:=eR hy;have HY:=ai hy;clear hy;have qcw:=JT.o.cell (k) (JN.o k aP);go_wp2_with fail;go_roundw
     case rel=>exact⟨k+1,by go_num,ae,ai ⟨bO.o,aJ.o,xS.o,JT.o,_,tT.o,F4 LL.o HY.o⟩⟩
     case measure=>simp[intOf];omega
    ·have z2:=cu hy;clear hy;have qcw:=JT.o.cell (k) (JN.o k aP);go_wp2_with fail;clear qcw;refine aE [.val (.pointer (some ⟨lb,lo,none⟩)),.val (.pointer (some ⟨lb,lo,none⟩)),.val (.pointer (some ⟨lb,lo+1,none⟩)),.val (.slice (some ⟨fg,0,none⟩) n eh),.val (.int .i64 (k:Int)),.val (.pointer (some ⟨lb,lo,none⟩)),.val (.pointer (some ⟨lb,lo,none⟩)),.val (.pointer (some ⟨lb,lo+1,none⟩)),.val (.slice (some ⟨fg,0,none⟩) n eh),.val (.int .i64 (k:Int)),.val (.pointer (some ⟨fg,k,none⟩)),.val (.string (qs (f0 k))),.val (.string (qs (f at_))),.val (.string (qs (bf k))),.val (.string (qs (f at_*bf k))),.val (.string (qs (f0 k+f at_*bf k))),.val (.pointer (some ⟨fg,k,none⟩)),.ch] (fun L g W=>(if L 17=true then ay W (fg) ((FK).setIfInBounds k (.string (qs (f0 k+f at_*bf k)))) 34 else ay W (fg) (FK) 34)) (S:=fun k=>k=fg) ag ag ag (Mv.refl bO.o.ext (fun k h=>(fun e=>Nat.le_trans (bO.o.le (Or.inl (Or.inr rfl))) (Nat.le_of_eq e.symm)) h)) ?_ ?_ ?_ ?_ (fun fI w5 aK bW=>?_)
     ·exact fun B5=>(by rw[if_neg af];exact tT.o.drew)
     ·exact fun L g W W1 h e=>cA (h) (fun h=>h.ext e) (fun h=>h.ext e)
     ·intro i v L g W hi h;have fv:i≠17:=gJ hi rfl;simp only[bB fv,bE fv];exact h
     ·skip
      refine RI 0 (.pointer (some ⟨lb,lo,none⟩))<|R1 0<|R1 1<|J2 (fun aw=>aw.val 2) (fun aw=>(aw.mv.aH xS.o (fun h=>((show lb≠fg from LI.o)) h)).cell (lo+1) HL3.o)<|RI 7 (.int .i64 (k:Int))<|RI 0 (.pointer (some ⟨lb,lo,none⟩))<|R1 5<|R1 6<|J2 (fun aw=>aw.val 7) (fun aw=>(aw.mv.aH xS.o (fun h=>((show lb≠fg from LI.o)) h)).cell (lo+1) HL3.o)<|RI 7 (.int .i64 (k:Int))<|R2 8 9 ?_;refine RV (fun A_ aw K_ aL=>?_) ?_;· have Kw:=aw.val 10;have fv:=aw.no 17 af ag;have Lk:=aw.e;rw[if_neg (by rw[fv];decide)] at Lk;have qcx:=Lk.cell (k) HFk.o;clear Lk fv;go_simp;exact du aL
      refine RI 6 (.string (qs (f at_)))<|RI 8 (.string (qs (bf k)))<|K2 (fun aw=>aw.val 12) (fun aw=>aw.val 13) (fun aw=>de (f at_) (bf k) _ (HG.o.ext aw.mv.ext) (HQ.o at_ AX) (uP.o k aP) ae ae)<|K2 (fun aw=>aw.val 11) (fun aw=>aw.val 14) (fun aw=>fU (f0 k) (f at_*bf k) _ (HG.o.ext aw.mv.ext) (HQ0.o k aP) ((HQ.o at_ AX).mul (uP.o k aP)) ae ae)<|R2 3 4 ?_;refine aN.cons (fun L_ g_ A_ W_ aw=>?_) ?_
      ·have qlR:=aw.val 16;have RU:=aw.val 15;refine fl.ch fun K_ aL=>?_;have n_:=aw.not;have e_:=aw.e;rw[if_neg (by rw[n_];decide)] at e_;have B7:=e_.cell (k) HFk.o;have B6:=e_.free k;have a8:=ai e_;have bU:=ai aw.mv;have nS:=ai aw.e;clear e_ n_;go_simp;exact aL.o undef _ (bU.o.setCell (Or.inl (rfl)) _) (by rw[bS,if_pos rfl];exact(a8.o.set k _))
      exact aN.nil
     simp only[gm,Ke.value,b7,Act.put,aq,au,av];have cX:=ai (bO.o.comp aK (fun k h=>(fun e=>(by rw[e];exact(Or.inl (Or.inr rfl)))) h));have Qr:=ai (aK.aH xS.o (fun h=>((show lb≠fg from LI.o)) h));have VM:Hid (ay w5 (fg) ((FK).setIfInBounds k (.string (qs (f0 k+f at_*bf k)))) 34):=ai (by have h_:=bW;rw[if_pos rfl] at h_;exact h_);have qd1:=ai (aK.aH JT.o (fun h=>((show bg≠fg from QY.o)) h));have aT:=ai (aK.aH aJ.o (fun h=>((show w.heap.size≠fg from by have:=HFB.o.lt;first|omega|(simp only[];omega)|(simp;omega))) h));clear aK bW;go_wp2_with fail;go_roundw
     case rel=>exact⟨k+1,by go_num,ae,ai ⟨cX.o,aT.o,Qr.o,qd1.o,_,VM.o,Ky LL.o aP⟩⟩
     case measure=>simp[intOf];omega
   ·have eY:k=n:=ae;subst eY;have kx:¬ (k:Int)<(k:Int):=ae;go_wp2
    first|go_end0|((try simp only[Exit.inBlock,Exit.then]);refine bodyPost_ret (results_none rfl _ _ _) rfl ?_)
    exact⟨rfl,bO.o,_,xS.o,qij.o,xL.o,_,tT.o,fun j hj=>by have:=LL.o j hj;rw[if_pos hj,Fc.o] at this;exact this⟩
theorem WY(m:Int)(w:World)(g:Gd w)(h:IB 1 m):Calls prog 229 #[.string (zs m),.string (zs 1)] w (aZ w (.tuple #[.string (qs (m:Rat)),.int .i64 0])):=by
 have:=Ud m 1 af w g h (⟨af⟩:IB 1 ((1:Nat):Int)) af af;rw[mkRat_one] at this;exact this
theorem MS(m:Int)(w:World)(g:Gd w)(h:-9<=m/\m<=9):Calls prog 231 #[.int .i64 m,.int .i64 1] w (aZ w (.tuple #[.string (qs (m:Rat)),.int .i64 0])):=by
 have HG:=ai g;have H:=ai h;clear g h;have i1:IB 1 m:=⟨by have:=H.o;omega⟩
 have i2:IB 1 ((1:Nat):Int):=⟨af⟩
 have HI1:=ai i1;have HI2:=ai i2;clear i1 i2;go_enter func231,ntmps231;go_wp2_with fail;refine cto (F8 m (by have:=H.o;omega) (by have:=H.o;omega) _ HG.o) fun w1 e1=>?_
 go_wp2_with fail;refine cto (F8 1 af af _ (HG.o.ext e1)) fun w2 e2=>?_
 go_wp2_with fail;refine cto (WY m _ (HG.o.ext (e1.trans e2)) HI1.o) fun w3 e3=>?_
 go_wp2;go_ret2;exact⟨rfl,(e1.trans e2).trans e3⟩
def xY(i j k:Int):V3:=⟨((i.tmod 10:Int):Rat),((j.tmod 10:Int):Rat),((k.tmod 10:Int):Rat)⟩
theorem sJ(i:Int):-9<=i.tmod 10/\i.tmod 10<=9:=by
 have h:=Int.natAbs_tmod i 10;have:=Nat.mod_lt i.natAbs (y:=10) af;simp only[show(10:Int).natAbs=10 from rfl] at h;omega
theorem rL(m:Int)(w:World)(g:Gd w)(h:-9<=m/\m<=9):Calls prog 161 #[.int .i64 m] w (aZ w (.string (qs (m:Rat)))):=by
 have H:=ai h;have HG:=ai g;clear h g;go_enter func161,ntmps161;go_wp2_with fail;refine cto (MS m _ (HG.o.ext (Ext.refl w)) H.o) fun w1 e1=>?_
 have aD:Hid (Ext w w1):=ai ((Ext.refl w).trans e1);clear e1;go_wp2;go_ret;exact⟨rfl,aD.o⟩
theorem NI(i j k:Int)(w:World)(g:Gd w)(hi0:-128<=i/\i<=127)(hj0:-128<=j/\j<=127)(E6:-128<=k/\k<=127):Calls prog 82 #[.agg #[.int .i8 i,.int .i8 j,.int .i8 k]] w (aZ w (.agg #[.string (qs ((xY i j k).x)),.string (qs ((xY i j k).y)),.string (qs ((xY i j k).z))])):=by
 have HG:=ai g;clear g;have wi_:IntKind.i64.wrap i=i:=IntWalk.i64_in i ae;have wj_:IntKind.i64.wrap j=j:=IntWalk.i64_in j ae;have wk_:IntKind.i64.wrap k=k:=IntWalk.i64_in k ae;go_enter func82,ntmps82;go_wp2_with fail;refine aB (fun W=>Ext w W/\ay W (w.heap.size) #[.int .i8 i,.int .i8 j,.int .i8 k] 24/\ay W (w.heap.size+1) #[.string ⟨#[]⟩,.string ⟨#[]⟩,.string ⟨#[]⟩] 67) ⟨(((Ext.refl w).alloc _).alloc _),((ay.nw (#[.int .i8 i,.int .i8 j,.int .i8 k]) 24).alloc _),(ay.nw (#[.string ⟨#[]⟩,.string ⟨#[]⟩,.string ⟨#[]⟩]) 67)⟩ ?_;rintro w1 ⟨e1,a7,eI⟩;have aD:=ai e1;have ax:=ai a7;have aX:=ai eI;have aF:Hid (w.heap.size<=w.heap.size):=ai ah;have aS:Hid (w.heap.size<=w.heap.size+1):=ai ah;clear e1 a7 eI;refine rv (X:=w) [⟨w.heap.size+1,#[.string ⟨#[]⟩,.string ⟨#[]⟩,.string ⟨#[]⟩],#[.string (qs ((xY i j k).x)),.string (qs ((xY i j k).y)),.string (qs ((xY i j k).z))],67⟩] [.val (.pointer (some ⟨w.heap.size,0,none⟩)),.val (.int .i8 i),.val (.int .i64 i),.val (.int .i64 (i.tmod 10)),.val (.string (qs ((xY i j k).x))),.val (.pointer (some ⟨w.heap.size,1,none⟩)),.val (.int .i8 j),.val (.int .i64 j),.val (.int .i64 (j.tmod 10)),.val (.string (qs ((xY i j k).y))),.val (.pointer (some ⟨w.heap.size,2,none⟩)),.val (.int .i8 k),.val (.int .i64 k),.val (.int .i64 (k.tmod 10)),.val (.string (qs ((xY i j k).z))),.val (.agg #[.string (qs ((xY i j k).x)),.string (qs ((xY i j k).y)),.string (qs ((xY i j k).z))]),.st 0] ag ag ag aD.o.drew (List.forall_mem_cons.2 ⟨⟨aS.o,aX.o.drew⟩,(fun _ h=>by cases h)⟩) qhm ?_ (fun g1 w2 nM hk_ mF aK XB=>?_)
 ·skip
  refine ke.cons (fun g1 A_ W_ aw=>?_) ?_
  ·have T7:=(aw.old 1 (by kernel_rfl):A_.tmps[1]?.getD undef = .pointer (some ⟨w.heap.size,0,none⟩))
   refine Rn.val fun K_ aL=>?_
   go_simp;exact aL.o _ (Ext.refl _)
  refine ke.cons (fun g1 A_ W_ aw=>?_) ?_
  ·have Z6:=aw.val 0 rfl rfl rfl;have qcJ:=((aw.Xi (fm2 (show w.heap.size+1≠w.heap.size from ah) fm0) ax.o.drew)).cell 0 rfl;refine Rn.val fun K_ aL=>?_
   go_simp;exact aL.o _ (Ext.refl _)
  refine ke.cons (fun g1 A_ W_ aw=>?_) ?_
  ·have q4_:=aw.val 1 rfl rfl rfl;refine Rn.val fun K_ aL=>?_
   go_simp;exact aL.o _ (Ext.refl _)
  refine ke.cons (fun g1 A_ W_ aw=>?_) ?_
  ·have q5_:=aw.val 2 rfl rfl rfl;refine Rn.val fun K_ aL=>?_
   go_simp;exact aL.o _ (Ext.refl _)
  refine ke.cons (fun g1 A_ W_ aw=>?_) ?_
  ·have q6_:=aw.val 3 rfl rfl rfl;refine Rn.val fun K_ aL=>?_
   go_simp;refine((rL (i.tmod 10) _ (HG.o.ext aw.1) (sJ _):Calls _ _ _ _ (aZ _ (.string (qs (xY i j k).x))))).mono ?_;rintro e jG ⟨rfl,ft⟩;exact aL.o _ ft
  refine ke.cons (fun g1 A_ W_ aw=>?_) ?_
  ·have T7:=(aw.old 1 (by kernel_rfl):A_.tmps[1]?.getD undef = .pointer (some ⟨w.heap.size,0,none⟩))
   refine Rn.val fun K_ aL=>?_
   go_simp;exact aL.o _ (Ext.refl _)
  refine ke.cons (fun g1 A_ W_ aw=>?_) ?_
  ·have q8_:=aw.val 5 rfl rfl rfl;have qcI:=((aw.Xi (fm2 (show w.heap.size+1≠w.heap.size from ah) fm0) ax.o.drew)).cell 1 rfl;refine Rn.val fun K_ aL=>?_
   go_simp;exact aL.o _ (Ext.refl _)
  refine ke.cons (fun g1 A_ W_ aw=>?_) ?_
  ·have q9_:=aw.val 6 rfl rfl rfl;refine Rn.val fun K_ aL=>?_
   go_simp;exact aL.o _ (Ext.refl _)
  refine ke.cons (fun g1 A_ W_ aw=>?_) ?_
  ·have qa1:=aw.val 7 rfl rfl rfl;refine Rn.val fun K_ aL=>?_
   go_simp;exact aL.o _ (Ext.refl _)
  refine ke.cons (fun g1 A_ W_ aw=>?_) ?_
  ·have Db:=aw.val 8 rfl rfl rfl;refine Rn.val fun K_ aL=>?_
   go_simp;refine((rL (j.tmod 10) _ (HG.o.ext aw.1) (sJ _):Calls _ _ _ _ (aZ _ (.string (qs (xY i j k).y))))).mono ?_;rintro e jG ⟨rfl,ft⟩;exact aL.o _ ft
  refine ke.cons (fun g1 A_ W_ aw=>?_) ?_
  ·have T7:=(aw.old 1 (by kernel_rfl):A_.tmps[1]?.getD undef = .pointer (some ⟨w.heap.size,0,none⟩))
   refine Rn.val fun K_ aL=>?_
   go_simp;exact aL.o _ (Ext.refl _)
  refine ke.cons (fun g1 A_ W_ aw=>?_) ?_
  ·have qa0:=aw.val 10 rfl rfl rfl;have qcH:=((aw.Xi (fm2 (show w.heap.size+1≠w.heap.size from ah) fm0) ax.o.drew)).cell 2 rfl;refine Rn.val fun K_ aL=>?_
   go_simp;exact aL.o _ (Ext.refl _)
  refine ke.cons (fun g1 A_ W_ aw=>?_) ?_
  ·have Kx:=aw.val 11 rfl rfl rfl;refine Rn.val fun K_ aL=>?_
   go_simp;exact aL.o _ (Ext.refl _)
  refine ke.cons (fun g1 A_ W_ aw=>?_) ?_
  ·have C9:=aw.val 12 rfl rfl rfl;refine Rn.val fun K_ aL=>?_
   go_simp;exact aL.o _ (Ext.refl _)
  refine ke.cons (fun g1 A_ W_ aw=>?_) ?_
  ·have R6:=aw.val 13 rfl rfl rfl;refine Rn.val fun K_ aL=>?_
   go_simp;refine((rL (k.tmod 10) _ (HG.o.ext aw.1) (sJ _):Calls _ _ _ _ (aZ _ (.string (qs (xY i j k).z))))).mono ?_;rintro e jG ⟨rfl,ft⟩;exact aL.o _ ft
  refine ke.cons (fun g1 A_ W_ aw=>?_) ?_
  ·have q7_:=aw.val 4 rfl rfl rfl;have Da:=aw.val 9 rfl rfl rfl;have qaZ:=aw.val 14 rfl rfl rfl;refine Rn.val fun K_ aL=>?_
   go_simp;exact aL.o _ (Ext.refl _)
  refine ke.cons (fun g1 A_ W_ aw=>?_) ?_
  ·have Nf:=(aw.old 2 (by kernel_rfl):A_.tmps[2]?.getD undef = .pointer (some ⟨w.heap.size+1,0,none⟩))
   have C8:=aw.val 15 rfl rfl rfl;refine Rn.st (n:=0) rfl fun hB0 K_ aL=>?_
   have hB:ay W_ (w.heap.size+1) #[.string ⟨#[]⟩,.string ⟨#[]⟩,.string ⟨#[]⟩] 67:=hB0;clear hB0;have B7:=hB.cell 0 rfl;have B6:=hB.free 0;have UF:=hB.cell 1 rfl;have UA:=hB.free 1;have YG:=hB.cell 2 rfl;have Yd:=hB.free 2;have HB:=ai hB;clear hB;go_simp;exact aL.o _ ((((yw.refl _ _).set 0 _).set 1 _).set 2 _) (((HB.o.set 0 _).set 1 _).set 2 _)
  exact ke.nil
 simp only[fs,Kd.value,b7,Act.put,aq,au,av];have aM:Hid (Ext w w2):=ai nM;have c7:Hid (ay w2 (w.heap.size+1) #[.string (qs ((xY i j k).x)),.string (qs ((xY i j k).y)),.string (qs ((xY i j k).z))] 67):=ai (mF 0 _ rfl);clear nM aK XB hk_ mF;go_wp2_with fail;have eg:=c7.o.cell 0 rfl;have fB:=c7.o.cell 1 rfl;have fA:=c7.o.cell 2 rfl;refine bodyPost_ret (v:=.agg #[.string (qs ((xY i j k).x)),.string (qs ((xY i j k).y)),.string (qs ((xY i j k).z))]) (by simp[results,results82,go_sem,eg,fB,fA]) rfl ⟨rfl,aM.o⟩
