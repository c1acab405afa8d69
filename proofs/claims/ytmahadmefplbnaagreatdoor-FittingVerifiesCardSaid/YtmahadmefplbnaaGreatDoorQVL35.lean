/- Part 35. -/
import Derived.Test.YtmahadmefplbnaaGreatDoorQVLB
import Derived.Test.YtmahadmefplbnaaGreatDoorQVL34
set_option maxRecDepth 100000
set_option maxHeartbeats 2000000
open Go.Proofs.Tryz
set_option linter.unusedSimpArgs false
set_option linter.unusedVariables false
namespace Go.Proofs.YtmahadmefplbnaaGreatDoor
open Go Go.RowKit
theorem C7{q:Rat}:oe q=if q.num<0 then -q else q:=by
 unfold oe;by_cases h:q.num<0
 ·rw[if_pos h,if_pos ((Rat.lt_iff q 0).2 (by simpa using h))]
 ·rw[if_neg h,if_neg (fun e=>h (by have:=(Rat.lt_iff q 0).1 e;simpa using this))]
theorem sO(q:Rat){k:Nat}(w:World)(hq:QB k q)(hk:k<=9000):Calls prog 43 #[.string (qs q)] w (aZ w (.string (qs (oe q)))):=by
 have hp:=Ap q;have hl:=hq.len hk;have hp':(0:Int)<(qs q).size:=ae;have hp1:1<=(qs q).size:=hp;clear hq;by_cases hn:q.num<0
 ·have h2:=(lp q hp).2 hn;have H:Hid ((qs q).extract 1 (qs q).size=qs (oe q)):=ai (by rw[C7,if_pos hn];exact IF hn);clear hn;go_enter func43,ntmps43;go_wp2;go_ret;exact⟨dH H.o,Ext.refl _⟩
 ·have h2:¬ ((qs q)[0].toNat:Int)=45:=fun e=>hn ((lp q hp).1 e)
  have H:Hid (qs (oe q)=qs q):=ai (by rw[C7,if_neg hn]);clear hn;go_enter func43,ntmps43;go_wp2;go_ret;exact⟨dH H.o.symm,Ext.refl _⟩
theorem QB.abs{q:Rat}{k:Nat}(h:QB k q):QB k (oe q):=by unfold oe;split;exact h.neg;exact h
def Tw(n:Nat)(p:Nat->V3)(x:Nat->Rat)(w:World)(e:Ending)(w':World):Prop:=∃ v,e = .returned v/\Ext w w'/\cD w w' 34 1 v n (fun i => .string (qs (cS p x i)))
theorem lB{p:Nat->V3}{x:Nat->Rat}{i:Nat}(hp:VB 1 (p i))(hx:∀ j,j<3->QB 24 (x j)):QB 90 (cS p x i) :=
 (hp.z.sub ((((hx 0 af).mul hp.x).add ((hx 1 af).mul hp.y)).add (hx 2 af))).mono af
theorem AK{f:Nat->Rat}:∀ {n k:Nat},(∀ i,i<n->QB 90 (f i))->k<=n->QB 90 (qz f k)
 | n,0,_,_=>(QB.int (n:=0) (k:=1) ⟨af⟩ af).mono af
 | n,k+1,h,hk=>(QB.max (AK (n:=n) h ae) (h k ae).abs).mono af
theorem OJ(vo:Option Addr)(n cap:Nat)(p:Nat->V3)(w:World)(g:Gd w)(hl:qK w vo n p)(hq:∀ i,i<n->VB 1 (p i))(hn:n<=60)(x:Nat->Rat)(mo:ByteArray)(da:Option Addr)(dm dc:Nat)(hx:∀ j,j<3->QB 24 (x j)):Calls prog 108 #[.slice vo n cap,.agg #[.string (qs (x 0)),.string (qs (x 1)),.string (qs (x 2)),.string mo,.slice da dm dc]] w (Tw n p x w):=by
 have HG:=ai g;have HL:=ai hl;have HQ:=ai hq;have HX:=ai hx;clear g hl hq hx;go_enter func108,ntmps108;go_wp2_with fail;refine aB (fun W=>Ext w W/\ay W (w.heap.size) (#[.string (qs (x 0)),.string (qs (x 1)),.string (qs (x 2)),.string mo,.slice da dm dc]) 60) ⟨((Ext.refl w).alloc _),(ay.nw (#[.string (qs (x 0)),.string (qs (x 1)),.string (qs (x 2)),.string mo,.slice da dm dc]) 60)⟩ ?_;rintro w1 ⟨e1,a7⟩;have aD:=ai e1;have ax:=ai a7;have aF:Hid (w.heap.size<=w.heap.size):=ai (Nat.le_refl _);clear e1 a7;have zF:Hid (cD w w1 34 1 (.slice none 0 0) 0 ((fun i => .string (qs (cS p x i))))):=ai (cD.nil _ _ _ _ _);go_wp2_with fail;go_loopw [11,5] (fun bY qU wx=>∃ k:Nat,∃ la:Option Addr,∃ ln:Nat,∃ lc:Nat,bY = .int .i64 k/\qU = .slice la ln lc/\k<=n/\Hid (Ext w wx/\ay wx (w.heap.size) (#[.string (qs (x 0)),.string (qs (x 1)),.string (qs (x 2)),.string mo,.slice da dm dc]) 60/\cD w wx 34 1 (.slice la ln lc) k ((fun i => .string (qs (cS p x i)))))) (fun bY _ _=>n-(intOf bY).toNat)
 case atStart=>exact⟨0,none,0,0,rfl,rfl,Nat.zero_le _,ai ⟨aD.o,ax.o,zF.o⟩⟩
 case round =>
  rename World=>w2
  obtain⟨k,la,ln,lc,rfl,rfl,mg,HH⟩:=hrel;have aM:=ai HH.o.1;have az:=ai HH.o.2.1;have xF:=ai HH.o.2.2;clear HH;by_cases aP:k<n
  ·have fj:(k:Int)<((n:Nat):Int):=ae;obtain⟨s5,o_,rfl,pN,mG,pM⟩:=HL.o k aP;have zI:Hid (w.cell? _=some (.string (qs (p k).x))):=ai pN;have uR:Hid (w.cell? _=some (.string (qs (p k).y))):=ai mG;have zH:Hid (w.cell? _=some (.string (qs (p k).z))):=ai pM;clear pN mG pM;have bh:=aC aM.o (zI.o);have aR:=aC aM.o (uR.o);have aO:=aC aM.o (zH.o);go_wp2_with fail;refine aB (fun W=>Ext w W/\ay W (w.heap.size) (#[.string (qs (x 0)),.string (qs (x 1)),.string (qs (x 2)),.string mo,.slice da dm dc]) 60/\cD w W 34 1 (.slice la ln lc) k ((fun i => .string (qs (cS p x i))))/\ay W (w2.heap.size) (#[.string (qs ((p k).x)),.string (qs ((p k).y)),.string (qs ((p k).z))]) 67) ⟨(aM.o.alloc _),(az.o.alloc _),(xF.o.alloc _),(ay.nw (#[.string (qs ((p k).x)),.string (qs ((p k).y)),.string (qs ((p k).z))]) 67)⟩ ?_;rintro w3 ⟨e3,cB,UH,iH⟩;have bA:=ai e3;have aA:=ai cB;have EN:=ai UH;have br:=ai iH;have aS:Hid (w.heap.size<=w2.heap.size):=ai (aM.o.size);clear e3 cB UH iH bh aR aO;go_wp2_with fail;refine aE [.val (.pointer (some ⟨w.heap.size,0,none⟩)),.val (.pointer (some ⟨w.heap.size,0,none⟩)),.val (.string (qs (x 0))),.val (.pointer (some ⟨w2.heap.size,0,none⟩)),.val (.string (qs ((p k).x))),.val (.string (qs (x 0*(p k).x))),.val (.pointer (some ⟨w.heap.size,0,none⟩)),.val (.pointer (some ⟨w.heap.size,1,none⟩)),.val (.string (qs (x 1))),.val (.pointer (some ⟨w2.heap.size,1,none⟩)),.val (.string (qs ((p k).y))),.val (.string (qs (x 1*(p k).y))),.val (.pointer (some ⟨w.heap.size,2,none⟩)),.val (.string (qs (x 2))),.ch,.ev (.string (qs (x 0*(p k).x+x 1*(p k).y+x 2))),.val (.string (qs (x 0*(p k).x+x 1*(p k).y+x 2)))] (fun L g W=>L 14=true->∃ b,g 14 = .slice (some ⟨b,0,none⟩) 3 3/\ay W b #[.string (qs (x 0*(p k).x)),.string (qs (x 1*(p k).y)),.string (qs (x 2))] 34) (S:=fun _=>False) ag ag ag (Mv.refl bA.o (fun k h=>h.elim)) ?_ ?_ ?_ ?_ (fun fI w4 aK bW=>?_)
   ·exact fun g h=>absurd h af
   ·exact fun L g W W1 h e a=>let ⟨b,x,y⟩:=h a;⟨b,x,y.ext e⟩
   ·intro i v L g W hi h;have we:i≠14:=gJ hi rfl;have rF:i≠15:=gJ hi rfl;simp only[bB we,bE we,bB rF,bE rF];exact h
   ·skip
    refine RI 3 (.pointer (some ⟨w.heap.size,0,none⟩))<|R1 0<|J2 (fun aw=>aw.val 1) (fun aw=>(aw.mv.aH aA.o (fun h=>h)).cell 0 rfl)<|RI 7 (.pointer (some ⟨w2.heap.size,0,none⟩))<|J2 (fun aw=>aw.val 3) (fun aw=>(aw.mv.aH br.o (fun h=>h)).cell 0 rfl)<|K2 (fun aw=>aw.val 2) (fun aw=>aw.val 4) (fun aw=>de (x 0) ((p k).x) _ (HG.o.ext aw.mv.ext) (HX.o 0 af) (HQ.o k aP).x af af)<|RI 3 (.pointer (some ⟨w.heap.size,0,none⟩))<|R1 6<|J2 (fun aw=>aw.val 7) (fun aw=>(aw.mv.aH aA.o (fun h=>h)).cell 1 rfl)<|RI 7 (.pointer (some ⟨w2.heap.size,0,none⟩))<|J2 (fun aw=>aw.val 9) (fun aw=>(aw.mv.aH br.o (fun h=>h)).cell 1 rfl)<|K2 (fun aw=>aw.val 8) (fun aw=>aw.val 10) (fun aw=>de (x 1) ((p k).y) _ (HG.o.ext aw.mv.ext) (HX.o 1 af) (HQ.o k aP).y af af)<|RI 3 (.pointer (some ⟨w.heap.size,0,none⟩))<|J2 (fun aw=>aw.val 12) (fun aw=>(aw.mv.aH aA.o (fun h=>h)).cell 2 rfl) ?_;refine aN.cons (fun L_ g_ A_ W_ aw=>?_) ?_
    ·have R5:=aw.val 5;have F2:=aw.val 11;have qaX:=aw.val 13;refine fl.ch fun K_ aL=>?_;have we:=aw.not;have e_:=aw.e;simp only[we,aj,if_false,if_true] at e_;clear we;have a8:=ai e_;have bU:=ai aw.mv;clear e_;go_simp;exact aL.o _ _ (bU.o.alloc _) (by simp only[bS,cT,aj,if_false,if_true];exact fun _=>⟨_,rfl,ay.new _ _ _⟩)
    refine aN.cons (fun L_ g_ A_ W_ aw=>?_) ?_
    ·have qaW:=aw.ch 14;refine fl.ev fun K_ aL=>?_;obtain⟨b_,fZ,S4⟩:=aw.e (aw.yes 14 ag);rw[fZ] at qaW;have yA:=ai fZ;have Hy:=ai S4;have bU:=ai aw.mv;clear fZ S4;go_simp;refine(Ab (k:=26) _ _ _ b_ _ (HG.o.ext bU.o.ext) (((HX.o 0 af).mul (HQ.o k aP).x).mono af) (((HX.o 1 af).mul (HQ.o k aP).y).mono af) ((HX.o 2 af).mono af) Hy.o af).mono ?_;rintro e jG ⟨rfl,ft⟩;exact aL.o _ (bU.o.trans ft) (by simp only[cd 15 14,cf 15 14];exact fun _=>⟨b_,yA.o,Hy.o.ext ft⟩)
    exact J1 (fun aw=>aw.ev 15)<|aN.nil
   simp only[gm,Ke.value,b7,Act.put,aq,au,av,Nat.reduceAdd];have bO:Hid (Ext w w4):=ai aK.ext;have aJ:=ai (aK.aH aA.o (fun h=>h));have JI:=ai (EN.o.mv aK (fun q hq h=>h));have aW:=ai (aK.aH br.o (fun h=>h));clear aK bW;have gK:=aW.o.cell 2 rfl;go_wp2_with fail;refine cto (mN ((p k).z) (x 0*(p k).x+x 1*(p k).y+x 2) _ (HG.o.ext (bO.o)) (HQ.o k aP).z ((((HX.o 0 af).mul (HQ.o k aP).x).add ((HX.o 1 af).mul (HQ.o k aP).y)).add (HX.o 2 af)) af af) fun w5 e5=>?_
   have cX:=ai (bO.o.trans e5);have aT:=ai (aJ.o.ext e5);have JH:=ai (JI.o.ext e5);clear e5 gK;go_wp2_with (
    at_builtin;refine wpList_plain rfl fun K_ aL=>gI (X:=w) (H:=fun _ => .string (qs ((p k).z-(x 0*(p k).x+x 1*(p k).y+x 2)))) (ad:=⟨w5.heap.size,0,none⟩) (m:=1) (c:=1) (v:=.slice la ln lc) rfl rfl rfl jI j7 rfl (cX.o.alloc _) (JH.o.alloc _) (fun _=>af) (fun j hj=>by obtain rfl:j=0:=ae;exact ie (ay.nw (#[.string (qs ((p k).z-(x 0*(p k).x+x 1*(p k).y+x 2)))]) 34) rfl) (fun _ _=>rfl) (by unfold maxLen;omega) ae (fun YS AH LW w6 iF=>aL _ _ ?_)
    have gd:Hid (Ext w w6):=ai iF.mv.ext;have bC:Hid (ay w6 (w.heap.size) (#[.string (qs (x 0)),.string (qs (x 1)),.string (qs (x 2)),.string mo,.slice da dm dc]) 60):=ai (iF.mv.aH (aT.o.alloc _) (cD.aU JH.o aT.o af));have JG:Hid (cD w w6 34 1 (.slice YS AH LW) (k+1) ((fun i => .string (qs (cS p x i))))):=ai (IJ iF rfl);clear iF
   )
   go_roundw
   case rel=>exact⟨k+1,_,_,_,by go_num,rfl,ae,ai ⟨gd.o,bC.o,JG.o⟩⟩
   case measure=>simp[intOf];omega
  ·have eY:k=n:=ae;have kx:¬ (k:Int)<((n:Nat):Int):=ae;go_wp2;go_ret;exact⟨_,rfl,aM.o,eY▸xF.o⟩
theorem NO(vo:Option Addr)(n cap:Nat)(p:Nat->V3)(w:World)(g:Gd w)(hl:qK w vo n p)(hq:∀ i,i<n->VB 1 (p i))(hn:n<=60)(x:Nat->Rat)(mo:ByteArray)(da:Option Addr)(dm dc:Nat)(hx:∀ j,j<3->QB 24 (x j)):Calls prog 42 #[.slice vo n cap,.agg #[.string (qs (x 0)),.string (qs (x 1)),.string (qs (x 2)),.string mo,.slice da dm dc]] w (Tw n p x w):=by
 have HG:=ai g;have HL:=ai hl;have HQ:=ai hq;have HX:=ai hx;clear g hl hq hx;go_enter func42,ntmps42;go_wp2_with fail;refine aB (fun W=>Ext w W/\ay W (w.heap.size) (#[.string (qs (x 0)),.string (qs (x 1)),.string (qs (x 2)),.string mo,.slice da dm dc]) 60) ⟨((Ext.refl w).alloc _),(ay.nw (#[.string (qs (x 0)),.string (qs (x 1)),.string (qs (x 2)),.string mo,.slice da dm dc]) 60)⟩ ?_;rintro w1 ⟨e1,a7⟩;have aD:=ai e1;have ax:=ai a7;have aF:Hid (w.heap.size<=w.heap.size):=ai (Nat.le_refl _);clear e1 a7;have zF:Hid (cD w w1 34 1 (.slice none 0 0) 0 ((fun i => .string (qs (cS p x i))))):=ai (cD.nil _ _ _ _ _);go_wp2_with fail;go_loopw [6,5] (fun bY qU wx=>∃ k:Nat,∃ la:Option Addr,∃ ln:Nat,∃ lc:Nat,bY = .int .i64 k/\qU = .slice la ln lc/\k<=n/\Hid (Ext w wx/\ay wx (w.heap.size) (#[.string (qs (x 0)),.string (qs (x 1)),.string (qs (x 2)),.string mo,.slice da dm dc]) 60/\cD w wx 34 1 (.slice la ln lc) k ((fun i => .string (qs (cS p x i)))))) (fun bY _ _=>n-(intOf bY).toNat)
 case atStart=>exact⟨0,none,0,0,rfl,rfl,Nat.zero_le _,ai ⟨aD.o,ax.o,zF.o⟩⟩
 case round =>
  rename World=>w2
  obtain⟨k,la,ln,lc,rfl,rfl,mg,HH⟩:=hrel;have aM:=ai HH.o.1;have az:=ai HH.o.2.1;have xF:=ai HH.o.2.2;clear HH;by_cases aP:k<n
  ·have fj:(k:Int)<((n:Nat):Int):=ae;obtain⟨s5,o_,rfl,pN,mG,pM⟩:=HL.o k aP;have zI:Hid (w.cell? _=some (.string (qs (p k).x))):=ai pN;have uR:Hid (w.cell? _=some (.string (qs (p k).y))):=ai mG;have zH:Hid (w.cell? _=some (.string (qs (p k).z))):=ai pM;clear pN mG pM;go_wp2_with fail;refine aE [.val (.pointer (some ⟨w.heap.size,0,none⟩)),.val (.pointer (some ⟨w.heap.size,0,none⟩)),.val (.string (qs (x 0))),.val (.slice (some ⟨s5,o_,none⟩) n cap),.val (.int .i64 (k:Int)),.val (.pointer (some ⟨s5,o_+k*3,none⟩)),.val (.pointer (some ⟨s5,o_+k*3,none⟩)),.val (.string (qs ((p k).x))),.val (.string (qs (x 0*(p k).x))),.val (.pointer (some ⟨w.heap.size,0,none⟩)),.val (.pointer (some ⟨w.heap.size,1,none⟩)),.val (.string (qs (x 1))),.val (.slice (some ⟨s5,o_,none⟩) n cap),.val (.int .i64 (k:Int)),.val (.pointer (some ⟨s5,o_+k*3,none⟩)),.val (.pointer (some ⟨s5,o_+k*3+1,none⟩)),.val (.string (qs ((p k).y))),.val (.string (qs (x 1*(p k).y))),.val (.string (qs (x 0*(p k).x+x 1*(p k).y))),.val (.pointer (some ⟨w.heap.size,2,none⟩)),.val (.string (qs (x 2))),.val (.string (qs (x 0*(p k).x+x 1*(p k).y+x 2))),.val (.string (qs (x 0*(p k).x+x 1*(p k).y+x 2)))] (fun L g W=>True) (S:=fun _=>False) ag ag ag (Mv.refl aM.o (fun k h=>h.elim)) ?_ ?_ ?_ ?_ (fun fI w3 aK bW=>?_)
   ·exact fun _=>trivial
   ·exact fun _ _ _ _ h _=>h
   ·exact fun _ _ _ _ _ _ h=>h
   ·skip
    exact RI 3 (.pointer (some ⟨w.heap.size,0,none⟩))<|R1 0<|J2 (fun aw=>aw.val 1) (fun aw=>(aw.mv.aH az.o (fun h=>h)).cell 0 rfl)<|RI 0 (.slice (some ⟨s5,o_,none⟩) n cap)<|RI 6 (.int .i64 (k:Int))<|R2 3 4<|R1 5<|J2 (fun aw=>aw.val 6) (fun aw=>aC aw.mv.ext (zI.o))<|K2 (fun aw=>aw.val 2) (fun aw=>aw.val 7) (fun aw=>de (x 0) ((p k).x) _ (HG.o.ext aw.mv.ext) (HX.o 0 af) (HQ.o k aP).x af af)<|RI 3 (.pointer (some ⟨w.heap.size,0,none⟩))<|R1 9<|J2 (fun aw=>aw.val 10) (fun aw=>(aw.mv.aH az.o (fun h=>h)).cell 1 rfl)<|RI 0 (.slice (some ⟨s5,o_,none⟩) n cap)<|RI 6 (.int .i64 (k:Int))<|R2 12 13<|R1 14<|J2 (fun aw=>aw.val 15) (fun aw=>aC aw.mv.ext (uR.o))<|K2 (fun aw=>aw.val 11) (fun aw=>aw.val 16) (fun aw=>de (x 1) ((p k).y) _ (HG.o.ext aw.mv.ext) (HX.o 1 af) (HQ.o k aP).y af af)<|K2 (fun aw=>aw.val 8) (fun aw=>aw.val 17) (fun aw=>fU (x 0*(p k).x) (x 1*(p k).y) _ (HG.o.ext aw.mv.ext) ((HX.o 0 af).mul (HQ.o k aP).x) ((HX.o 1 af).mul (HQ.o k aP).y) af af)<|RI 3 (.pointer (some ⟨w.heap.size,0,none⟩))<|J2 (fun aw=>aw.val 19) (fun aw=>(aw.mv.aH az.o (fun h=>h)).cell 2 rfl)<|K2 (fun aw=>aw.val 18) (fun aw=>aw.val 20) (fun aw=>fU (x 0*(p k).x+x 1*(p k).y) (x 2) _ (HG.o.ext aw.mv.ext) (((HX.o 0 af).mul (HQ.o k aP).x).add ((HX.o 1 af).mul (HQ.o k aP).y)) (HX.o 2 af) af af)<|R1 21<|aN.nil
   simp only[gm,Ke.value,b7,Act.put,aq,au,av];have bA:Hid (Ext w w3):=ai aK.ext;have aA:=ai (aK.aH az.o (fun h=>h));have EN:=ai (xF.o.mv aK (fun i hi h=>h));clear aK bW;have aO:=aC bA.o (zH.o);go_wp2_with fail;refine cto (mN ((p k).z) (x 0*(p k).x+x 1*(p k).y+x 2) _ (HG.o.ext (bA.o)) (HQ.o k aP).z ((((HX.o 0 af).mul (HQ.o k aP).x).add ((HX.o 1 af).mul (HQ.o k aP).y)).add (HX.o 2 af)) af af) fun w4 e4=>?_
   have bO:=ai (bA.o.trans e4);have aJ:=ai (aA.o.ext e4);have JI:=ai (EN.o.ext e4);clear e4 aO;go_wp2_with (
    at_builtin;refine wpList_plain rfl fun K_ aL=>gI (X:=w) (H:=fun _ => .string (qs ((p k).z-(x 0*(p k).x+x 1*(p k).y+x 2)))) (ad:=⟨w4.heap.size,0,none⟩) (m:=1) (c:=1) (v:=.slice la ln lc) rfl rfl rfl jI j7 rfl (bO.o.alloc _) (JI.o.alloc _) (fun _=>af) (fun j hj=>by obtain rfl:j=0:=ae;exact ie (ay.nw (#[.string (qs ((p k).z-(x 0*(p k).x+x 1*(p k).y+x 2)))]) 34) rfl) (fun _ _=>rfl) (by unfold maxLen;omega) ae (fun a5_ yX c5_ w5 iF=>aL _ _ ?_)
    have cX:Hid (Ext w w5):=ai iF.mv.ext;have aT:Hid (ay w5 (w.heap.size) (#[.string (qs (x 0)),.string (qs (x 1)),.string (qs (x 2)),.string mo,.slice da dm dc]) 60):=ai (iF.mv.aH (aJ.o.alloc _) (cD.aU JI.o aJ.o af));have JH:Hid (cD w w5 34 1 (.slice a5_ yX c5_) (k+1) ((fun i => .string (qs (cS p x i))))):=ai (IJ iF rfl);clear iF
   )
   go_roundw
   case rel=>exact⟨k+1,_,_,_,by go_num,rfl,ae,ai ⟨cX.o,aT.o,JH.o⟩⟩
   case measure=>simp[intOf];omega
  ·have eY:k=n:=ae;have kx:¬ (k:Int)<((n:Nat):Int):=ae;go_wp2;go_ret;exact⟨_,rfl,aM.o,eY▸xF.o⟩
theorem IS(ro:Option Addr)(n cap:Nat)(f:Nat->Rat)(w:World)(g:Gd w)(hr:∀ i,i<n->∃ a,ro=some a/\w.cell? (a.add i)=some (.string (qs (f i))))(hf:∀ i,i<n->QB 90 (f i))(hn:n<=1000000):Calls prog 106 #[.slice ro n cap] w (aZ w (.string (qs (qz f n)))):=by
 have HG:=ai g;have HR:=ai hr;have HF:=ai hf;clear g hr hf;go_enter func106,ntmps106;go_wp2_with fail;go_loopw [4,3] (fun bY qU wx=>∃ k:Nat,bY = .int .i64 k/\qU = .string (qs (qz f k))/\k<=n/\Hid (Ext w wx)) (fun bY _ _=>n-(intOf bY).toNat)
 case atStart=>exact⟨0,rfl,by rw[qz,df],Nat.zero_le _,ai (Ext.refl w)⟩
 case round =>
  rename World=>w1
  obtain⟨k,rfl,rfl,mg,HH⟩:=hrel;have aD:=ai HH.o;clear HH;by_cases aP:k<n
  ·have fj:(k:Int)<((n:Nat):Int):=ae;obtain⟨ra,rfl,Cl⟩:=HR.o k aP;have BO:=ai Cl;clear Cl;have Hb:=aC aD.o (BO.o);go_wp2_with fail;refine cto (sO (f k) _ (HF.o k aP) af) fun w2 e2=>?_
   have aM:=ai (aD.o.trans e2);clear e2 Hb;go_wp2_with fail;refine cto (FT (qz f k) (oe (f k)) _ (HG.o.ext (aM.o)) (AK HF.o mg) (HF.o k aP).abs af af) fun w3 e3=>?_
   have bA:=ai (aM.o.trans e3);clear e3;go_wp2_with fail;go_roundw
   case rel=>exact⟨k+1,by go_num,rfl,ae,ai bA.o⟩
   case measure=>simp[intOf];omega
  ·have eY:k=n:=ae;have kx:¬ (k:Int)<((n:Nat):Int):=ae;go_wp2;go_ret;exact⟨by first|rfl|(rw[eY];rfl),aD.o⟩
structure YZ(P:LP)(y:Nat->Rat):Prop where
 b:∀ k,k<=P.m->QB 199 (bD k (fun i=>y i*P.B i))
 a:∀ k,k<=P.m->∀ j,j<P.n->QB 199 (tE P y k j)
theorem Mq(P:LP)(vr vc:Value)(va:Nat->Value)(q:Nat)(w:World)(g:Gd w)(hP:PM P w vr vc va)(vy:Value)(y:Nat->Rat)(r:Nat)(hy:Rq w vy P.m y)(hr:∀ i,i<P.m->QB r (y i))(KS:r<=200)(gh:YZ P y)(qb:∀ i,i<P.m->QB q (P.B i))(hnn:oW (fun i=>decide (y i<0)) P.m=false)(Q:PQ P)(hn:P.n<=60)(hm:P.m<=300)(jo:1<=q)(kn:q<=200)(qa:∀ i,i<P.m->∀ j,j<P.n->QB q (P.A i j)):Calls prog 140 #[.agg #[.int .i64 (P.n:Int),vr,vc],.agg #[vy]] w (qcU P y w):=by
 have nW:=ai hP;have Zf:=ai hnn;have Vq:=ai hy;have Bz:=ai hr;have QW:=ai qb;have HG:=ai g;have B9:=ai qa;have QV:=ai Q;clear hP hnn hy hr qb g qa Q;have AU:P.m<=1000000:=ae;have ue:Hid (∀ k,k<=P.m->QB 199 (bD k (fun i=>y i*P.B i))):=ai gh.b;have pJ:Hid (∀ k,k<=P.m->∀ j,j<P.n->QB 199 (tE P y k j)):=ai gh.a;have Vs:=ai nW.o.obj;have uf:=ai nW.o.r8;obtain⟨co,nP,O0,_⟩:=nW.o.obj;obtain⟨ro,fT,OX,_,_,qV⟩:=nW.o.rows;subst OX O0;have JD:=ai qV;clear qV;have Hs:=ai Vq.o;obtain⟨yo,nY,Td,_,_,LQ⟩:=Vq.o;subst Td;have HYY:=ai LQ;clear LQ;go_enter func140,ntmps140;go_wp2_with fail;refine cto (Aw (Hs.o.ext (((Ext.refl w).alloc _).alloc _)) (HG.o.ext ((((Ext.refl w).alloc _).alloc _))) (fun j hj=>(Bz.o j hj).mono KS) AU) fun w1 e1=>?_
 have aD:Hid (Ext w w1):=ai ((((Ext.refl w).alloc _).alloc _).trans e1);have ax:Hid (ay w1 (w.heap.size) (#[.int .i64 (P.n:Int),.slice ro P.m fT,.slice co P.n nP]) 32):=ai ((((ay.nw (#[.int .i64 (P.n:Int),.slice ro P.m fT,.slice co P.n nP]) 32).alloc _)).ext e1);have aX:Hid (ay w1 (w.heap.size+1) (#[.slice yo P.m nY]) 36):=ai (((ay.nw (#[.slice yo P.m nY]) 36)).ext e1);have aF:Hid (w.heap.size<=w.heap.size):=ai (Nat.le_refl _);have aS:Hid (w.heap.size<=w.heap.size+1):=ai ae;clear e1;have cH:=aX.o.cell 0 rfl;go_wp2_with fail;refine((Zf.o▸AG (Hs.o.ext aD.o) AU)).mono ?_;rintro e w2 ⟨rfl,e2⟩;have aM:=ai (aD.o.trans e2);have az:=ai (ax.o.ext e2);have c7:=ai (aX.o.ext e2);clear e2 cH;have aG:=az.o.cell 0 rfl;go_wp2_with fail;refine(mI P.n ae _).mono ?_;rintro e w3 ⟨ir,Z2,rfl,e3,g_,b_,c_⟩;have pL:Hid (w.heap.size≠ir):=ai (Nat.ne_of_lt (Nat.lt_of_lt_of_le az.o.lt g_));have dL:Hid (w.heap.size+1≠ir):=ai (Nat.ne_of_lt (Nat.lt_of_lt_of_le c7.o.lt g_));have kS:Hid (w.heap.size<=ir):=ai (Nat.le_trans aM.o.size g_);have bA:=ai (aM.o.trans e3);have aA:=ai (az.o.ext e3);have br:=ai (c7.o.ext e3);clear e3 aG;have Hx:=ai b_;have sw:=ai c_;clear g_ b_ c_;have cH:=br.o.cell 0 rfl;go_wp2_with fail;clear cH;go_loopw [30,5] (fun bY qU wx=>∃ k:Nat,bY = .int .i64 k/\qU = .string (qs (bD k (fun i=>y i*P.B i)))/\k<=P.m/\Hid (Ext w wx/\ay wx (w.heap.size) (#[.int .i64 (P.n:Int),.slice ro P.m fT,.slice co P.n nP]) 32/\ay wx (w.heap.size+1) (#[.slice yo P.m nY]) 36/\(∃ CK,ay wx ir CK 34/\∀ j,j<P.n->CK[j]?=some (.string (qs (tE P y k j)))))) (fun bY _ _=>P.m-(intOf bY).toNat)
 case atStart=>exact⟨0,rfl,by simp only[bD];rw[df],Nat.zero_le _,ai ⟨bA.o,aA.o,br.o,⟨_,Hx.o,fun j hj=>by rw[CH,df];exact sw.o j hj⟩⟩⟩
 case round =>
  rename World=>w4
  obtain⟨k,rfl,rfl,mg,HH⟩:=hrel;have bO:=ai HH.o.1;have aJ:=ai HH.o.2.1;have aW:=ai HH.o.2.2.1;obtain⟨CK,gC,gY⟩:=HH.o.2.2.2;have xO:=ai gC;have jb:=ai gY;clear gC gY;clear HH;by_cases aP:k<P.m
  ·have fj:(k:Int)<((P.m:Nat):Int):=ae;have pR:k<P.m:=aP;obtain⟨ra,o_,rfl,Ff,L5⟩:=JD.o k aP;obtain⟨fo,eh,qW,_,_,Oo⟩:=uf.o k aP;rw[qW] at Ff;have HFF:=ai Oo;obtain⟨ya,rfl,mG⟩:=HYY.o k aP;have BO:=ai Ff;have Zv:=ai L5;have uR:=ai mG;clear Ff L5 qW Oo mG;have Yq:=aC bO.o (uR.o);have aI:=aJ.o.cell 1 rfl;have dj:=aC bO.o (Zv.o);go_wp2_with fail;refine cto (de (y k) (P.B k) _ (HG.o.ext (bO.o)) (Bz.o k pR) (QW.o k aP) ae ae) fun w5 e5=>?_
   have cX:=ai (bO.o.trans e5);have aT:=ai (aJ.o.ext e5);have bI:=ai (aW.o.ext e5);have xN:=ai (xO.o.ext e5);clear e5 Yq aI dj;go_wp2_with fail;refine cto (fU (bD k (fun i=>y i*P.B i)) (y k*P.B k) _ (HG.o.ext (cX.o)) (ue.o k ae) ((Bz.o k pR).mul (QW.o k aP)) ae ae) fun w6 e6=>?_
   have gd:=ai (cX.o.trans e6);have bC:=ai (aT.o.ext e6);have cx:=ai (bI.o.ext e6);have kV:=ai (xN.o.ext e6);clear e6;have aI:=bC.o.cell 1 rfl;have eS:=aC gd.o (BO.o);go_wp2_with fail;clear aI eS;go_loopw [52] (fun bY wx=>∃ j:Nat,bY = .int .i64 j/\j<=P.n/\Hid (Ext w wx/\ay wx (w.heap.size) (#[.int .i64 (P.n:Int),.slice (some ⟨ra,o_,none⟩) P.m fT,.slice co P.n nP]) 32/\ay wx (w.heap.size+1) (#[.slice (some ya) P.m nY]) 36/\(∃ CJ,ay wx ir CJ 34/\∀ i,i<P.n->CJ[i]?=some (.string (qs (if i<j then tE P y (k+1) i else tE P y k i)))))) (fun bY _=>P.n-(intOf bY).toNat)
   case atStart=>exact⟨0,rfl,Nat.zero_le _,ai ⟨gd.o,bC.o,cx.o,⟨_,kV.o,fun i hi=>by rw[if_neg (Nat.not_lt_zero i)];exact jb.o i hi⟩⟩⟩
   case round =>
    rename World=>w7
    obtain⟨j,rfl,Oj,HH⟩:=hrel;have ig:=ai HH.o.1;have cg:=ai HH.o.2.1;have bj:=ai HH.o.2.2.1;obtain⟨CJ,gC,gY⟩:=HH.o.2.2.2;have nE:=ai gC;have Zw:=ai gY;clear gC gY;clear HH;by_cases aP:j<P.n
    ·have fj:(j:Int)<((P.n:Nat):Int):=ae;obtain⟨fa,rfl,tu⟩:=HFF.o j aP;have BS:=ai tu;have V1:=Zw.o j aP;rw[if_neg ae] at V1;have HCj:=ai V1;clear tu V1;have Pf:=aC ig.o (BS.o);go_wp2_with fail;clear Pf;refine aE [.val (.slice (some ⟨ir,0,none⟩) P.n P.n),.val (.int .i64 (j:Int)),.val (.slice (some ⟨ir,0,none⟩) P.n P.n),.val (.int .i64 (j:Int)),.val (.pointer (some ⟨ir,j,none⟩)),.val (.string (qs (tE P y k j))),.val (.string (qs (y k))),.val (.string (qs (P.A k j))),.val (.string (qs (y k*P.A k j))),.val (.string (qs (tE P y k j+y k*P.A k j))),.val (.pointer (some ⟨ir,j,none⟩)),.ch] (fun L g W=>(if L 11=true then ay W (ir) ((CJ).setIfInBounds j (.string (qs (tE P y k j+y k*P.A k j)))) 34 else ay W (ir) (CJ) 34)) (S:=fun k=>k=ir) ag ag ag (Mv.refl ig.o (fun k h=>(fun e=>Nat.le_trans (show w.heap.size<=ir from kS.o) (Nat.le_of_eq e.symm)) h)) ?_ ?_ ?_ ?_ (fun fI w8 aK bW=>?_)
     ·exact fun B5=>(by rw[if_neg af];exact nE.o.drew)
     ·exact fun L g W W1 h e=>cA (h) (fun h=>h.ext e) (fun h=>h.ext e)
     ·intro i v L g W hi h;have jz:i≠11:=gJ hi rfl;simp only[bB jz,bE jz];exact h
     ·skip
      refine RI 4 (.slice (some ⟨ir,0,none⟩) P.n P.n)<|RI 10 (.int .i64 (j:Int))<|RI 4 (.slice (some ⟨ir,0,none⟩) P.n P.n)<|RI 10 (.int .i64 (j:Int))<|R2 2 3 ?_;refine RV (fun A_ aw K_ aL=>?_) ?_;· have RU:=aw.val 4;have jz:=aw.no 11 af ag;have G3:=aw.e;rw[if_neg (by rw[jz];decide)] at G3;have qcm:=G3.cell (j) HCj.o;clear G3 jz;go_simp;exact du aL
      refine RI 9 (.string (qs (y k)))<|RI 11 (.string (qs (P.A k j)))<|K2 (fun aw=>aw.val 6) (fun aw=>aw.val 7) (fun aw=>de (y k) (P.A k j) _ (HG.o.ext aw.mv.ext) (Bz.o k pR) (B9.o k pR j aP) ae ae)<|K2 (fun aw=>aw.val 5) (fun aw=>aw.val 8) (fun aw=>fU (tE P y k j) (y k*P.A k j) _ (HG.o.ext aw.mv.ext) (pJ.o k ae j aP) ((Bz.o k pR).mul (B9.o k pR j aP)) ae ae)<|R2 0 1 ?_;refine aN.cons (fun L_ g_ A_ W_ aw=>?_) ?_
      ·have qaQ:=aw.val 10;have qfR:=aw.val 9;refine fl.ch fun K_ aL=>?_;have n_:=aw.not;have e_:=aw.e;rw[if_neg (by rw[n_];decide)] at e_;have B7:=e_.cell (j) HCj.o;have B6:=e_.free j;have a8:=ai e_;have bU:=ai aw.mv;have nS:=ai aw.e;clear e_ n_;go_simp;exact aL.o undef _ (bU.o.setCell (Or.inl (rfl)) _) (by rw[bS,if_pos rfl];exact(a8.o.set j _))
      exact aN.nil
     simp only[gm,Ke.value,b7,Act.put,aq,au,av];have jQ:Hid (Ext w w8):=ai aK.ext;have fR:=ai (aK.aH cg.o (fun h=>((show w.heap.size≠ir from pL.o)) h));have cE:=ai (aK.aH bj.o (fun h=>((show w.heap.size+1≠ir from dL.o)) h));have qQ:Hid (ay w8 (ir) ((CJ).setIfInBounds j (.string (qs (tE P y k j+y k*P.A k j)))) 34):=ai (by have h_:=bW;rw[if_pos rfl] at h_;exact h_);clear aK bW;go_wp2_with fail;go_roundw
     case rel=>exact⟨j+1,by go_num,ae,ai ⟨jQ.o,fR.o,cE.o,⟨_,qQ.o,Iw Zw.o⟩⟩⟩
     case measure=>simp[intOf];omega
    ·have eY:j=P.n:=ae;have kx:¬ (j:Int)<((P.n:Nat):Int):=ae;go_wp2_with fail;go_roundw
     case rel=>exact⟨k+1,by go_num,rfl,ae,ai ⟨ig.o,cg.o,bj.o,⟨_,nE.o,fun i hi=>by rw[Zw.o i hi,if_pos ae]⟩⟩⟩
     case measure=>simp[intOf];omega
  ·have eY:k=P.m:=ae;have kx:¬ (k:Int)<((P.m:Nat):Int):=ae;go_wp2;go_ret3;exact⟨_,rfl,bO.o,_,_,rfl,kS.o,xO.o,fun j hj=>by rw[jb.o j hj,eY,Ai]⟩
theorem Rr (P:LP) (vr vc:Value) (va:Nat->Value) (q:Nat) (w:World) (g:Gd w) (hP:PM P w vr vc va) (vy:Value) (m:Nat) (t:Nat->ByteArray) (r:Nat) (hT:Rs w vy m t) (DE:∀ i,i<m->(t i).size<=1000000) (AU:m<=1000000) (hq:LY t m r) (KS:r<=200) (gh:YZ P (yq t)) (qb:∀ i,i<P.m->QB q (P.B i))
    (Q:PQ P) (hn:P.n<=60) (hm:P.m<=300) (jo:1<=q) (kn:q<=200) (qa:∀ i,i<P.m->∀ j,j<P.n->QB q (P.A i j)):Calls prog 140 #[.agg #[.int .i64 (P.n:Int),vr,vc],.agg #[vy]] w (qcT P t m w):=by
 by_cases hle:k7 t m P.m=0
 ·obtain⟨rfl,hx⟩:=Sr hle hq;have hy:Rq w vy P.m (yq t):=hT.congr fun i hi=>by rw[← (hx i hi).1]
  by_cases hnn:oW (fun i=>decide (yq t i<0)) P.m=true
  ·refine(Rt P vr vc va q w g hP vy (yq t) r hy (fun i hi=>(hx i hi).2) KS hnn Q hn hm jo kn qa).mono ?_;rintro e w' ⟨rfl,e1⟩;have:qy t P.m P.m=3:=by rw[qy,if_neg (fun h=>h hle),if_pos hnn]
   exact⟨e1,Or.inl ⟨by rw[this],by rw[this];decide⟩⟩
  ·refine(Mq P vr vc va q w g hP vy (yq t) r hy (fun i hi=>(hx i hi).2) KS gh qb (by simpa using hnn) Q hn hm jo kn qa).mono ?_;rintro e w' ⟨vf,rfl,e1,h1⟩;exact⟨e1,Or.inr ⟨vf,rfl,by rw[qy,if_neg (fun h=>h hle),if_neg hnn],fun i hi=>(hx i hi).2.mono KS,h1⟩⟩
 ·refine(Ru P vr vc va q w g hP vy m t hT DE AU hle Q hn hm jo kn qa).mono ?_;rintro e w' ⟨rfl,e1⟩;have:qy t m P.m=k7 t m P.m:=by rw[qy,if_pos hle]
  exact⟨e1,Or.inl ⟨by rw[this],by rw[this];exact hle⟩⟩
theorem KB(P:LP)(vr vc:Value)(va:Nat->Value)(q:Nat)(w:World)(g:Gd w)(hP:PM P w vr vc va)(vy:Value)(m:Nat)(t:Nat->ByteArray)(r:Nat)(hT:Rs w vy m t)(DE:∀ i,i<m->(t i).size<=1000000)(AU:m<=1000000)(hq:LY t m r)(KS:r<=200)(gh:YZ P (yq t))(qb:∀ i,i<P.m->QB q (P.B i))(Q:PQ P)(hn:P.n<=60)(hm:P.m<=300)(jo:1<=q)(kn:q<=200)(qa:∀ i,i<P.m->∀ j,j<P.n->QB q (P.A i j)):Calls prog 77 #[.agg #[.int .i64 (P.n:Int),vr,vc],.agg #[vy]] w (aZ w (.tuple #[.string (ld P t m).1,.int .i64 (ld P t m).2])):=by
 have nW:=ai hP;have HT:=ai hT;have Y4:=ai DE;have Ht:=ai hq;have QW:=ai qb;have HG:=ai g;have B9:=ai qa;have QV:=ai Q;clear hP hT DE hq qb g qa Q;have Vs:=ai nW.o.obj;have uf:=ai nW.o.r8;obtain⟨co,nP,O0,_,_,hoo⟩:=nW.o.obj;obtain⟨ro,fT,OX,_,_,qV⟩:=nW.o.rows;subst OX O0;have JD:=ai qV;clear qV;have HOO:=ai hoo;clear hoo;have ud:=ai HT.o;obtain⟨yo,nY,Td,_,_,LQ⟩:=HT.o;subst Td;clear LQ;go_enter func77,ntmps77;go_wp2_with fail;refine cto (Ep P _ _ va _ (HG.o.ext ((((Ext.refl w).alloc _).alloc _))) (nW.o.ext (((Ext.refl w).alloc _).alloc _)) QV.o hn hm) fun w1 e1=>?_
 have aD:Hid (Ext w w1):=ai ((((Ext.refl w).alloc _).alloc _).trans e1);have ax:Hid (ay w1 (w.heap.size) (#[.int .i64 (P.n:Int),.slice ro P.m fT,.slice co P.n nP]) 32):=ai ((((ay.nw (#[.int .i64 (P.n:Int),.slice ro P.m fT,.slice co P.n nP]) 32).alloc _)).ext e1);have aX:Hid (ay w1 (w.heap.size+1) (#[.slice yo m nY]) 36):=ai (((ay.nw (#[.slice yo m nY]) 36)).ext e1);have aF:Hid (w.heap.size<=w.heap.size):=ai (Nat.le_refl _);have aS:Hid (w.heap.size<=w.heap.size+1):=ai ae;clear e1;have aG:=ax.o.cell 0 rfl;have aI:=ax.o.cell 1 rfl;have aQ:=ax.o.cell 2 rfl;have cH:=aX.o.cell 0 rfl;go_wp2_with fail;refine(Rr P _ _ va q _ (HG.o.ext (aD.o)) (nW.o.ext aD.o) _ m t r (ud.o.ext aD.o) Y4.o AU Ht.o KS gh QW.o QV.o hn hm jo kn B9.o).mono ?_;rintro e w2 ⟨e2,h_⟩;have aM:=ai (aD.o.trans e2);have az:=ai (ax.o.ext e2);have c7:=ai (aX.o.ext e2);clear e2 aG aI aQ cH;rcases h_ with⟨rfl,hc⟩|⟨vf,rfl,rQ,hyq,hnq⟩
 ·have HME:=ai hc;have jh:¬ qy t m P.m=0:=hc;clear hc;go_wp2;go_ret2;exact⟨by rw[ld,if_pos HME.o];rfl,aM.o⟩
 ·have yz:=ai rQ;have Bz:=ai hyq;clear rQ hyq;obtain⟨fk,CF,rfl,gf_,bf_,cf_⟩:=hnq;have HNF:=ai (⟨fk,CF,rfl,gf_,bf_,cf_⟩:Nq _ _ _ P.n (P.comb (yq t)));have HCF:=ai cf_;have qiK:=ai bf_;clear gf_ bf_ cf_;have mC:=ai (gh.b P.m (Nat.le_refl _):QB 199 (P.yu (yq t)));have HSC:=ai (fun j hj=>(by have:=gh.a P.m (Nat.le_refl _) j hj;rwa[Ai] at this:QB 199 (P.comb (yq t) j)));go_wp2_with fail;go_loopw [29] (fun bY wx=>∃ k:Nat,bY = .int .i64 k/\k<=P.n/\Hid (∀ j,j<k->P.comb (yq t) j=-P.C j)/\Hid (Ext w wx/\ay wx (w.heap.size) (#[.int .i64 (P.n:Int),.slice ro P.m fT,.slice co P.n nP]) 32/\ay wx (w.heap.size+1) (#[.slice yo m nY]) 36/\ay wx (fk) (CF) 34)) (fun bY _=>P.n-(intOf bY).toNat)
  case atStart=>exact⟨0,rfl,Nat.zero_le _,ai ((fun j hj=>absurd hj (Nat.not_lt_zero j))),ai ⟨aM.o,az.o,c7.o,qiK.o⟩⟩
  case round =>
   rename World=>w3
   obtain⟨k,rfl,mg,ui,HH⟩:=hrel;have bA:=ai HH.o.1;have aA:=ai HH.o.2.1;have br:=ai HH.o.2.2.1;have zL:=ai HH.o.2.2.2;clear HH;by_cases aP:k<P.n
   ·have fj:(k:Int)<((P.n:Nat):Int):=ae;obtain⟨ca,rfl,Cl⟩:=HOO.o k aP;have HCc:=ai Cl;clear Cl;have qcx:=zL.o.cell (k) (HCF.o k aP);go_upto_region 10 with fail
    clear qcx;by_cases hz:P.comb (yq t) k+P.C k=0
    ·have z1:=eR hz;have HZ:=ai hz;clear hz;have aQ:=aA.o.cell 2 rfl;have Ph:=aC bA.o (HCc.o);go_wp2_with fail;refine cto (fU (P.comb (yq t) k) (P.C k) _ (HG.o.ext (bA.o)) (HSC.o k aP) ((QV.o.C k aP).mono (Nat.le_refl _)) ae ae) fun w4 e4=>?_
     have bO:=ai (bA.o.trans e4);have aJ:=ai (aA.o.ext e4);have aW:=ai (br.o.ext e4);have tT:=ai (zL.o.ext e4);clear e4 aQ Ph;go_wp2_with fail;go_roundw
     case rel=>exact⟨k+1,by go_num,ae,ai (S5 HZ.o ui.o),ai ⟨bO.o,aJ.o,aW.o,tT.o⟩⟩
     case measure=>simp[intOf];omega
    ·have z1:=cu hz;have HZ:=ai hz;clear hz;have aQ:=aA.o.cell 2 rfl;have Ph:=aC bA.o (HCc.o);go_wp2_with fail;refine cto (fU (P.comb (yq t) k) (P.C k) _ (HG.o.ext (bA.o)) (HSC.o k aP) ((QV.o.C k aP).mono (Nat.le_refl _)) ae ae) fun w4 e4=>?_
     have bO:=ai (bA.o.trans e4);have aJ:=ai (aA.o.ext e4);have aW:=ai (br.o.ext e4);have tT:=ai (zL.o.ext e4);clear e4 aQ Ph;go_wp2;go_ret2;exact⟨by rw[ld,if_neg (fun h=>h yz.o),if_neg (fun h=>HZ.o (by rw[h k aP];grind))];rfl,bO.o⟩
   ·have eY:k=P.n:=ae;have kx:¬ (k:Int)<((P.n:Nat):Int):=ae;go_wp2_with fail;refine cto (dS (P.yu (yq t)) _ mC.o ae) fun w4 e4=>?_
    have bO:=ai (bA.o.trans e4);have aJ:=ai (aA.o.ext e4);have aW:=ai (br.o.ext e4);have tT:=ai (zL.o.ext e4);clear e4;go_wp2_with fail;refine cto (Cn (-P.yu (yq t)) _ (HG.o.ext (bO.o)) (mC.o.neg.mono ae)) fun w5 e5=>?_
    have cX:=ai (bO.o.trans e5);have aT:=ai (aJ.o.ext e5);have bI:=ai (aW.o.ext e5);have VM:=ai (tT.o.ext e5);clear e5;go_wp2;go_ret2;exact⟨by rw[ld,if_neg (fun h=>h yz.o),if_pos (fun j hj=>ui.o j ae)];rfl,cX.o⟩
noncomputable def DV (s:Nat->ByteArray) (mo:ByteArray):Bool:=rq (s 0) && rq (s 1) && rq (s 2) && rq mo
noncomputable def tK (s:Nat->ByteArray) (mo:ByteArray):Int:=if DV s mo=true then 0 else 2
noncomputable def x6 (n:Nat) (p:Nat->V3) (s:Nat->ByteArray) (mo:ByteArray) (t:Nat->ByteArray) (m:Nat):Int :=
 if DV s mo=true then(if (ld (bH n p) t m).2≠0 then(ld (bH n p) t m).2 else if (ld (bH n p) t m).1=mo/\qs (qz (cS p (yq s)) n)=mo then 0 else 23) else 2
theorem DU (s:Nat->ByteArray) (mo:ByteArray):(DV s mo=false/\rq (s 0)=false/\fe [s 0,s 1]=2)∨(DV s mo=false/\rq (s 0)=true/\rq (s 1)=false/\fe [s 0,s 1]=2)∨(DV s mo=false/\rq (s 0)=true/\rq (s 1)=true/\rq (s 2)=false/\fe [s 0,s 1]=0) ∨
    (DV s mo=false/\rq (s 0)=true/\rq (s 1)=true/\rq (s 2)=true/\rq mo=false/\fe [s 0,s 1]=0)∨(DV s mo=true/\rq (s 0)=true/\rq (s 1)=true/\rq (s 2)=true/\rq mo=true/\fe [s 0,s 1]=0):=by
 unfold DV fe;cases h0:rq (s 0) <;> cases h1:rq (s 1) <;> cases h2:rq (s 2) <;> cases h3:rq mo <;> simp[h0,h1,h2,h3]
structure Q3(s:Nat->ByteArray)(mo:ByteArray):Prop where
 sz:∀ j,j<3->(s j).size<=1000000
 mo:mo.size<=1000000
 q:LY s 3 24
theorem Q3.pP{s:Nat->ByteArray}{mo:ByteArray}(h:Q3 s mo)(r0:rq (s 0)=true)(r1:rq (s 1)=true)(r2:rq (s 2)=true):∀ j,j<3->s j=qs (yq s j)/\QB 24 (yq s j):=fun j hj=>by
 have:rq (s j)=true:=by rcases (by omega:j=0∨j=1∨j=2) with rfl|rfl|rfl <;> assumption
 obtain⟨x,e,hx⟩:=h.q j hj this;rw[yq,e,yP];exact⟨rfl,hx⟩
section
variable {vo:Option Addr} {n cap:Nat} {p:Nat->V3} {w:World} {s:Nat->ByteArray} {mo:ByteArray} {da:Option Addr} {m dc:Nat}
theorem rZ (g:Gd w) (hl:qK w vo n p) (hq:∀ i,i<n->VB 1 (p i)) (hn:n<=60) (hs:∀ j,j<3->s j=qs (yq s j)/\QB 24 (yq s j)) :
    Calls prog 108 #[.slice vo n cap,.agg #[.string (s 0),.string (s 1),.string (s 2),.string mo,.slice da m dc]] w (Tw n p (yq s) w):=by
 have:=OJ vo n cap p w g hl hq hn (yq s) mo da m dc (fun j hj=>(hs j hj).2);rwa[← (hs 0 af).1,← (hs 1 af).1,← (hs 2 af).1] at this
theorem rM (g:Gd w) (hl:qK w vo n p) (hq:∀ i,i<n->VB 1 (p i)) (hn:n<=60) (hs:∀ j,j<3->s j=qs (yq s j)/\QB 24 (yq s j)) :
    Calls prog 42 #[.slice vo n cap,.agg #[.string (s 0),.string (s 1),.string (s 2),.string mo,.slice da m dc]] w (Tw n p (yq s) w):=by
 have:=NO vo n cap p w g hl hq hn (yq s) mo da m dc (fun j hj=>(hs j hj).2);rwa[← (hs 0 af).1,← (hs 1 af).1,← (hs 2 af).1] at this
theorem Ed (g:Gd w) {vr vc vd:Value} {va:Nat->Value} (hP:PM (bH n p) w vr vc va) (h:∀ i,i<n->cZ (p i)) (hn:n<=60) {t:Nat->ByteArray} (hT:Rs w vd m t) (DE:∀ i,i<m->(t i).size<=1000000) (hm:m<=1000000) (hq:LY t m 200) (hz:YZ (bH n p) (yq t)) :
    Calls prog 77 #[.agg #[.int .i64 4,vr,vc],.agg #[vd]] w (aZ w (.tuple #[.string (ld (bH n p) t m).1,.int .i64 (ld (bH n p) t m).2])) :=
 KB (bH n p) vr vc va 1 w g hP vd m t 200 hT DE hm hq af hz (fun i hi=>iP (Je h i hi)) (OL h) (by show 4<=60;decide) (by show 2*n<=300;omega) af af (fun i hi j _=>iP (D5 h i hi j))
end
theorem gu(vo:Option Addr)(n cap:Nat)(p:Nat->V3)(w:World)(g:Gd w)(hl:qK w vo n p)(hq:∀ i,i<n->cZ (p i))(dX:0<n)(hn:n<=60)(s:Nat->ByteArray)(mo:ByteArray)(da:Option Addr)(m dc:Nat)(hf:Q3 s mo):Calls prog 107 #[.slice vo n cap,.agg #[.string (s 0),.string (s 1),.string (s 2),.string mo,.slice da m dc]] w (aZ w (.int .i64 (tK s mo))):=by
 have HG:=ai g;have HL:=ai hl;have HQ:=ai hq;have HF:=ai hf;clear g hl hq hf;have L4:=ai (A4 HQ.o dX hn);go_enter func107,ntmps107;go_wp2_with fail;refine((L4.o▸s7 vo n cap (fun k=>vt (p k)) _ (HG.o.ext (((Ext.refl w).alloc _))) (Hq.ext HL.o ((Ext.refl w).alloc _)) (fun k hk=>Co (HQ.o k hk).vb af) ae)).mono ?_;rintro e w1 ⟨rfl,e1⟩;have aD:Hid (Ext w w1):=ai (((Ext.refl w).alloc _).trans e1);have ax:Hid (ay w1 (w.heap.size) (#[.string (s 0),.string (s 1),.string (s 2),.string mo,.slice da m dc]) 60):=ai (((ay.nw (#[.string (s 0),.string (s 1),.string (s 2),.string mo,.slice da m dc]) 60)).ext e1);have aF:Hid (w.heap.size<=w.heap.size):=ai (Nat.le_refl _);clear e1;go_upto_region 4 with fail
 rcases DU s mo with⟨e_,r0_,te_⟩|⟨e_,r0_,iD,te_⟩|⟨e_,r0_,iD,r2_,te_⟩|⟨e_,r0_,iD,r2_,r3_,te_⟩|⟨e_,r0_,iD,r2_,r3_,te_⟩
 ·have gT:=ai e_;have pI:=ai te_;have iI:=ai r0_;clear e_ r0_ te_;have aG:=ax.o.cell 0 rfl;have aI:=ax.o.cell 1 rfl;go_wp2_with fail;refine((pI.o▸dN ⟨s 0,s 1⟩ _ (HG.o.ext (aD.o)) ⟨HF.o.sz 0 af,HF.o.sz 1 af⟩)).mono ?_;rintro e w2 ⟨rfl,e2⟩;have aM:=ai (aD.o.trans e2);have az:=ai (ax.o.ext e2);clear e2 aG aI;go_wp2;go_ret;exact⟨by rw[tK,gT.o];rfl,aM.o⟩
 ·have gT:=ai e_;have pI:=ai te_;have iI:=ai r0_;have kf:=ai iD;clear e_ r0_ iD te_;have aG:=ax.o.cell 0 rfl;have aI:=ax.o.cell 1 rfl;go_wp2_with fail;refine((pI.o▸dN ⟨s 0,s 1⟩ _ (HG.o.ext (aD.o)) ⟨HF.o.sz 0 af,HF.o.sz 1 af⟩)).mono ?_;rintro e w2 ⟨rfl,e2⟩;have aM:=ai (aD.o.trans e2);have az:=ai (ax.o.ext e2);clear e2 aG aI;go_wp2;go_ret;exact⟨by rw[tK,gT.o];rfl,aM.o⟩
 ·have gT:=ai e_;have pI:=ai te_;have iI:=ai r0_;have kf:=ai iD;have jl:=ai r2_;clear e_ r0_ iD r2_ te_;have aG:=ax.o.cell 0 rfl;have aI:=ax.o.cell 1 rfl;go_wp2_with fail;refine((pI.o▸dN ⟨s 0,s 1⟩ _ (HG.o.ext (aD.o)) ⟨HF.o.sz 0 af,HF.o.sz 1 af⟩)).mono ?_;rintro e w2 ⟨rfl,e2⟩;have aM:=ai (aD.o.trans e2);have az:=ai (ax.o.ext e2);clear e2 aG aI;have aQ:=az.o.cell 2 rfl;go_wp2_with fail;refine cto (ju _ _ (HG.o.ext (aM.o)) (HF.o.sz 2 af) jl.o) fun w3 e3=>?_
  have bA:=ai (aM.o.trans e3);have aA:=ai (az.o.ext e3);clear e3 aQ;go_wp2;go_ret;exact⟨by rw[tK,gT.o];rfl,bA.o⟩
 ·have gT:=ai e_;have pI:=ai te_;have iI:=ai r0_;have kf:=ai iD;have jl:=ai r2_;have uO:=ai r3_;clear e_ r0_ iD r2_ r3_ te_;have aG:=ax.o.cell 0 rfl;have aI:=ax.o.cell 1 rfl;go_wp2_with fail;refine((pI.o▸dN ⟨s 0,s 1⟩ _ (HG.o.ext (aD.o)) ⟨HF.o.sz 0 af,HF.o.sz 1 af⟩)).mono ?_;rintro e w2 ⟨rfl,e2⟩;have aM:=ai (aD.o.trans e2);have az:=ai (ax.o.ext e2);clear e2 aG aI;have aQ:=az.o.cell 2 rfl;go_wp2_with fail;refine cto (eQ _ _ (HG.o.ext (aM.o)) (HF.o.sz 2 af) jl.o) fun w3 e3=>?_
  have bA:=ai (aM.o.trans e3);have aA:=ai (az.o.ext e3);clear e3 aQ;have fE:=aA.o.cell 3 rfl;go_wp2_with fail;refine cto (ju _ _ (HG.o.ext (bA.o)) HF.o.mo uO.o) fun w4 e4=>?_
  have bO:=ai (bA.o.trans e4);clear e4 fE;go_wp2;go_ret;exact⟨by rw[tK,gT.o];rfl,bO.o⟩
 ·have gT:=ai e_;have pI:=ai te_;have iI:=ai r0_;have kf:=ai iD;have jl:=ai r2_;have uO:=ai r3_;clear e_ r0_ iD r2_ r3_ te_;have aG:=ax.o.cell 0 rfl;have aI:=ax.o.cell 1 rfl;go_wp2_with fail;refine((pI.o▸dN ⟨s 0,s 1⟩ _ (HG.o.ext (aD.o)) ⟨HF.o.sz 0 af,HF.o.sz 1 af⟩)).mono ?_;rintro e w2 ⟨rfl,e2⟩;have aM:=ai (aD.o.trans e2);have az:=ai (ax.o.ext e2);clear e2 aG aI;have aQ:=az.o.cell 2 rfl;go_wp2_with fail;refine cto (eQ _ _ (HG.o.ext (aM.o)) (HF.o.sz 2 af) jl.o) fun w3 e3=>?_
  have bA:=ai (aM.o.trans e3);have aA:=ai (az.o.ext e3);clear e3 aQ;have fE:=aA.o.cell 3 rfl;go_wp2_with fail;refine cto (eQ _ _ (HG.o.ext (bA.o)) HF.o.mo uO.o) fun w4 e4=>?_
  have bO:=ai (bA.o.trans e4);clear e4 fE;go_wp2;go_ret;exact⟨by rw[tK,gT.o];rfl,bO.o⟩
theorem K8(vo:Option Addr)(n cap:Nat)(p:Nat->V3)(w:World)(g:Gd w)(hl:qK w vo n p)(hq:∀ i,i<n->cZ (p i))(dX:0<n)(hn:n<=60)(s:Nat->ByteArray)(mo:ByteArray)(da:Option Addr)(m dc:Nat)(hf:Q3 s mo)(t:Nat->ByteArray)(hT:Rs w (.slice da m dc) m t)(DE:∀ i,i<m->(t i).size<=1000000)(hm:m<=1000000)(htq:LY t m 200)(hz:YZ (bH n p) (yq t)):Calls prog 37 #[.slice vo n cap,.agg #[.string (s 0),.string (s 1),.string (s 2),.string mo,.slice da m dc]] w (aZ w (.int .i64 (x6 n p s mo t m))):=by
 have HG:=ai g;have HL:=ai hl;have HQ:=ai hq;have HF:=ai hf;have HT:=ai hT;have Y4:=ai DE;have Ht:=ai htq;have HZ:=ai hz;clear g hl hq hf hT DE htq hz;go_enter func37,ntmps37;go_upto_region 1 with fail
 refine aB (fun W=>Ext w W/\ay W (w.heap.size) (#[.string (s 0),.string (s 1),.string (s 2),.string mo,.slice da m dc]) 60) ⟨((Ext.refl w).alloc _),(ay.nw (#[.string (s 0),.string (s 1),.string (s 2),.string mo,.slice da m dc]) 60)⟩ ?_;rintro w1 ⟨e1,a7⟩;have aD:=ai e1;have ax:=ai a7;have aF:Hid (w.heap.size<=w.heap.size):=ai (Nat.le_refl _);clear e1 a7;rcases DU s mo with⟨e_,r0_,te_⟩|⟨e_,r0_,iD,te_⟩|⟨e_,r0_,iD,r2_,te_⟩|⟨e_,r0_,iD,r2_,r3_,te_⟩|⟨e_,r0_,iD,r2_,r3_,te_⟩
 ·have gT:=ai e_;have pI:=ai te_;have iI:=ai r0_;clear e_ r0_ te_;have BE:Hid (tK s mo=2):=ai (by rw[tK,gT.o];rfl);have aG:=ax.o.cell 0 rfl;have aI:=ax.o.cell 1 rfl;have aQ:=ax.o.cell 2 rfl;have fE:=ax.o.cell 3 rfl;have iX:=ax.o.cell 4 rfl;go_wp2_with fail;refine((BE.o▸gu vo n cap p _ (HG.o.ext (aD.o)) (HL.o.ext aD.o) HQ.o dX hn s mo da m dc HF.o)).mono ?_;rintro e w2 ⟨rfl,e2⟩;have aM:=ai (aD.o.trans e2);have az:=ai (ax.o.ext e2);clear e2 aG aI aQ fE iX;go_wp2;go_ret;exact⟨by rw[x6,if_neg (by rw[gT.o];decide)];rfl,aM.o⟩
 ·have gT:=ai e_;have pI:=ai te_;have iI:=ai r0_;have kf:=ai iD;clear e_ r0_ iD te_;have BE:Hid (tK s mo=2):=ai (by rw[tK,gT.o];rfl);have aG:=ax.o.cell 0 rfl;have aI:=ax.o.cell 1 rfl;have aQ:=ax.o.cell 2 rfl;have fE:=ax.o.cell 3 rfl;have iX:=ax.o.cell 4 rfl;go_wp2_with fail;refine((BE.o▸gu vo n cap p _ (HG.o.ext (aD.o)) (HL.o.ext aD.o) HQ.o dX hn s mo da m dc HF.o)).mono ?_;rintro e w2 ⟨rfl,e2⟩;have aM:=ai (aD.o.trans e2);have az:=ai (ax.o.ext e2);clear e2 aG aI aQ fE iX;go_wp2;go_ret;exact⟨by rw[x6,if_neg (by rw[gT.o];decide)];rfl,aM.o⟩
 ·have gT:=ai e_;have pI:=ai te_;have iI:=ai r0_;have kf:=ai iD;have jl:=ai r2_;clear e_ r0_ iD r2_ te_;have BE:Hid (tK s mo=2):=ai (by rw[tK,gT.o];rfl);have aG:=ax.o.cell 0 rfl;have aI:=ax.o.cell 1 rfl;have aQ:=ax.o.cell 2 rfl;have fE:=ax.o.cell 3 rfl;have iX:=ax.o.cell 4 rfl;go_wp2_with fail;refine((BE.o▸gu vo n cap p _ (HG.o.ext (aD.o)) (HL.o.ext aD.o) HQ.o dX hn s mo da m dc HF.o)).mono ?_;rintro e w2 ⟨rfl,e2⟩;have aM:=ai (aD.o.trans e2);have az:=ai (ax.o.ext e2);clear e2 aG aI aQ fE iX;go_wp2;go_ret;exact⟨by rw[x6,if_neg (by rw[gT.o];decide)];rfl,aM.o⟩
 ·have gT:=ai e_;have pI:=ai te_;have iI:=ai r0_;have kf:=ai iD;have jl:=ai r2_;have uO:=ai r3_;clear e_ r0_ iD r2_ r3_ te_;have BE:Hid (tK s mo=2):=ai (by rw[tK,gT.o];rfl);have aG:=ax.o.cell 0 rfl;have aI:=ax.o.cell 1 rfl;have aQ:=ax.o.cell 2 rfl;have fE:=ax.o.cell 3 rfl;have iX:=ax.o.cell 4 rfl;go_wp2_with fail;refine((BE.o▸gu vo n cap p _ (HG.o.ext (aD.o)) (HL.o.ext aD.o) HQ.o dX hn s mo da m dc HF.o)).mono ?_;rintro e w2 ⟨rfl,e2⟩;have aM:=ai (aD.o.trans e2);have az:=ai (ax.o.ext e2);clear e2 aG aI aQ fE iX;go_wp2;go_ret;exact⟨by rw[x6,if_neg (by rw[gT.o];decide)];rfl,aM.o⟩
 ·have gT:=ai e_;have pI:=ai te_;have iI:=ai r0_;have kf:=ai iD;have jl:=ai r2_;have uO:=ai r3_;clear e_ r0_ iD r2_ r3_ te_;have BE:Hid (tK s mo=0):=ai (by rw[tK,gT.o];rfl);have aG:=ax.o.cell 0 rfl;have aI:=ax.o.cell 1 rfl;have aQ:=ax.o.cell 2 rfl;have fE:=ax.o.cell 3 rfl;have iX:=ax.o.cell 4 rfl;go_wp2_with fail;refine((BE.o▸gu vo n cap p _ (HG.o.ext (aD.o)) (HL.o.ext aD.o) HQ.o dX hn s mo da m dc HF.o)).mono ?_;rintro e w2 ⟨rfl,e2⟩;have aM:=ai (aD.o.trans e2);have az:=ai (ax.o.ext e2);clear e2 aG aI aQ fE iX;go_wp2_with fail;go_wp2_with fail;refine aE [.val (.slice vo n cap),.ch,.val (.pointer (some ⟨w.heap.size,4,none⟩)),.val (.agg #[.slice da m dc]),.ev (.tuple #[.string ((ld (bH n p) t m).1),.int .i64 ((ld (bH n p) t m).2)]),.val (.tuple #[.string ((ld (bH n p) t m).1),.int .i64 ((ld (bH n p) t m).2)]),.val (.string ((ld (bH n p) t m).1)),.val (.int .i64 ((ld (bH n p) t m).2)),.val (.string ((ld (bH n p) t m).1)),.val (.int .i64 ((ld (bH n p) t m).2))] (fun L g W=>L 1=true->∃ vr vc va,g 1 = .agg #[.int .i64 4,vr,vc]/\PM (bH n p) W vr vc va) (S:=fun _=>False) ag ag ag (Mv.refl aM.o (fun k h=>h.elim)) ?_ ?_ ?_ ?_ (fun fI w3 aK bW=>?_)
  ·exact fun g h=>absurd h af
  ·exact fun L g W W1 h e a=>let ⟨b,x,y,z,u⟩:=h a;⟨b,x,y,z,u.ext e⟩
  ·intro i v L g W hi h;have AI:i≠1:=gJ hi rfl;have Gc:i≠4:=gJ hi rfl;simp only[bB AI,bE AI,bB Gc,bE Gc];exact h
  ·skip
   refine RI 0 (.slice vo n cap) ?_;refine aN.cons (fun L_ g_ A_ W_ aw=>?_) ?_
   ·have C8:=aw.val 0;refine fl.ch fun K_ aL=>?_;have AI:=aw.not;have e_:=aw.e;simp only[AI,aj,if_false,if_true] at e_;clear AI;have a8:=ai e_;have bU:=ai aw.mv;clear e_;go_simp;refine(I8 vo n cap p _ (HG.o.ext bU.o.ext) (HL.o.ext bU.o.ext) (fun i hi=>(HQ.o i hi).vb) hn).mono ?_;rintro e jG ⟨Ra,Re,V7,GD,ft,LN⟩;replace GD:e = .returned (.agg #[.int .i64 4,Ra,Re]):=GD;subst GD;exact aL.o _ jG (bU.o.trans ft) (by simp only[bS,cT,aj,if_false,if_true];exact fun _=>⟨Ra,Re,V7,rfl,LN⟩)
   refine RI 3 (.pointer (some ⟨w.heap.size,0,none⟩))<|J2 (fun aw=>aw.val 2) (fun aw=>(aw.mv.aH az.o (fun h=>h)).cell 4 rfl) ?_;refine aN.cons (fun L_ g_ A_ W_ aw=>?_) ?_
   ·have Ng:=aw.ch 1;have qaY:=aw.val 3;refine fl.ev fun K_ aL=>?_;obtain⟨Ra,Re,V7,fZ,LN⟩:=aw.e (aw.yes 1 ag);rw[fZ] at Ng;have yA:=ai fZ;have Vr:=ai LN;have bU:=ai aw.mv;clear fZ LN;go_simp;refine(Ed (HG.o.ext bU.o.ext) Vr.o HQ.o hn (HT.o.ext bU.o.ext) Y4.o hm Ht.o HZ.o).mono ?_;rintro e jG ⟨rfl,ft⟩;exact aL.o _ (bU.o.trans ft) (by simp only[cd 4 1,cf 4 1];exact fun _=>⟨Ra,Re,V7,yA.o,Vr.o.ext ft⟩)
   exact J1 (fun aw=>aw.ev 4)<|R1 5<|R1 5<|R1 6<|R1 7<|aN.nil
  simp only[gm,Ke.value,b7,Act.put,aq,au,av,Nat.reduceAdd];have bA:Hid (Ext w w3):=ai aK.ext;have aA:=ai (aK.aH az.o (fun h=>h));clear aK bW;go_upto_region 5 with fail
  by_cases hb:(ld (bH n p) t m).2≠0
  ·have jh:¬ (ld (bH n p) t m).2=0:=hb;go_wp2;go_ret;exact⟨by rw[x6,if_pos gT.o,if_pos hb];rfl,bA.o⟩
  ·have hb:=Classical.not_not.1 hb;have jh:(ld (bH n p) t m).2=0:=hb;have aG:=aA.o.cell 0 rfl;have aI:=aA.o.cell 1 rfl;have aQ:=aA.o.cell 2 rfl;have fE:=aA.o.cell 3 rfl;have iX:=aA.o.cell 4 rfl;go_wp2_with fail;refine(rZ (HG.o.ext (bA.o)) (HL.o.ext bA.o) (fun i hi=>(HQ.o i hi).vb) hn (HF.o.pP iI.o kf.o jl.o)).mono ?_;rintro e w4 ⟨v_,rfl,e4,rD⟩;obtain⟨la,lc,rfl⟩:=rD.yd;obtain⟨_,_,G1,_,_,nV⟩:=rD.rd;cases G1;have bO:=ai (bA.o.trans e4);have aJ:=ai (aA.o.ext e4);clear e4 aG aI aQ fE iX;have TC:=ai nV;clear nV rD;have nJ:Hid (Fr w4 w4):=ai (Fr.refl _);have Ca:Hid (∀ i,i<n->QB 90 (cS p (yq s) i)):=ai (fun i hi=>lB (HQ.o i hi).vb (fun j hj=>(HF.o.pP iI.o kf.o jl.o j hj).2));go_wp2_with fail;go_loopw [32,8] (fun bY qU wx=>∃ k:Nat,bY = .int .i64 k/\qU = .string (qs (qz (cS p (yq s)) k))/\k<=n/\Hid (Ext w wx/\ay wx (w.heap.size) (#[.string (s 0),.string (s 1),.string (s 2),.string mo,.slice da m dc]) 60/\Fr w4 wx)) (fun bY _ _=>n-(intOf bY).toNat)
   case atStart=>exact⟨0,rfl,by rw[qz,df],Nat.zero_le _,ai ⟨bO.o,aJ.o,nJ.o⟩⟩
   case round =>
    rename World=>w5
    obtain⟨k,rfl,rfl,mg,HH⟩:=hrel;have cX:=ai HH.o.1;have aT:=ai HH.o.2.1;have pZ:=ai HH.o.2.2;clear HH;by_cases aP:k<n
    ·have fj:(k:Int)<((n:Nat):Int):=ae;obtain⟨ra,rfl,Cl⟩:=TC.o k aP;have BO:=ai Cl;clear Cl;have Hb:=aC pZ.o.out (BO.o);go_wp2_with fail;refine cto (sO (cS p (yq s) k) _ (Ca.o k aP) af) fun w6 e6=>?_
     have gd:=ai (cX.o.trans e6);have bC:=ai (aT.o.ext e6);have P5:=ai (pZ.o.ext e6);clear e6 Hb;go_wp2_with fail;refine cto (FT (qz (cS p (yq s)) k) (oe (cS p (yq s) k)) _ (HG.o.ext (gd.o)) (AK Ca.o mg) (Ca.o k aP).abs af af) fun w7 e7=>?_
     have ig:=ai (gd.o.trans e7);have cg:=ai (bC.o.ext e7);have qdw:=ai (P5.o.ext e7);clear e7;go_wp2_with fail;go_roundw
     case rel=>exact⟨k+1,by go_num,rfl,ae,ai ⟨ig.o,cg.o,qdw.o⟩⟩
     case measure=>simp[intOf];omega
    ·have eY:k=n:=ae;have kx:¬ (k:Int)<((n:Nat):Int):=ae;obtain rfl:n=k:=eY.symm;go_upto_region 13 with fail
     have QE:=ai hb;clear hb jh;by_cases h1:(ld (bH n p) t m).1=mo
     ·have z1:=gW h1;have Ig:=ai h1;clear h1;by_cases h2:qs (qz (cS p (yq s)) n)=mo
      ·have z2:=gW h2;have yC:=ai h2;clear h2;have fE:=aT.o.cell 3 rfl;go_wp2;go_ret;exact⟨by rw[x6,if_pos gT.o,if_neg (fun h=>h QE.o),if_pos ⟨Ig.o,yC.o⟩];rfl,cX.o⟩
      ·have z2:=iN h2;have yC:=ai h2;clear h2;have fE:=aT.o.cell 3 rfl;go_wp2;go_ret;exact⟨by rw[x6,if_pos gT.o,if_neg (fun h=>h QE.o),if_neg (fun h=>yC.o h.2)];rfl,cX.o⟩
     ·have z1:=iN h1;have Ig:=ai h1;clear h1;by_cases h2:qs (qz (cS p (yq s)) n)=mo
      ·have z2:=gW h2;have yC:=ai h2;clear h2;have fE:=aT.o.cell 3 rfl;go_wp2;go_ret;exact⟨by rw[x6,if_pos gT.o,if_neg (fun h=>h QE.o),if_neg (fun h=>Ig.o h.1)];rfl,cX.o⟩
      ·have z2:=iN h2;have yC:=ai h2;clear h2;have fE:=aT.o.cell 3 rfl;go_wp2;go_ret;exact⟨by rw[x6,if_pos gT.o,if_neg (fun h=>h QE.o),if_neg (fun h=>yC.o h.2)];rfl,cX.o⟩
theorem Dt(vo:Option Addr)(n cap:Nat)(p:Nat->V3)(w:World)(g:Gd w)(hl:qK w vo n p)(hq:∀ i,i<n->cZ (p i))(dX:0<n)(hn:n<=60)(s:Nat->ByteArray)(mo:ByteArray)(da:Option Addr)(m dc:Nat)(hf:Q3 s mo)(t:Nat->ByteArray)(hT:Rs w (.slice da m dc) m t)(DE:∀ i,i<m->(t i).size<=1000000)(hm:m<=1000000)(htq:LY t m 200)(hz:YZ (bH n p) (yq t)):Calls prog 36 #[.slice vo n cap,.agg #[.string (s 0),.string (s 1),.string (s 2),.string mo,.slice da m dc]] w (aZ w (.int .i64 (x6 n p s mo t m))):=by
 have HG:=ai g;have HL:=ai hl;have HQ:=ai hq;have HF:=ai hf;have HT:=ai hT;have Y4:=ai DE;have Ht:=ai htq;have HZ:=ai hz;clear g hl hq hf hT DE htq hz;have L4:=ai (A4 HQ.o dX hn);go_enter func36,ntmps36;go_wp2_with fail;refine((L4.o▸Sq vo n cap (fun k=>vt (p k)) _ rfl _ (HG.o.ext (((Ext.refl w).alloc _))) (Hq.ext HL.o ((Ext.refl w).alloc _)) (fun k hk=>Co (HQ.o k hk).vb af) ae)).mono ?_;rintro e w1 ⟨rfl,e1⟩;have aD:Hid (Ext w w1):=ai (((Ext.refl w).alloc _).trans e1);have ax:Hid (ay w1 (w.heap.size) (#[.string (s 0),.string (s 1),.string (s 2),.string mo,.slice da m dc]) 60):=ai (((ay.nw (#[.string (s 0),.string (s 1),.string (s 2),.string mo,.slice da m dc]) 60)).ext e1);have aF:Hid (w.heap.size<=w.heap.size):=ai (Nat.le_refl _);clear e1;go_upto_region 4 with fail
 rcases DU s mo with⟨e_,r0_,te_⟩|⟨e_,r0_,iD,te_⟩|⟨e_,r0_,iD,r2_,te_⟩|⟨e_,r0_,iD,r2_,r3_,te_⟩|⟨e_,r0_,iD,r2_,r3_,te_⟩
 ·have gT:=ai e_;have pI:=ai te_;have iI:=ai r0_;clear e_ r0_ te_;have aG:=ax.o.cell 0 rfl;go_wp2_with fail;refine cto (eC _ _ (HG.o.ext (aD.o)) (HF.o.sz 0 af) iI.o) fun w2 e2=>?_
  have aM:=ai (aD.o.trans e2);have az:=ai (ax.o.ext e2);clear e2 aG;go_wp2;go_ret;exact⟨by rw[x6,if_neg (by rw[gT.o];decide)];rfl,aM.o⟩
 ·have gT:=ai e_;have pI:=ai te_;have iI:=ai r0_;have kf:=ai iD;clear e_ r0_ iD te_;have aG:=ax.o.cell 0 rfl;go_wp2_with fail;refine cto (bJ _ _ (HG.o.ext (aD.o)) (HF.o.sz 0 af) iI.o) fun w2 e2=>?_
  have aM:=ai (aD.o.trans e2);have az:=ai (ax.o.ext e2);clear e2 aG;have aI:=az.o.cell 1 rfl;go_wp2_with fail;refine cto (eC _ _ (HG.o.ext (aM.o)) (HF.o.sz 1 af) kf.o) fun w3 e3=>?_
  have bA:=ai (aM.o.trans e3);have aA:=ai (az.o.ext e3);clear e3 aI;go_wp2;go_ret;exact⟨by rw[x6,if_neg (by rw[gT.o];decide)];rfl,bA.o⟩
 ·have gT:=ai e_;have pI:=ai te_;have iI:=ai r0_;have kf:=ai iD;have jl:=ai r2_;clear e_ r0_ iD r2_ te_;have aG:=ax.o.cell 0 rfl;go_wp2_with fail;refine cto (bJ _ _ (HG.o.ext (aD.o)) (HF.o.sz 0 af) iI.o) fun w2 e2=>?_
  have aM:=ai (aD.o.trans e2);have az:=ai (ax.o.ext e2);clear e2 aG;have aI:=az.o.cell 1 rfl;go_wp2_with fail;refine cto (bJ _ _ (HG.o.ext (aM.o)) (HF.o.sz 1 af) kf.o) fun w3 e3=>?_
  have bA:=ai (aM.o.trans e3);have aA:=ai (az.o.ext e3);clear e3 aI;have aQ:=aA.o.cell 2 rfl;go_wp2_with fail;refine cto (eC _ _ (HG.o.ext (bA.o)) (HF.o.sz 2 af) jl.o) fun w4 e4=>?_
  have bO:=ai (bA.o.trans e4);have aJ:=ai (aA.o.ext e4);clear e4 aQ;go_wp2;go_ret;exact⟨by rw[x6,if_neg (by rw[gT.o];decide)];rfl,bO.o⟩
 ·have gT:=ai e_;have pI:=ai te_;have iI:=ai r0_;have kf:=ai iD;have jl:=ai r2_;have uO:=ai r3_;clear e_ r0_ iD r2_ r3_ te_;have aG:=ax.o.cell 0 rfl;go_wp2_with fail;refine cto (bJ _ _ (HG.o.ext (aD.o)) (HF.o.sz 0 af) iI.o) fun w2 e2=>?_
  have aM:=ai (aD.o.trans e2);have az:=ai (ax.o.ext e2);clear e2 aG;have aI:=az.o.cell 1 rfl;go_wp2_with fail;refine cto (bJ _ _ (HG.o.ext (aM.o)) (HF.o.sz 1 af) kf.o) fun w3 e3=>?_
  have bA:=ai (aM.o.trans e3);have aA:=ai (az.o.ext e3);clear e3 aI;have aQ:=aA.o.cell 2 rfl;go_wp2_with fail;refine cto (bJ _ _ (HG.o.ext (bA.o)) (HF.o.sz 2 af) jl.o) fun w4 e4=>?_
  have bO:=ai (bA.o.trans e4);have aJ:=ai (aA.o.ext e4);clear e4 aQ;have fE:=aJ.o.cell 3 rfl;go_wp2_with fail;refine cto (eC _ _ (HG.o.ext (bO.o)) HF.o.mo uO.o) fun w5 e5=>?_
  have cX:=ai (bO.o.trans e5);have aT:=ai (aJ.o.ext e5);clear e5 fE;go_wp2;go_ret;exact⟨by rw[x6,if_neg (by rw[gT.o];decide)];rfl,cX.o⟩
 ·have gT:=ai e_;have pI:=ai te_;have iI:=ai r0_;have kf:=ai iD;have jl:=ai r2_;have uO:=ai r3_;clear e_ r0_ iD r2_ r3_ te_;have aG:=ax.o.cell 0 rfl;go_wp2_with fail;refine cto (bJ _ _ (HG.o.ext (aD.o)) (HF.o.sz 0 af) iI.o) fun w2 e2=>?_
  have aM:=ai (aD.o.trans e2);have az:=ai (ax.o.ext e2);clear e2 aG;have aI:=az.o.cell 1 rfl;go_wp2_with fail;refine cto (bJ _ _ (HG.o.ext (aM.o)) (HF.o.sz 1 af) kf.o) fun w3 e3=>?_
  have bA:=ai (aM.o.trans e3);have aA:=ai (az.o.ext e3);clear e3 aI;have aQ:=aA.o.cell 2 rfl;go_wp2_with fail;refine cto (bJ _ _ (HG.o.ext (bA.o)) (HF.o.sz 2 af) jl.o) fun w4 e4=>?_
  have bO:=ai (bA.o.trans e4);have aJ:=ai (aA.o.ext e4);clear e4 aQ;have fE:=aJ.o.cell 3 rfl;go_wp2_with fail;refine cto (bJ _ _ (HG.o.ext (bO.o)) HF.o.mo uO.o) fun w5 e5=>?_
  have cX:=ai (bO.o.trans e5);have aT:=ai (aJ.o.ext e5);clear e5 fE;go_wp2_with fail;go_wp2_with fail;refine aE [.val (.slice vo n cap),.ch,.val (.pointer (some ⟨w.heap.size,4,none⟩)),.val (.agg #[.slice da m dc]),.ev (.tuple #[.string ((ld (bH n p) t m).1),.int .i64 ((ld (bH n p) t m).2)]),.val (.tuple #[.string ((ld (bH n p) t m).1),.int .i64 ((ld (bH n p) t m).2)]),.val (.string ((ld (bH n p) t m).1)),.val (.int .i64 ((ld (bH n p) t m).2)),.val (.string ((ld (bH n p) t m).1)),.val (.int .i64 ((ld (bH n p) t m).2))] (fun L g W=>L 1=true->∃ vr vc va,g 1 = .agg #[.int .i64 4,vr,vc]/\PM (bH n p) W vr vc va) (S:=fun _=>False) ag ag ag (Mv.refl cX.o (fun k h=>h.elim)) ?_ ?_ ?_ ?_ (fun fI w6 aK bW=>?_)
  ·exact fun g h=>absurd h af
  ·exact fun L g W W1 h e a=>let ⟨b,x,y,z,u⟩:=h a;⟨b,x,y,z,u.ext e⟩
  ·intro i v L g W hi h;have AI:i≠1:=gJ hi rfl;have Gc:i≠4:=gJ hi rfl;simp only[bB AI,bE AI,bB Gc,bE Gc];exact h
  ·skip
   refine RI 0 (.slice vo n cap) ?_;refine aN.cons (fun L_ g_ A_ W_ aw=>?_) ?_
   ·have RY:=aw.val 0;refine fl.ch fun K_ aL=>?_;have AI:=aw.not;have e_:=aw.e;simp only[AI,aj,if_false,if_true] at e_;clear AI;have a8:=ai e_;have bU:=ai aw.mv;clear e_;go_simp;refine(Sp vo n cap p _ (HG.o.ext bU.o.ext) (HL.o.ext bU.o.ext) (fun i hi=>(HQ.o i hi).vb) hn).mono ?_;rintro e jG ⟨Ra,Re,V7,GD,ft,LN⟩;replace GD:e = .returned (.agg #[.int .i64 4,Ra,Re]):=GD;subst GD;exact aL.o _ jG (bU.o.trans ft) (by simp only[bS,cT,aj,if_false,if_true];exact fun _=>⟨Ra,Re,V7,rfl,LN⟩)
   refine RI 3 (.pointer (some ⟨w.heap.size,0,none⟩))<|J2 (fun aw=>aw.val 2) (fun aw=>(aw.mv.aH aT.o (fun h=>h)).cell 4 rfl) ?_;refine aN.cons (fun L_ g_ A_ W_ aw=>?_) ?_
   ·have RX:=aw.ch 1;have qaT:=aw.val 3;refine fl.ev fun K_ aL=>?_;obtain⟨Ra,Re,V7,fZ,LN⟩:=aw.e (aw.yes 1 ag);rw[fZ] at RX;have yA:=ai fZ;have Vr:=ai LN;have bU:=ai aw.mv;clear fZ LN;go_simp;refine(Ed (HG.o.ext bU.o.ext) Vr.o HQ.o hn (HT.o.ext bU.o.ext) Y4.o hm Ht.o HZ.o).mono ?_;rintro e jG ⟨rfl,ft⟩;exact aL.o _ (bU.o.trans ft) (by simp only[cd 4 1,cf 4 1];exact fun _=>⟨Ra,Re,V7,yA.o,Vr.o.ext ft⟩)
   exact J1 (fun aw=>aw.ev 4)<|R1 5<|R1 5<|R1 6<|R1 7<|aN.nil
  simp only[gm,Ke.value,b7,Act.put,aq,au,av,Nat.reduceAdd];have gd:Hid (Ext w w6):=ai aK.ext;have bC:=ai (aK.aH aT.o (fun h=>h));clear aK bW;go_upto_region 7 with fail
  by_cases hb:(ld (bH n p) t m).2≠0
  ·have jh:¬ (ld (bH n p) t m).2=0:=hb;go_wp2;go_ret;exact⟨by rw[x6,if_pos gT.o,if_pos hb];rfl,gd.o⟩
  ·have hb:=Classical.not_not.1 hb;have jh:(ld (bH n p) t m).2=0:=hb;go_upto_region 9 with fail
   have QE:=ai hb;clear hb jh;by_cases h1:(ld (bH n p) t m).1=mo
   ·have z1:=gW h1;have Ig:=ai h1;clear h1;by_cases h2:qs (qz (cS p (yq s)) n)=mo
    ·have z2:=gW h2;have yC:=ai h2;clear h2;go_wp2_with fail;go_wp2_with fail;refine aE [.val (.string ((ld (bH n p) t m).1)),.val (.pointer (some ⟨w.heap.size,3,none⟩)),.val (.string mo),.val (.bool false),.val (.bool false),.val (.slice vo n cap),.val (.agg #[.string (s 0),.string (s 1),.string (s 2),.string mo,.slice da m dc]),.ch,.ev (.string (qs (qz (cS p (yq s)) n))),.val (.pointer (some ⟨w.heap.size,3,none⟩)),.val (.string mo),.val (.bool false),.val (.bool false)] (fun L g W=>L 7=true->∃ la lc,g 7 = .slice la n lc/\∀ i,i<n->∃ a,la=some a/\W.cell? (a.add i)=some (.string (qs (cS p (yq s) i)))) (S:=fun _=>False) ag ag ag (Mv.refl gd.o (fun k h=>h.elim)) ?_ ?_ ?_ ?_ (fun fI w7 aK bW=>?_)
     ·exact fun g h=>absurd h af
     ·exact fun L g W W1 h e a=>let ⟨b,x,y,z⟩:=h a;⟨b,x,y,fun i hi=>let ⟨a,h1,h2⟩:=z i hi;⟨a,h1,aC e h2⟩⟩
     ·intro i v L g W hi h;have k5:i≠7:=gJ hi rfl;have nT:i≠8:=gJ hi rfl;simp only[bB k5,bE k5,bB nT,bE nT];exact h
     ·skip
      refine RI 6 (.string ((ld (bH n p) t m).1))<|RI 3 (.pointer (some ⟨w.heap.size,0,none⟩))<|J2 (fun aw=>aw.val 1) (fun aw=>(aw.mv.aH bC.o (fun h=>h)).cell 3 rfl)<|R2 0 2<|R1 3<|RI 0 (.slice vo n cap) ?_;refine RV (fun A_ aw K_ aL=>?_) ?_;· have Z6:=aw.is 3 (.pointer (some ⟨w.heap.size,0,none⟩));have aG:=(aw.mv.aH bC.o (fun h=>h)).cell 0 rfl;have aI:=(aw.mv.aH bC.o (fun h=>h)).cell 1 rfl;have aQ:=(aw.mv.aH bC.o (fun h=>h)).cell 2 rfl;have fE:=(aw.mv.aH bC.o (fun h=>h)).cell 3 rfl;have iX:=(aw.mv.aH bC.o (fun h=>h)).cell 4 rfl;go_simp;exact du aL
      refine aN.cons (fun L_ g_ A_ W_ aw=>?_) ?_
      ·have RW:=aw.val 5;have WJ:=aw.val 6;refine fl.ch fun K_ aL=>?_;have k5:=aw.not;have e_:=aw.e;simp only[k5,aj,if_false,if_true] at e_;clear k5;have a8:=ai e_;have bU:=ai aw.mv;clear e_;go_simp;refine(rM (HG.o.ext bU.o.ext) (HL.o.ext bU.o.ext) (fun i hi=>(HQ.o i hi).vb) hn (HF.o.pP iI.o kf.o jl.o)).mono ?_;rintro e jG ⟨v_,rfl,ft,rD⟩;obtain⟨s5,Su,rfl⟩:=rD.yd;obtain⟨_,_,G1,_,_,nV⟩:=rD.rd;cases G1;exact aL.o _ jG (bU.o.trans ft) (by simp only[bS,cT,aj,if_false,if_true];exact fun _=>⟨s5,Su,rfl,nV⟩)
      refine aN.cons (fun L_ g_ A_ W_ aw=>?_) ?_
      ·have F1:=aw.ch 7;refine fl.ev fun K_ aL=>?_;obtain⟨s5,Su,fZ,nV⟩:=aw.e (aw.yes 7 ag);rw[fZ] at F1;have yA:=ai fZ;have HC_:=ai nV;have bU:=ai aw.mv;clear fZ nV;go_simp;refine(IS s5 n Su (cS p (yq s)) _ (HG.o.ext bU.o.ext) HC_.o (fun i hi=>lB (HQ.o i hi).vb (fun j hj=>(HF.o.pP iI.o kf.o jl.o j hj).2)) ae).mono ?_;rintro e jG ⟨rfl,ft⟩;exact aL.o _ (bU.o.trans ft) (by simp only[cd 8 7,cf 8 7];exact fun _=>⟨s5,Su,yA.o,fun i hi=>let ⟨a,h1,h2⟩:=HC_.o i hi;⟨a,h1,aC ft h2⟩⟩)
      exact RI 3 (.pointer (some ⟨w.heap.size,0,none⟩))<|J2 (fun aw=>aw.val 9) (fun aw=>(aw.mv.aH bC.o (fun h=>h)).cell 3 rfl)<|J2 (fun aw=>aw.ev 8) (fun aw=>aw.val 10)<|R2 4 11<|aN.nil
     simp only[gm,Ke.value,b7,Act.put,aq,au,av,Nat.reduceAdd];have ig:Hid (Ext w w7):=ai aK.ext;clear aK bW;go_wp2;go_ret;exact⟨by rw[x6,if_pos gT.o,if_neg (fun h=>h QE.o),if_pos ⟨Ig.o,yC.o⟩];rfl,ig.o⟩
    ·have z2:=iN h2;have yC:=ai h2;clear h2;go_wp2_with fail;go_wp2_with fail;refine aE [.val (.string ((ld (bH n p) t m).1)),.val (.pointer (some ⟨w.heap.size,3,none⟩)),.val (.string mo),.val (.bool false),.val (.bool false),.val (.slice vo n cap),.val (.agg #[.string (s 0),.string (s 1),.string (s 2),.string mo,.slice da m dc]),.ch,.ev (.string (qs (qz (cS p (yq s)) n))),.val (.pointer (some ⟨w.heap.size,3,none⟩)),.val (.string mo),.val (.bool true),.val (.bool true)] (fun L g W=>L 7=true->∃ la lc,g 7 = .slice la n lc/\∀ i,i<n->∃ a,la=some a/\W.cell? (a.add i)=some (.string (qs (cS p (yq s) i)))) (S:=fun _=>False) ag ag ag (Mv.refl gd.o (fun k h=>h.elim)) ?_ ?_ ?_ ?_ (fun fI w7 aK bW=>?_)
     ·exact fun g h=>absurd h af
     ·exact fun L g W W1 h e a=>let ⟨b,x,y,z⟩:=h a;⟨b,x,y,fun i hi=>let ⟨a,h1,h2⟩:=z i hi;⟨a,h1,aC e h2⟩⟩
     ·intro i v L g W hi h;have k5:i≠7:=gJ hi rfl;have nT:i≠8:=gJ hi rfl;simp only[bB k5,bE k5,bB nT,bE nT];exact h
     ·skip
      refine RI 6 (.string ((ld (bH n p) t m).1))<|RI 3 (.pointer (some ⟨w.heap.size,0,none⟩))<|J2 (fun aw=>aw.val 1) (fun aw=>(aw.mv.aH bC.o (fun h=>h)).cell 3 rfl)<|R2 0 2<|R1 3<|RI 0 (.slice vo n cap) ?_;refine RV (fun A_ aw K_ aL=>?_) ?_;· have Z6:=aw.is 3 (.pointer (some ⟨w.heap.size,0,none⟩));have aG:=(aw.mv.aH bC.o (fun h=>h)).cell 0 rfl;have aI:=(aw.mv.aH bC.o (fun h=>h)).cell 1 rfl;have aQ:=(aw.mv.aH bC.o (fun h=>h)).cell 2 rfl;have fE:=(aw.mv.aH bC.o (fun h=>h)).cell 3 rfl;have iX:=(aw.mv.aH bC.o (fun h=>h)).cell 4 rfl;go_simp;exact du aL
      refine aN.cons (fun L_ g_ A_ W_ aw=>?_) ?_
      ·have RW:=aw.val 5;have WJ:=aw.val 6;refine fl.ch fun K_ aL=>?_;have k5:=aw.not;have e_:=aw.e;simp only[k5,aj,if_false,if_true] at e_;clear k5;have a8:=ai e_;have bU:=ai aw.mv;clear e_;go_simp;refine(rM (HG.o.ext bU.o.ext) (HL.o.ext bU.o.ext) (fun i hi=>(HQ.o i hi).vb) hn (HF.o.pP iI.o kf.o jl.o)).mono ?_;rintro e jG ⟨v_,rfl,ft,rD⟩;obtain⟨s5,Su,rfl⟩:=rD.yd;obtain⟨_,_,G1,_,_,nV⟩:=rD.rd;cases G1;exact aL.o _ jG (bU.o.trans ft) (by simp only[bS,cT,aj,if_false,if_true];exact fun _=>⟨s5,Su,rfl,nV⟩)
      refine aN.cons (fun L_ g_ A_ W_ aw=>?_) ?_
      ·have F1:=aw.ch 7;refine fl.ev fun K_ aL=>?_;obtain⟨s5,Su,fZ,nV⟩:=aw.e (aw.yes 7 ag);rw[fZ] at F1;have yA:=ai fZ;have HC_:=ai nV;have bU:=ai aw.mv;clear fZ nV;go_simp;refine(IS s5 n Su (cS p (yq s)) _ (HG.o.ext bU.o.ext) HC_.o (fun i hi=>lB (HQ.o i hi).vb (fun j hj=>(HF.o.pP iI.o kf.o jl.o j hj).2)) ae).mono ?_;rintro e jG ⟨rfl,ft⟩;exact aL.o _ (bU.o.trans ft) (by simp only[cd 8 7,cf 8 7];exact fun _=>⟨s5,Su,yA.o,fun i hi=>let ⟨a,h1,h2⟩:=HC_.o i hi;⟨a,h1,aC ft h2⟩⟩)
      exact RI 3 (.pointer (some ⟨w.heap.size,0,none⟩))<|J2 (fun aw=>aw.val 9) (fun aw=>(aw.mv.aH bC.o (fun h=>h)).cell 3 rfl)<|J2 (fun aw=>aw.ev 8) (fun aw=>aw.val 10)<|R2 4 11<|aN.nil
     simp only[gm,Ke.value,b7,Act.put,aq,au,av,Nat.reduceAdd];have ig:Hid (Ext w w7):=ai aK.ext;clear aK bW;go_wp2;go_ret;exact⟨by rw[x6,if_pos gT.o,if_neg (fun h=>h QE.o),if_neg (fun h=>yC.o h.2)];rfl,ig.o⟩
   ·have z1:=iN h1;have Ig:=ai h1;clear h1;go_wp2_with fail;go_wp2_with fail;refine aE [.val (.string ((ld (bH n p) t m).1)),.val (.pointer (some ⟨w.heap.size,3,none⟩)),.val (.string mo),.val (.bool true),.val (.bool true),.off,.off,.off,.off,.off,.off,.off,.val (.bool true)] (fun L g W=>True) (S:=fun _=>False) ag ag ag (Mv.refl gd.o (fun k h=>h.elim)) ?_ ?_ ?_ ?_ (fun fI w7 aK bW=>?_)
    ·exact fun _=>trivial
    ·exact fun _ _ _ _ h _=>h
    ·exact fun _ _ _ _ _ _ h=>h
    ·skip
     exact RI 6 (.string ((ld (bH n p) t m).1))<|RI 3 (.pointer (some ⟨w.heap.size,0,none⟩))<|J2 (fun aw=>aw.val 1) (fun aw=>(aw.mv.aH bC.o (fun h=>h)).cell 3 rfl)<|R2 0 2<|R1 3<|RO<|RO<|RO<|RO<|RO<|RO<|RO<|J2 (fun aw=>aw.val 4) (fun aw=>aw.un 11)<|aN.nil
    simp only[gm,Ke.value,b7,Act.put,aq,au,av];have ig:Hid (Ext w w7):=ai aK.ext;clear aK bW;go_wp2;go_ret;exact⟨by rw[x6,if_pos gT.o,if_neg (fun h=>h QE.o),if_neg (fun h=>Ig.o h.1)];rfl,ig.o⟩
def Y0(w:World)(wo:Option Addr)(m:Nat)(c:Nat->Nat->Int):Prop:=∀ i,i<m->∃ wa o,wo=some ⟨wa,o,none⟩/\∀ j,j<3->w.cell? ⟨wa,o+i*3+j,none⟩=some (.int .i8 (c i j))
theorem Y0.ext{w w':World}{wo:Option Addr}{m:Nat}{c:Nat->Nat->Int}(h:Y0 w wo m c)(e:Ext w w'):Y0 w' wo m c:=fun i hi=>let ⟨wa,o,a,b⟩:=h i hi;⟨wa,o,a,fun j hj=>aC e (b j hj)⟩
def l6(c:Nat->Nat->Int)(i:Nat):V3:=xY (c i 0) (c i 1) (c i 2)
theorem dP(c:Nat->Nat->Int)(i:Nat):cZ (l6 c i):=⟨⟨_,rfl,sJ _⟩,⟨_,rfl,sJ _⟩,⟨_,rfl,sJ _⟩⟩
def h3(a0 a1 a2:Value)(i:Nat):Value:=if i=0 then a0 else if i=1 then a1 else a2
def vG(p:Nat->V3)(i:Nat):Value:=h3 (.string (qs (p (i / 3)).x)) (.string (qs (p (i / 3)).y)) (.string (qs (p (i / 3)).z)) (i % 3)
section
variable {X w W w':World} {b n:Nat} {p:Nat->V3} {v v':Value}
theorem qfC{t:TypeId}{a0 a1 a2:Value}(h:ay w b #[a0,a1,a2] t):∀ j,j<1*3->w.cell? ((⟨b,0,none⟩:Addr).add j)=some (h3 a0 a1 a2 j):=fun j hj=>by
 rcases (by omega:j=0∨j=1∨j=2) with rfl|rfl|rfl <;> exact ie h rfl
theorem qfZ{a b c:ByteArray}:∀ j,j<1*3->(h3 (.string a) (.string b) (.string c) j).oneCell'=true:=fun j hj=>by
 rcases (by omega:j=0∨j=1∨j=2) with rfl|rfl|rfl <;> rfl
theorem Rb(h:App X w 67 3 v n 1 (vG p) (h3 (.string (qs (p n).x)) (.string (qs (p n).y)) (.string (qs (p n).z))) v' w'):cD X w' 67 3 v' (n+1) (vG p) :=
 h.own.congr fun i hi=>by
  by_cases h1:i<n*3
  ·rw[jF h1]
  ·rw[gM h1,vG,show i / 3=n by omega,show i % 3=i-n*3 by omega]
theorem WT(h:cD X w 67 3 v n (vG p)):∃ ao cap,v = .slice ao n cap/\n<=cap/\qK w ao n p:=by
 rcases h with⟨rfl,rfl⟩|⟨k,cap,C,rfl,_,hB,hcp,_,_,hc⟩
 ·exact⟨none,0,rfl,Nat.le_refl _,fun i hi=>absurd hi (Nat.not_lt_zero i)⟩
 ·refine⟨_,cap,rfl,hcp,fun i hi=>⟨k,0,rfl,?_,?_,?_⟩⟩
  ·have:=hB.cell (0+i*3) (hc _ ae);rwa[vG,show(0+i*3) / 3=i by omega,show(0+i*3) % 3=0 by omega] at this
  ·have:=hB.cell (0+i*3+1) (hc _ ae);rwa[vG,show(0+i*3+1) / 3=i by omega,show(0+i*3+1) % 3=1 by omega] at this
  ·have:=hB.cell (0+i*3+2) (hc _ ae);rwa[vG,show(0+i*3+2) / 3=i by omega,show(0+i*3+2) % 3=2 by omega] at this
theorem Rh:prog.underlying 55=some (.slice 67):=ag
theorem Xo:(prog.info? 67).map (fun i=>(i.zero,i.size,i.bytes))=some (some (.agg #[.string ⟨#[]⟩,.string ⟨#[]⟩,.string ⟨#[]⟩]),3,48):=ag
end
def VLP(n:Nat)(p:Nat->V3)(w:World)(e:Ending)(w':World):Prop:=∃ ao cap,e = .returned (.slice ao n cap)/\Ext w w'/\n<=cap/\qK w' ao n p
theorem KK(wo:Option Addr)(m j4:Nat)(c:Nat->Nat->Int)(w:World)(g:Gd w)(hw:Y0 w wo m c)(hc:∀ i j,-128<=c i j/\c i j<=127)(hm:m<=5):Calls prog 25 #[.slice wo m j4] w (VLP m (l6 c) w):=by
 have HG:=ai g;have HW:=ai hw;have HC:=ai hc;clear g hw hc;go_enter func25,ntmps25;go_wp2_with fail;have qde:Hid (cD w w 67 3 (.slice none 0 0) 0 (vG (l6 c))):=ai (cD.nil _ _ _ _ _);go_wp2_with fail;go_loopw [4,3] (fun bY qU wx=>∃ k:Nat,∃ la:Option Addr,∃ ln:Nat,∃ lc:Nat,bY = .int .i64 k/\qU = .slice la ln lc/\k<=m/\Hid (Ext w wx/\cD w wx 67 3 (.slice la ln lc) k (vG (l6 c)))) (fun bY _ _=>m-(intOf bY).toNat)
 case atStart=>exact⟨0,none,0,0,rfl,rfl,Nat.zero_le _,ai ⟨(Ext.refl w),qde.o⟩⟩
 case round =>
  rename World=>w1
  obtain⟨k,la,ln,lc,rfl,rfl,mg,HH⟩:=hrel;have aD:=ai HH.o.1;have zF:=ai HH.o.2;clear HH;by_cases aP:k<m
  ·have fj:(k:Int)<((m:Nat):Int):=ae;obtain⟨wa,o_,rfl,JX⟩:=HW.o k aP;have z0_:=JX 0 af;rw[Nat.add_zero] at z0_;have z1_:=JX 1 af;have z2_:=JX 2 af;have HC0:=ai z0_;have BU:=ai z1_;have HC2:=ai z2_;clear JX z0_ z1_ z2_;have hk5:(k:Int)<5:=ae;have yt:=aC aD.o (HC0.o);have sh:=aC aD.o (BU.o);have sg:=aC aD.o (HC2.o);go_wp2_with fail;refine cto (NI (c k 0) (c k 1) (c k 2) _ (HG.o.ext (aD.o)) (HC.o k 0) (HC.o k 1) (HC.o k 2)) fun w2 e2=>?_
   have aM:=ai (aD.o.trans e2);have xF:=ai (zF.o.ext e2);clear e2 yt sh sg;go_wp2_with (
    at_builtin;refine wpList_plain rfl fun K_ aL=>gI (X:=w) (H:=(h3 (.string (qs ((l6 c k).x))) (.string (qs ((l6 c k).y))) (.string (qs ((l6 c k).z))))) (ad:=⟨w2.heap.size,0,none⟩) (m:=1) (c:=1) (v:=.slice la ln lc) rfl rfl rfl Rh Xo rfl (aM.o.alloc _) (xF.o.alloc _) (fun _=>af) (qfC (ay.nw (#[.string (qs ((l6 c k).x)),.string (qs ((l6 c k).y)),.string (qs ((l6 c k).z))]) 67)) qfZ (by unfold maxLen;omega) ae (fun zD n3_ c3_ w3 iF=>aL _ _ ?_)
    have bA:Hid (Ext w w3):=ai iF.mv.ext;have EN:Hid (cD w w3 67 3 (.slice zD n3_ c3_) (k+1) (vG (l6 c))):=ai (Rb iF);clear iF
   )
   go_roundw
   case rel=>exact⟨k+1,_,_,_,by go_num,rfl,ae,ai ⟨bA.o,EN.o⟩⟩
   case measure=>simp[intOf];omega
  ·have eY:k=m:=ae;have kx:¬ (k:Int)<((m:Nat):Int):=ae;have QO:=(eY▸zF.o:cD w w1 67 3 (.slice la ln lc) m (vG (l6 c)))
   obtain⟨ao,cap,Lj,qgt,N9⟩:=WT QO;cases Lj;have Tz:=ai N9;clear N9 QO;go_wp2;go_ret;exact⟨_,_,rfl,aD.o,qgt,Tz.o⟩
structure IV(K:Nat)(v:V3):Prop where
 x:ZB K v.x
 y:ZB K v.y
 z:ZB K v.z
def kH(v:V3):Prop:=¬ (v.x=0/\v.y=0/\v.z=0)
theorem vY{q:Rat}(h:qL q):ZB 9 q:=by obtain⟨a,rfl,h1,h2⟩:=h;exact⟨a,rfl,ae⟩
theorem cZ.iv{v:V3}(h:cZ v):IV 9 v:=⟨vY h.x,vY h.y,vY h.z⟩
theorem ZB.q{K k:Nat}{q:Rat}(h:ZB K q)(hK:K<10 ^ k)(hk:1<=k):QB k q:=by obtain⟨a,rfl,h⟩:=h;exact QB.int ⟨ae⟩ hk
theorem IV.vb{K k:Nat}{v:V3}(h:IV K v)(hK:K<10 ^ k)(hk:1<=k):VB k v:=⟨h.x.q hK hk,h.y.q hK hk,h.z.q hK hk⟩
theorem IV.ints{K:Nat}{v:V3}(h:IV K v):∃ a b c:Int,v=⟨(a:Rat),(b:Rat),(c:Rat)⟩/\a.natAbs<=K/\b.natAbs<=K/\c.natAbs<=K:=by
 obtain⟨⟨a,ha,h1⟩,⟨b,hb,h2⟩,⟨c,hc,h3⟩⟩:=h;exact⟨a,b,c,by cases v;simp only at ha hb hc;rw[ha,hb,hc],h1,h2,h3⟩
theorem zT{K g:Nat}{a:Int}(hg:g≠0)(h:(g:Int)∣a)(ha:a.natAbs<=K):ZB K ((a:Rat)*mkRat 1 g)/\((a:Rat)*mkRat 1 g=0->a=0):=by
 obtain⟨e,rfl⟩:=h;have hg':((g:Int):Rat)≠0:=fun h=>hg (by have:=Rat.intCast_eq_zero_iff.1 h;omega)
 have:(((g:Int)*e:Int):Rat)*mkRat 1 g=(e:Rat):=by
  rw[Rat.mkRat_eq_div,Rat.intCast_mul,← Rat.intCast_natCast];grind
 rw[this];refine⟨⟨e,rfl,?_⟩,fun h=>?_⟩
 ·rw[Int.natAbs_mul] at ha;exact Nat.le_trans (Nat.le_mul_of_pos_left _ ae) ha
 ·have:e=0:=Rat.intCast_inj.1 h;rw[this];simp
theorem AN{K:Nat}{v:V3}(h:IV K v)(hz:kH v):aY v=v/\lK v≠0/\IV K (aV v)/\kH (aV v):=by
 obtain⟨a,b,c,rfl,h1,h2,h3⟩:=h.ints;have hw:aY ⟨(a:Rat),(b:Rat),(c:Rat)⟩=⟨(a:Rat),(b:Rat),(c:Rat)⟩:=by
  have:vV ⟨(a:Rat),(b:Rat),(c:Rat)⟩=1:=by simp[vV,Dh,Di,Ns]
  simp only[aY,this];simp
 have hg:lK ⟨(a:Rat),(b:Rat),(c:Rat)⟩=Int.gcd (Int.gcd (Int.gcd 0 a) b) c:=by simp[lK,R9,Sa]
 have g0:lK ⟨(a:Rat),(b:Rat),(c:Rat)⟩≠0:=fun e=>hz (by
  rw[hg] at e;obtain⟨e1,e2⟩:=Int.gcd_eq_zero_iff.1 e;obtain⟨e3,e4⟩:=Int.gcd_eq_zero_iff.1 (by simpa using e1:Int.gcd (Int.gcd 0 a) b=0);obtain⟨_,e5⟩:=Int.gcd_eq_zero_iff.1 (by simpa using e3:Int.gcd 0 a=0);subst e2 e4 e5;exact⟨rfl,rfl,rfl⟩)
 have d3:((lK ⟨(a:Rat),(b:Rat),(c:Rat)⟩:Nat):Int)∣c:=by rw[hg];exact Int.gcd_dvd_right ..
 have d12:((lK ⟨(a:Rat),(b:Rat),(c:Rat)⟩:Nat):Int)∣(Int.gcd (Int.gcd 0 a) b:Int):=by rw[hg];exact Int.gcd_dvd_left ..
 have d2:=Int.dvd_trans d12 (Int.gcd_dvd_right (Int.gcd 0 a:Int) b);have d1:=Int.dvd_trans (Int.dvd_trans d12 (Int.gcd_dvd_left (Int.gcd 0 a:Int) b)) (Int.gcd_dvd_right 0 a);have p1:=zT g0 d1 h1;have p2:=zT g0 d2 h2;have p3:=zT g0 d3 h3;refine⟨hw,g0,?_,?_⟩
 ·simp only[aV,hw];exact⟨p1.1,p2.1,p3.1⟩
 ·intro h0;simp only[aV,hw] at h0;exact hz (by rw[p1.2 h0.1,p2.2 h0.2.1,p3.2 h0.2.2];exact⟨rfl,rfl,rfl⟩)
theorem Iv(x:Rat):0<=x*x:=by
 rcases Rat.le_total (a:=0) (b:=x) with h|h
 ·exact Rat.mul_nonneg h h
 ·have:=Rat.mul_nonneg (a:=-x) (b:=-x) (by grind) (by grind);grind
theorem sq_pos{x:Rat}(h:x≠0):0<x*x:=by
 have:=Iv x;have:x*x≠0:=fun e=>(Rat.mul_eq_zero.1 e).elim h h
 grind
theorem Jq{v:V3}(h:kH v):0<eG v v:=by
 unfold eG;have a:=Iv v.x;have b:=Iv v.y;have c:=Iv v.z;by_cases hx:v.x=0
 ·by_cases hy:v.y=0
  ·have:=sq_pos (x:=v.z) (fun e=>h ⟨hx,hy,e⟩);grind
  ·have:=sq_pos hy;grind
 ·have:=sq_pos hx;grind
def jT(a n:V3):Rat:=eG a n*eG a n / (eG a a*eG n n)
def fJ(a b:V3):V3:=⟨a.y*b.z-a.z*b.y,a.z*b.x-a.x*b.z,a.x*b.y-a.y*b.x⟩
theorem O7{a n:V3}(ha:kH a)(hn:kH n):eG a a*eG n n≠0:=fun e=>by
 have h1:=Jq ha;have h2:=Jq hn;rcases Rat.mul_eq_zero.1 e with h|h <;> grind
theorem Bj{A B:Nat}{a b:V3}(ha:IV A a)(hb:IV B b):ZB (A*B+A*B+A*B) (eG a b):=((ha.x.mul hb.x).add (ha.y.mul hb.y)).add (ha.z.mul hb.z)
theorem A0{a n:V3}(ha:IV 162 a)(hn:IV 9 n)(h1:kH a)(h2:kH n):QB 8 (jT a n):=by
 have e:=O7 h1 h2;refine ZB.qb (D:=eG a a*eG n n) (G:=19131876) e (((Bj ha ha).mul (Bj hn hn)).mono af) ?_ af;have:eG a a*eG n n*jT a n=eG a n*eG a n:=by unfold jT;grind
 rw[this];exact((Bj ha hn).mul (Bj ha hn)).mono af
theorem Mw{n:Nat}{g:Nat->Rat}(h:∀ i,i<n->QB 8 (g i)):∀ k,k<=n->QB (1+k*9) (bD k g)
 | 0,_=>(QB.int (n:=0) (k:=1) ⟨af⟩ af).mono af
 | k+1,hk=>((Mw h k ae).add (h k ae)).mono ae
def jM(p:V3):V3:=if 0<p.z∨p.z=0/\(p.y<0∨p.y=0/\p.x<0) then⟨-p.x,-p.y,-p.z⟩ else p
theorem X6{K:Nat}{p:V3}(h:IV K p)(hz:kH p):IV K (jM p)/\kH (jM p):=by
 unfold jM;split
 ·exact⟨⟨h.x.neg,h.y.neg,h.z.neg⟩,fun e=>hz ⟨by have:=e.1;grind,by have:=e.2.1;grind,by have:=e.2.2;grind⟩⟩
 ·exact⟨h,hz⟩
theorem Pc{a b:V3}(ha:IV 9 a)(hb:IV 9 b):IV 162 (fJ a b):=by
 have m:∀ {p q r s:Rat},ZB 9 p->ZB 9 q->ZB 9 r->ZB 9 s->ZB 162 (p*q-r*s):=fun hp hq hr hs=>by
  rw[Rat.sub_eq_add_neg];exact((hp.mul hq).add (hr.mul hs).neg).mono af
 exact⟨m ha.y hb.z ha.z hb.y,m ha.z hb.x ha.x hb.z,m ha.x hb.y ha.y hb.x⟩
