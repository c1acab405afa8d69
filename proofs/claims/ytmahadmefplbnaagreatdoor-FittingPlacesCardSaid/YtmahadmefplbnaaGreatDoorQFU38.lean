/- Part 38. -/
import Derived.Test.YtmahadmefplbnaaGreatDoorQFUB
import Derived.Test.YtmahadmefplbnaaGreatDoorQFU37
set_option maxRecDepth 100000
set_option maxHeartbeats 2000000
set_option linter.unusedSimpArgs false
set_option linter.unusedVariables false
namespace Go.Proofs.YtmahadmefplbnaaGreatDoor
open Go Go.RowKit
def E7:Nat->V3:=fun i=>if i=0 then ⟨0,1,1⟩ else ⟨0,-1,1⟩
def CF:Nat->V3:=fun i=>if i=0 then ⟨0,0,2⟩ else ⟨3,0,4⟩
def GY:Nat->Nat:=fun i=>if i=0 then 2 else 5
def CE:V3:=⟨3 / 5,0,9 / 5⟩
theorem dj {q:Rat} (a:Int) (h:q=(a:Rat)) (h1:-9<=a/\a<=9):jQ q:=⟨a,h,h1.1,h1.2⟩
theorem At (i:Nat):bu (E7 i):=by
 unfold E7;split
 ·exact ⟨dj 0 rfl af,dj 1 rfl af,dj 1 rfl af⟩
 ·exact ⟨dj 0 rfl af,dj (-1) rfl af,dj 1 rfl af⟩
theorem E6 (i:Nat):eu (E7 i):=by unfold E7;split <;> exact fun h=>absurd h.2.2 af
theorem sF (i:Nat):bu (CF i):=by
 unfold CF;split
 ·exact ⟨dj 0 rfl af,dj 0 rfl af,dj 2 rfl af⟩
 ·exact ⟨dj 3 rfl af,dj 0 rfl af,dj 4 rfl af⟩
theorem Aq (i:Nat):eu (CF i):=by unfold CF;split <;> exact fun h=>absurd h.2.2 af
theorem wG:tz 2 CF GY:=by
 refine ⟨fun i hi=>?_,fun i hi=>?_,fun i hi=>?_⟩ <;> rcases (by omega:i=0∨i=1) with rfl|rfl <;> first|decide|kernel_rfl
theorem wF:xA 2 CF GY=CE:=ag
theorem Ao:eu CE:=fun h=>absurd h.1 (by decide +kernel)
theorem E4 {w:World} {b:Nat} (h:ak w b #[.string ⟨#[48]⟩,.string ⟨#[49]⟩,.string ⟨#[49]⟩,.string ⟨#[48]⟩,.string ⟨#[45,49]⟩,.string ⟨#[49]⟩] 67):lT w (some ⟨b,0,none⟩) 2 E7:=fun i hi=>by
 refine ⟨b,0,rfl,?_⟩;rcases (by omega:i=0∨i=1) with rfl|rfl
 ·exact ⟨h.cell 0 ag,h.cell 1 ag,h.cell 2 ag⟩
 ·exact ⟨h.cell 3 ag,h.cell 4 ag,h.cell 5 ag⟩
theorem Ap {w:World} {b:Nat} (h:ak w b #[.string ⟨#[48]⟩,.string ⟨#[48]⟩,.string ⟨#[50]⟩,.string ⟨#[51]⟩,.string ⟨#[48]⟩,.string ⟨#[52]⟩] 67):lT w (some ⟨b,0,none⟩) 2 CF:=fun i hi=>by
 refine ⟨b,0,rfl,?_⟩;rcases (by omega:i=0∨i=1) with rfl|rfl
 ·exact ⟨h.cell 0 ag,h.cell 1 ag,h.cell 2 ag⟩
 ·exact ⟨h.cell 3 ag,h.cell 4 ag,h.cell 5 ag⟩
theorem E3 {w:World} {b:Nat} (h:ak w b #[.string ⟨#[48]⟩,.string ⟨#[48]⟩,.string ⟨#[48]⟩,.string ⟨#[49]⟩,.string ⟨#[48]⟩,.string ⟨#[48]⟩,.string ⟨#[48]⟩,.string ⟨#[49]⟩,.string ⟨#[48]⟩,.string ⟨#[49]⟩,.string ⟨#[49]⟩,.string ⟨#[50]⟩] 67):lT w (some ⟨b,0,none⟩) 4 DH:=fun i hi=>by
 refine ⟨b,0,rfl,?_⟩;rcases (by omega:i=0∨i=1∨i=2∨i=3) with rfl|rfl|rfl|rfl
 ·exact ⟨h.cell 0 ag,h.cell 1 ag,h.cell 2 ag⟩
 ·exact ⟨h.cell 3 ag,h.cell 4 ag,h.cell 5 ag⟩
 ·exact ⟨h.cell 6 ag,h.cell 7 ag,h.cell 8 ag⟩
 ·exact ⟨h.cell 9 ag,h.cell 10 ag,h.cell 11 ag⟩
theorem D4 (a b c:Int) (w:World) (g:Gd w) (ha:a.natAbs<100000) (hb:b.natAbs<100000) (hc:c.natAbs<100000):Calls Tryz.prog 79 #[.int .i64 a,.int .i64 b,.int .i64 c] w (aC w (.agg #[.string (qs (a:Rat)),.string (qs (b:Rat)),.string (qs (c:Rat))])):=by
 have HG:=ai g;clear g;go_enter Tryz.func79,Tryz.ntmps79;go_wp2_with fail;refine cto (iO a ae ae _ (HG.o.ext (((Ext.refl w).alloc _)))) fun w1 e1=>?_
 have HX1:Hid (Ext w w1):=ai (((Ext.refl w).alloc _).trans e1);have HB0_1:Hid (ak w1 (w.heap.size) (#[.string ⟨#[]⟩,.string ⟨#[]⟩,.string ⟨#[]⟩]) 67):=ai (((ak.nw (#[.string ⟨#[]⟩,.string ⟨#[]⟩,.string ⟨#[]⟩]) 67)).ext e1);have HGEB0:Hid (w.heap.size<=w.heap.size):=ai (Nat.le_refl _);clear e1;go_wp2_with fail;refine cto (iO b ae ae _ (HG.o.ext (HX1.o))) fun w2 e2=>?_
 have HX2:=ai (HX1.o.trans e2);have HB0_2:=ai (HB0_1.o.ext e2);clear e2;go_wp2_with fail;refine cto (iO c ae ae _ (HG.o.ext (HX2.o))) fun w3 e3=>?_
 have HX3:=ai (HX2.o.trans e3);have HB0_3:=ai (HB0_2.o.ext e3);clear e3;have c0_0:=HB0_3.o.cell 0 rfl;have f0_0:=HB0_3.o.free 0;have c0_1:=HB0_3.o.cell 1 rfl;have f0_1:=HB0_3.o.free 1;have c0_2:=HB0_3.o.cell 2 rfl;have f0_2:=HB0_3.o.free 2;go_wp2_with fail;refine au (fun W=>Ext w W/\ak W (w.heap.size) (#[.string (qs ((a:Int):Rat)),.string (qs ((b:Int):Rat)),.string (qs ((c:Int):Rat))]) 67) ⟨(((HX3.o.setCell (HGEB0.o) _).setCell (HGEB0.o) _).setCell (HGEB0.o) _),(((HB0_3.o.set 0 (.string (qs ((a:Int):Rat)))).set 1 (.string (qs ((b:Int):Rat)))).set 2 (.string (qs ((c:Int):Rat))))⟩ ?_;rintro w4 ⟨e4,bB0_4⟩;have HX4:=ai e4;have HB0_4:=ai bB0_4;clear e4 bB0_4 c0_0 f0_0 c0_1 f0_1 c0_2 f0_2;have gB0_0:=HB0_4.o.cell 0 rfl;have gB0_1:=HB0_4.o.cell 1 rfl;have gB0_2:=HB0_4.o.cell 2 rfl;refine bodyPost_ret (v:=.agg #[.string (qs ((a:Int):Rat)),.string (qs ((b:Int):Rat)),.string (qs ((c:Int):Rat))]) (by simp [results,Tryz.results79,go_sem,gB0_0,gB0_1,gB0_2]) rfl ⟨rfl,HX4.o⟩
section
variable {w:World} {b:Nat} (g:Gd w)
include g
theorem jX (a b c : Int) (ta tb tc : ByteArray) (ha : a.natAbs < 100000) (hb : b.natAbs < 100000) (hc : c.natAbs < 100000) (ea : qs (a : Rat) = ta := by kernel_rfl) (eb : qs (b : Rat) = tb := by kernel_rfl) (ec : qs (c : Rat) = tc := by kernel_rfl) :
    Calls Tryz.prog 79 #[.int .i64 a,.int .i64 b,.int .i64 c] w (aC w (.agg #[.string ta,.string tb,.string tc])):=by
 have:=D4 a b c w g ha hb hc;rwa [ea,eb,ec] at this
theorem Hj:Calls Tryz.prog 30 #[.agg #[.string ⟨#[49]⟩,.string ⟨#[48]⟩,.string ⟨#[48]⟩],.agg #[.string ⟨#[49]⟩,.string ⟨#[48]⟩,.string ⟨#[49]⟩]] w (aC w (.tuple #[.string ⟨#[49,47,50]⟩,.int .i64 0])):=by
 have h:=wN ⟨1,0,0⟩ ⟨1,0,1⟩ w g ⟨dj 1 rfl af,dj 0 rfl af,dj 0 rfl af⟩ ⟨dj 1 rfl af,dj 0 rfl af,dj 1 rfl af⟩ (fun h=>absurd h.1 af) (fun h=>absurd h.1 af);exact Eq.mp ag h
theorem Hk (h:ak w b #[.string ⟨#[48]⟩,.string ⟨#[49]⟩,.string ⟨#[49]⟩,.string ⟨#[48]⟩,.string ⟨#[45,49]⟩,.string ⟨#[49]⟩] 67):Calls Tryz.prog 34 #[.slice (some ⟨b,0,none⟩) 2 2] w (aC w (.tuple #[.agg #[.string ⟨#[49]⟩,.string ⟨#[48]⟩,.string ⟨#[48]⟩],.bool true,.int .i64 0])):=by
 have h:=AQ (some ⟨b,0,none⟩) 2 2 E7 w g (E4 h) (fun i _=>At i) (fun i _=>E6 i) af af af;rwa [show H6 (Br (aL 2 E7 2)) = .tuple #[.agg #[.string ⟨#[49]⟩,.string ⟨#[48]⟩,.string ⟨#[48]⟩],.bool true,.int .i64 0] by kernel_rfl] at h
theorem Gp (h:ak w b #[.string ⟨#[48]⟩,.string ⟨#[48]⟩,.string ⟨#[50]⟩,.string ⟨#[51]⟩,.string ⟨#[48]⟩,.string ⟨#[52]⟩] 67):Calls Tryz.prog 80 #[.slice (some ⟨b,0,none⟩) 2 2] w (aC w (.tuple #[.agg #[.string ⟨#[49]⟩,.string ⟨#[48]⟩,.string ⟨#[51]⟩],.int .i64 0])):=by
 have h:=C5 (some ⟨b,0,none⟩) 2 2 CF w g (Ap h) (fun i _=>sF i) (fun i _=>Aq i) af af GY wG CE wF Ao ⟨⟨by decide +kernel,by decide +kernel⟩,⟨by decide +kernel,by decide +kernel⟩,⟨by decide +kernel,by decide +kernel⟩⟩ ⟨⟨by decide +kernel,by decide +kernel⟩,⟨by decide +kernel,by decide +kernel⟩,⟨by decide +kernel,by decide +kernel⟩⟩ (by decide +kernel) ⟨⟨by decide +kernel,by decide +kernel⟩,⟨by decide +kernel,by decide +kernel⟩,⟨by decide +kernel,by decide +kernel⟩⟩;rwa [show qs (az CE).x=⟨#[49]⟩ by kernel_rfl,show qs (az CE).y=⟨#[48]⟩ by kernel_rfl,show qs (az CE).z=⟨#[51]⟩ by kernel_rfl] at h
theorem CA (h:ak w b #[.string ⟨#[48]⟩,.string ⟨#[48]⟩,.string ⟨#[50]⟩,.string ⟨#[51]⟩,.string ⟨#[48]⟩,.string ⟨#[52]⟩] 67):Calls Tryz.prog 81 #[.slice (some ⟨b,0,none⟩) 2 2] w (aC w (.tuple #[.string ⟨#[57,47,49,48]⟩,.int .i64 0])):=by
 have h:=yj (some ⟨b,0,none⟩) 2 2 CF w g (Ap h) (fun i _=>sF i) (fun i _=>Aq i) af af GY wG CE wF Ao ⟨⟨by decide +kernel,by decide +kernel⟩,⟨by decide +kernel,by decide +kernel⟩,⟨by decide +kernel,by decide +kernel⟩⟩ ⟨by decide +kernel,by decide +kernel⟩;rwa [show qs (aR CE CE / ((((2:Nat):Int):Rat)*(((2:Nat):Int):Rat)))=⟨#[57,47,49,48]⟩ by kernel_rfl] at h
theorem EZ (h:ak w b #[.string ⟨#[48]⟩,.string ⟨#[48]⟩,.string ⟨#[48]⟩,.string ⟨#[49]⟩,.string ⟨#[48]⟩,.string ⟨#[48]⟩,.string ⟨#[48]⟩,.string ⟨#[49]⟩,.string ⟨#[48]⟩,.string ⟨#[49]⟩,.string ⟨#[49]⟩,.string ⟨#[50]⟩] 67):Calls Tryz.prog 26 #[.slice (some ⟨b,0,none⟩) 4 4] w fun e w'=>∃ t0 t1 t2 dk,e = .returned (.tuple #[.agg #[.string t0,.string t1,.string t2,.string ⟨#[49,47,50]⟩,.slice (some ⟨dk,0,none⟩) 8 8],.int .i64 0])/\Ext w w':=by
 refine (oe (some ⟨b,0,none⟩) 4 4 DH w g (E3 h) (fun i _=>Ar i) af af).mono ?_;rintro e w' ⟨val,x,y,vd,rfl,e1,hb,_,_,_,k,C,rfl,_⟩;obtain rfl:val=1 / 2:=hb.unique As;exact ⟨_,_,_,k,by rw [show qs (1 / 2)=⟨#[49,47,50]⟩ by kernel_rfl],e1⟩
end
theorem cf (w:World) (g:Gd w):Calls Tryz.prog 24 #[] w (aC w (.bool true)):=by
 have HG:=ai g;clear g;go_enter Tryz.func24,Tryz.ntmps24;go_wp2_with fail;refine cto (jX (HG.o.ext ((Ext.refl w))) 1 0 0 ⟨#[49]⟩ ⟨#[48]⟩ ⟨#[48]⟩ af af af) fun w1 e1=>?_
 have HX1:Hid (Ext w w1):=ai ((Ext.refl w).trans e1);clear e1;go_wp2_with fail;refine cto (jX (HG.o.ext (HX1.o)) 1 0 1 ⟨#[49]⟩ ⟨#[48]⟩ ⟨#[49]⟩ af af af) fun w2 e2=>?_
 have HX2:=ai (HX1.o.trans e2);clear e2;go_wp2_with fail;refine cto (Hj (HG.o.ext (HX2.o))) fun w3 e3=>?_
 have HX3:=ai (HX2.o.trans e3);clear e3;go_wp2_with fail;refine cto (jX (HG.o.ext (HX3.o)) 0 1 1 ⟨#[48]⟩ ⟨#[49]⟩ ⟨#[49]⟩ af af af) fun w4 e4=>?_
 have HX4:=ai (HX3.o.trans e4);clear e4;go_wp2_with fail;refine cto (jX (HG.o.ext (HX4.o)) 0 (-1) 1 ⟨#[48]⟩ ⟨#[45,49]⟩ ⟨#[49]⟩ af af af) fun w5 e5=>?_
 have HX5:=ai (HX4.o.trans e5);clear e5;go_wp2_with fail;refine cto (Hk (HG.o.ext ((HX5.o.alloc _))) ((ak.nw (#[.string ⟨#[48]⟩,.string ⟨#[49]⟩,.string ⟨#[49]⟩,.string ⟨#[48]⟩,.string ⟨#[45,49]⟩,.string ⟨#[49]⟩]) 67))) fun w6 e6=>?_
 have HX6:Hid (Ext w w6):=ai ((HX5.o.alloc _).trans e6);have HB0_6:Hid (ak w6 (w5.heap.size) (#[.string ⟨#[48]⟩,.string ⟨#[49]⟩,.string ⟨#[49]⟩,.string ⟨#[48]⟩,.string ⟨#[45,49]⟩,.string ⟨#[49]⟩]) 67):=ai (((ak.nw (#[.string ⟨#[48]⟩,.string ⟨#[49]⟩,.string ⟨#[49]⟩,.string ⟨#[48]⟩,.string ⟨#[45,49]⟩,.string ⟨#[49]⟩]) 67)).ext e6);have HGEB0:Hid (w.heap.size<=w5.heap.size):=ai (HX5.o.size);clear e6;go_wp2_with fail;refine cto (jX (HG.o.ext ((HX6.o.alloc _))) 0 0 2 ⟨#[48]⟩ ⟨#[48]⟩ ⟨#[50]⟩ af af af) fun w7 e7=>?_
 have HX7:Hid (Ext w w7):=ai ((HX6.o.alloc _).trans e7);have HB1_7:Hid (ak w7 (w6.heap.size) (#[.string ⟨#[49]⟩,.string ⟨#[48]⟩,.string ⟨#[48]⟩]) 67):=ai (((ak.nw (#[.string ⟨#[49]⟩,.string ⟨#[48]⟩,.string ⟨#[48]⟩]) 67)).ext e7);have HGEB1:Hid (w.heap.size<=w6.heap.size):=ai (HX6.o.size);clear e7;go_wp2_with fail;refine cto (jX (HG.o.ext (HX7.o)) 3 0 4 ⟨#[51]⟩ ⟨#[48]⟩ ⟨#[52]⟩ af af af) fun w8 e8=>?_
 have HX8:=ai (HX7.o.trans e8);have HB1_8:=ai (HB1_7.o.ext e8);clear e8;go_wp2_with fail;refine cto (Gp (HG.o.ext ((HX8.o.alloc _))) ((ak.nw (#[.string ⟨#[48]⟩,.string ⟨#[48]⟩,.string ⟨#[50]⟩,.string ⟨#[51]⟩,.string ⟨#[48]⟩,.string ⟨#[52]⟩]) 67))) fun w9 e9=>?_
 have HX9:Hid (Ext w w9):=ai ((HX8.o.alloc _).trans e9);have HB1_9:Hid (ak w9 (w6.heap.size) (#[.string ⟨#[49]⟩,.string ⟨#[48]⟩,.string ⟨#[48]⟩]) 67):=ai (((HB1_8.o.alloc _)).ext e9);have HB2_9:Hid (ak w9 (w8.heap.size) (#[.string ⟨#[48]⟩,.string ⟨#[48]⟩,.string ⟨#[50]⟩,.string ⟨#[51]⟩,.string ⟨#[48]⟩,.string ⟨#[52]⟩]) 67):=ai (((ak.nw (#[.string ⟨#[48]⟩,.string ⟨#[48]⟩,.string ⟨#[50]⟩,.string ⟨#[51]⟩,.string ⟨#[48]⟩,.string ⟨#[52]⟩]) 67)).ext e9);have HGEB2:Hid (w.heap.size<=w8.heap.size):=ai (HX8.o.size);clear e9;go_wp2_with fail;refine cto (jX (HG.o.ext ((HX9.o.alloc _))) 0 0 2 ⟨#[48]⟩ ⟨#[48]⟩ ⟨#[50]⟩ af af af) fun w10 e10=>?_
 have HX10:Hid (Ext w w10):=ai ((HX9.o.alloc _).trans e10);have HB1_10:Hid (ak w10 (w6.heap.size) (#[.string ⟨#[49]⟩,.string ⟨#[48]⟩,.string ⟨#[48]⟩]) 67):=ai (((HB1_9.o.alloc _)).ext e10);have HB3_10:Hid (ak w10 (w9.heap.size) (#[.string ⟨#[49]⟩,.string ⟨#[48]⟩,.string ⟨#[51]⟩]) 67):=ai (((ak.nw (#[.string ⟨#[49]⟩,.string ⟨#[48]⟩,.string ⟨#[51]⟩]) 67)).ext e10);have HGEB3:Hid (w.heap.size<=w9.heap.size):=ai (HX9.o.size);clear e10;go_wp2_with fail;refine cto (jX (HG.o.ext (HX10.o)) 3 0 4 ⟨#[51]⟩ ⟨#[48]⟩ ⟨#[52]⟩ af af af) fun w11 e11=>?_
 have HX11:=ai (HX10.o.trans e11);have HB1_11:=ai (HB1_10.o.ext e11);have HB3_11:=ai (HB3_10.o.ext e11);clear e11;go_wp2_with fail;refine cto (CA (HG.o.ext ((HX11.o.alloc _))) ((ak.nw (#[.string ⟨#[48]⟩,.string ⟨#[48]⟩,.string ⟨#[50]⟩,.string ⟨#[51]⟩,.string ⟨#[48]⟩,.string ⟨#[52]⟩]) 67))) fun w12 e12=>?_
 have HX12:Hid (Ext w w12):=ai ((HX11.o.alloc _).trans e12);have HB1_12:Hid (ak w12 (w6.heap.size) (#[.string ⟨#[49]⟩,.string ⟨#[48]⟩,.string ⟨#[48]⟩]) 67):=ai (((HB1_11.o.alloc _)).ext e12);have HB3_12:Hid (ak w12 (w9.heap.size) (#[.string ⟨#[49]⟩,.string ⟨#[48]⟩,.string ⟨#[51]⟩]) 67):=ai (((HB3_11.o.alloc _)).ext e12);have HB4_12:Hid (ak w12 (w11.heap.size) (#[.string ⟨#[48]⟩,.string ⟨#[48]⟩,.string ⟨#[50]⟩,.string ⟨#[51]⟩,.string ⟨#[48]⟩,.string ⟨#[52]⟩]) 67):=ai (((ak.nw (#[.string ⟨#[48]⟩,.string ⟨#[48]⟩,.string ⟨#[50]⟩,.string ⟨#[51]⟩,.string ⟨#[48]⟩,.string ⟨#[52]⟩]) 67)).ext e12);have HGEB4:Hid (w.heap.size<=w11.heap.size):=ai (HX11.o.size);clear e12;go_wp2_with fail;refine cto (jX (HG.o.ext (HX12.o)) 0 0 0 ⟨#[48]⟩ ⟨#[48]⟩ ⟨#[48]⟩ af af af) fun w13 e13=>?_
 have HX13:=ai (HX12.o.trans e13);have HB1_13:=ai (HB1_12.o.ext e13);have HB3_13:=ai (HB3_12.o.ext e13);clear e13;go_wp2_with fail;refine cto (jX (HG.o.ext (HX13.o)) 1 0 0 ⟨#[49]⟩ ⟨#[48]⟩ ⟨#[48]⟩ af af af) fun w14 e14=>?_
 have HX14:=ai (HX13.o.trans e14);have HB1_14:=ai (HB1_13.o.ext e14);have HB3_14:=ai (HB3_13.o.ext e14);clear e14;go_wp2_with fail;refine cto (jX (HG.o.ext (HX14.o)) 0 1 0 ⟨#[48]⟩ ⟨#[49]⟩ ⟨#[48]⟩ af af af) fun w15 e15=>?_
 have HX15:=ai (HX14.o.trans e15);have HB1_15:=ai (HB1_14.o.ext e15);have HB3_15:=ai (HB3_14.o.ext e15);clear e15;go_wp2_with fail;refine cto (jX (HG.o.ext (HX15.o)) 1 1 2 ⟨#[49]⟩ ⟨#[49]⟩ ⟨#[50]⟩ af af af) fun w16 e16=>?_
 have HX16:=ai (HX15.o.trans e16);have HB1_16:=ai (HB1_15.o.ext e16);have HB3_16:=ai (HB3_15.o.ext e16);clear e16;go_wp2_with fail;refine (EZ (HG.o.ext ((HX16.o.alloc _))) (ak.nw (#[.string ⟨#[48]⟩,.string ⟨#[48]⟩,.string ⟨#[48]⟩,.string ⟨#[49]⟩,.string ⟨#[48]⟩,.string ⟨#[48]⟩,.string ⟨#[48]⟩,.string ⟨#[49]⟩,.string ⟨#[48]⟩,.string ⟨#[49]⟩,.string ⟨#[49]⟩,.string ⟨#[50]⟩]) 67)).mono ?_;rintro e w17 ⟨t0,t1,t2,dk,rfl,e17⟩;have HX17:Hid (Ext w w17):=ai ((HX16.o.alloc _).trans e17);have HB1_17:Hid (ak w17 (w6.heap.size) (#[.string ⟨#[49]⟩,.string ⟨#[48]⟩,.string ⟨#[48]⟩]) 67):=ai (((HB1_16.o.alloc _)).ext e17);have HB3_17:Hid (ak w17 (w9.heap.size) (#[.string ⟨#[49]⟩,.string ⟨#[48]⟩,.string ⟨#[51]⟩]) 67):=ai (((HB3_16.o.alloc _)).ext e17);have HB5_17:Hid (ak w17 (w16.heap.size) (#[.string ⟨#[48]⟩,.string ⟨#[48]⟩,.string ⟨#[48]⟩,.string ⟨#[49]⟩,.string ⟨#[48]⟩,.string ⟨#[48]⟩,.string ⟨#[48]⟩,.string ⟨#[49]⟩,.string ⟨#[48]⟩,.string ⟨#[49]⟩,.string ⟨#[49]⟩,.string ⟨#[50]⟩]) 67):=ai (((ak.nw (#[.string ⟨#[48]⟩,.string ⟨#[48]⟩,.string ⟨#[48]⟩,.string ⟨#[49]⟩,.string ⟨#[48]⟩,.string ⟨#[48]⟩,.string ⟨#[48]⟩,.string ⟨#[49]⟩,.string ⟨#[48]⟩,.string ⟨#[49]⟩,.string ⟨#[49]⟩,.string ⟨#[50]⟩]) 67)).ext e17);have HGEB5:Hid (w.heap.size<=w16.heap.size):=ai (HX16.o.size);clear e17;go_wp2_with fail;refine au (fun W=>Ext w W/\ak W (w6.heap.size) (#[.string ⟨#[49]⟩,.string ⟨#[48]⟩,.string ⟨#[48]⟩]) 67/\ak W (w9.heap.size) (#[.string ⟨#[49]⟩,.string ⟨#[48]⟩,.string ⟨#[51]⟩]) 67/\ak W (w17.heap.size) (#[.string t0,.string t1,.string t2,.string ⟨#[49,47,50]⟩,.slice (some ⟨dk,0,none⟩) 8 8]) 60) ⟨(HX17.o.alloc _),(HB1_17.o.alloc _),(HB3_17.o.alloc _),(ak.nw (#[.string t0,.string t1,.string t2,.string ⟨#[49,47,50]⟩,.slice (some ⟨dk,0,none⟩) 8 8]) 60)⟩ ?_;rintro w18 ⟨e18,bB1_18,bB3_18,bB6_18⟩;have HX18:=ai e18;have HB1_18:=ai bB1_18;have HB3_18:=ai bB3_18;have HB6_18:=ai bB6_18;have HGEB6:Hid (w.heap.size<=w17.heap.size):=ai (HX17.o.size);clear e18 bB1_18 bB3_18 bB6_18;refine ax [.val (.string ⟨#[49,47,50]⟩),.val (.bool true),.val (.bool true),.val (.int .i64 0),.val (.bool true),.val (.bool true),.val (.bool true),.val (.agg #[.string ⟨#[49]⟩,.string ⟨#[48]⟩,.string ⟨#[48]⟩]),.val (.agg #[.string ⟨#[49]⟩,.string ⟨#[48]⟩,.string ⟨#[48]⟩]),.val (.bool true),.val (.bool true),.val (.bool true),.val (.bool true),.val (.bool true),.val (.bool true),.val (.int .i64 0),.val (.bool true),.val (.bool true),.val (.bool true),.val (.agg #[.string ⟨#[49]⟩,.string ⟨#[48]⟩,.string ⟨#[51]⟩]),.val (.agg #[.string ⟨#[49]⟩,.string ⟨#[48]⟩,.string ⟨#[51]⟩]),.val (.bool true),.val (.bool true),.val (.bool true),.val (.int .i64 0),.val (.bool true),.val (.bool true),.val (.bool true),.val (.string ⟨#[57,47,49,48]⟩),.val (.bool true),.val (.bool true),.val (.bool true),.val (.int .i64 0),.val (.bool true),.val (.bool true),.val (.bool true),.val (.pointer (some ⟨w17.heap.size,3,none⟩)),.val (.string ⟨#[49,47,50]⟩),.val (.bool true),.val (.bool true),.val (.bool true),.val (.int .i64 0),.val (.bool true),.val (.bool true),.val (.bool true)] (fun L g W=>True) (S:=fun _=>False) ag ag ag (Mv.refl HX18.o (fun k h=>h.elim)) ?_ ?_ ?_ ?_ (fun gv_ w19 hm_ he_=>?_)
 ·exact fun _=>trivial
 ·exact fun _ _ _ _ h _=>h
 ·exact fun _ _ _ _ _ _ h=>h
 ·skip
  refine RI 1 (.string ⟨#[49,47,50]⟩)<|R1 0<|R1 1<|RI 2 (.int .i64 0)<|R1 3<|R2 2 4<|R1 5<|J4 (fun hs_=>hs_.is 3 (.pointer (some ⟨w6.heap.size,0,none⟩))) (fun hs_=>(hs_.mv.ay HB1_18.o (fun h=>h)).cell 0 rfl) (fun hs_=>(hs_.mv.ay HB1_18.o (fun h=>h)).cell 1 rfl) (fun hs_=>(hs_.mv.ay HB1_18.o (fun h=>h)).cell 2 rfl) ?_;refine RV (fun A_ hs_ K_ hK_=>?_) ?_;· go_simp;refine (jX (HG.o.ext hs_.mv.ext) 1 0 0 ⟨#[49]⟩ ⟨#[48]⟩ ⟨#[48]⟩ af af af).mono ?_;rintro e W9_ ⟨rfl,e9_⟩;exact hK_.o _ e9_
  refine R2 7 8<|R2 6 9<|R1 10<|RI 4 (.bool true)<|R2 11 12<|R1 13<|RI 5 (.int .i64 0)<|R1 15<|R2 14 16<|R1 17<|J4 (fun hs_=>hs_.is 6 (.pointer (some ⟨w9.heap.size,0,none⟩))) (fun hs_=>(hs_.mv.ay HB3_18.o (fun h=>h)).cell 0 rfl) (fun hs_=>(hs_.mv.ay HB3_18.o (fun h=>h)).cell 1 rfl) (fun hs_=>(hs_.mv.ay HB3_18.o (fun h=>h)).cell 2 rfl) ?_;refine RV (fun A_ hs_ K_ hK_=>?_) ?_;· go_simp;refine (jX (HG.o.ext hs_.mv.ext) 1 0 3 ⟨#[49]⟩ ⟨#[48]⟩ ⟨#[51]⟩ af af af).mono ?_;rintro e W9_ ⟨rfl,e9_⟩;exact hK_.o _ e9_
  exact R2 19 20<|R2 18 21<|R1 22<|RI 7 (.int .i64 0)<|R1 24<|R2 23 25<|R1 26<|RI 8 (.string ⟨#[57,47,49,48]⟩)<|R1 28<|R2 27 29<|R1 30<|RI 9 (.int .i64 0)<|R1 32<|R2 31 33<|R1 34<|RI 10 (.pointer (some ⟨w17.heap.size,0,none⟩))<|J2 (fun hs_=>hs_.val 36) (fun hs_=>(hs_.mv.ay HB6_18.o (fun h=>h)).cell 3 rfl)<|R1 37<|R2 35 38<|R1 39<|RI 11 (.int .i64 0)<|R1 41<|R2 40 42<|R1 43<|aA.nil
 simp only [dX,Ke.value,a7,Act.put,List.setIfInBounds_toArray,List.set_cons_zero,List.set_cons_succ];have HX19:Hid (Ext w w19):=ai hm_.ext;clear hm_ he_;go_wp2;go_ret;exact ⟨rfl,HX19.o⟩
end Go.Proofs.YtmahadmefplbnaaGreatDoor
