/- Part 49. -/
import Derived.Test.YtmahadmefplbnaaGreatDoorQFUB
import Derived.Test.YtmahadmefplbnaaGreatDoorQFU35
import Derived.Test.YtmahadmefplbnaaGreatDoorQFU48
set_option maxRecDepth 100000
set_option maxHeartbeats 2000000
set_option linter.unusedSimpArgs false
set_option linter.unusedVariables false
namespace Go.Proofs.YtmahadmefplbnaaGreatDoor
open Go Go.RowKit
theorem A8 (t:T3):(df t=0/\bQ t.l=0)∨(df t=2/\bQ t.l=2)∨(df t=17/\bQ t.l=0):=by
 unfold df;rcases qt t.l with h|h
 ·rw [h,if_pos rfl];split
  ·exact Or.inr (Or.inr ⟨rfl,rfl⟩)
  ·exact Or.inl ⟨rfl,rfl⟩
 ·rw [h,if_neg af];exact Or.inr (Or.inl ⟨rfl,rfl⟩)
theorem Ie (t:T3):(bQ t.l=0/\rq t.x=true/\rq t.y=true/\rq t.z=true)∨(bQ t.l=2/\(rq t.x=false∨(rq t.x=true/\rq t.y=false)∨(rq t.x=true/\rq t.y=true/\rq t.z=false))):=by
 unfold bQ T3.l;cases hx:rq t.x <;> cases hy:rq t.y <;> cases hz:rq t.z <;> simp [hx,hy,hz]
theorem gu (t:T3) (w:World) (g:Gd w) (hs:TS t):Calls Tryz.prog 173 #[.agg #[.string t.x,.string t.y,.string t.z]] w (aC w (.bool (decide (bQ t.l=0)))):=by
 have HG:=ai g;have HS:=ai hs;clear g hs;go_enter Tryz.func173,Tryz.ntmps173;rcases Ie t with ⟨h0_,rx_,ry_,rz_⟩|⟨h0_,rx_|⟨rx_,ry_⟩|⟨rx_,ry_,rz_⟩⟩ <;> have HT0:=ai h0_ <;> clear h0_
 ·have HRx:=ai rx_;have HRy:=ai ry_;have HRz:=ai rz_;clear rx_ ry_ rz_;go_wp2_with fail;refine cto (dL _ _ (HG.o.ext (((Ext.refl w).alloc _))) HS.o.x HRx.o) fun w1 e1=>?_
  have HX1:Hid (Ext w w1):=ai (((Ext.refl w).alloc _).trans e1);have HB0_1:Hid (ak w1 (w.heap.size) (#[.string t.x,.string t.y,.string t.z]) 67):=ai (((ak.nw (#[.string t.x,.string t.y,.string t.z]) 67)).ext e1);have HGEB0:Hid (w.heap.size<=w.heap.size):=ai (Nat.le_refl _);clear e1;have c0_1:=HB0_1.o.cell 1 rfl;go_wp2_with fail;refine cto (dL _ _ (HG.o.ext (HX1.o)) HS.o.y HRy.o) fun w2 e2=>?_
  have HX2:=ai (HX1.o.trans e2);have HB0_2:=ai (HB0_1.o.ext e2);clear e2 c0_1;have c0_2:=HB0_2.o.cell 2 rfl;go_wp2_with fail;refine cto (dL _ _ (HG.o.ext (HX2.o)) HS.o.z HRz.o) fun w3 e3=>?_
  have HX3:=ai (HX2.o.trans e3);clear e3 c0_2;go_wp2;go_ret;exact ⟨by rw [HT0.o];rfl,HX3.o⟩
 ·have HRx:=ai rx_;clear rx_;go_wp2_with fail;refine cto (iZ _ _ (HG.o.ext (((Ext.refl w).alloc _))) HS.o.x HRx.o) fun w1 e1=>?_
  have HX1:Hid (Ext w w1):=ai (((Ext.refl w).alloc _).trans e1);have HB0_1:Hid (ak w1 (w.heap.size) (#[.string t.x,.string t.y,.string t.z]) 67):=ai (((ak.nw (#[.string t.x,.string t.y,.string t.z]) 67)).ext e1);have HGEB0:Hid (w.heap.size<=w.heap.size):=ai (Nat.le_refl _);clear e1;go_wp2;go_ret;exact ⟨by rw [HT0.o];rfl,HX1.o⟩
 ·have HRx:=ai rx_;have HRy:=ai ry_;clear rx_ ry_;go_wp2_with fail;refine cto (dL _ _ (HG.o.ext (((Ext.refl w).alloc _))) HS.o.x HRx.o) fun w1 e1=>?_
  have HX1:Hid (Ext w w1):=ai (((Ext.refl w).alloc _).trans e1);have HB0_1:Hid (ak w1 (w.heap.size) (#[.string t.x,.string t.y,.string t.z]) 67):=ai (((ak.nw (#[.string t.x,.string t.y,.string t.z]) 67)).ext e1);have HGEB0:Hid (w.heap.size<=w.heap.size):=ai (Nat.le_refl _);clear e1;have c0_1:=HB0_1.o.cell 1 rfl;go_wp2_with fail;refine cto (iZ _ _ (HG.o.ext (HX1.o)) HS.o.y HRy.o) fun w2 e2=>?_
  have HX2:=ai (HX1.o.trans e2);have HB0_2:=ai (HB0_1.o.ext e2);clear e2 c0_1;go_wp2;go_ret;exact ⟨by rw [HT0.o];rfl,HX2.o⟩
 ·have HRx:=ai rx_;have HRy:=ai ry_;have HRz:=ai rz_;clear rx_ ry_ rz_;go_wp2_with fail;refine cto (dL _ _ (HG.o.ext (((Ext.refl w).alloc _))) HS.o.x HRx.o) fun w1 e1=>?_
  have HX1:Hid (Ext w w1):=ai (((Ext.refl w).alloc _).trans e1);have HB0_1:Hid (ak w1 (w.heap.size) (#[.string t.x,.string t.y,.string t.z]) 67):=ai (((ak.nw (#[.string t.x,.string t.y,.string t.z]) 67)).ext e1);have HGEB0:Hid (w.heap.size<=w.heap.size):=ai (Nat.le_refl _);clear e1;have c0_1:=HB0_1.o.cell 1 rfl;go_wp2_with fail;refine cto (dL _ _ (HG.o.ext (HX1.o)) HS.o.y HRy.o) fun w2 e2=>?_
  have HX2:=ai (HX1.o.trans e2);have HB0_2:=ai (HB0_1.o.ext e2);clear e2 c0_1;have c0_2:=HB0_2.o.cell 2 rfl;go_wp2_with fail;refine cto (iZ _ _ (HG.o.ext (HX2.o)) HS.o.z HRz.o) fun w3 e3=>?_
  have HX3:=ai (HX2.o.trans e3);clear e3 c0_2;go_wp2;go_ret;exact ⟨by rw [HT0.o];rfl,HX3.o⟩
theorem gw (t:T3) (w:World) (g:Gd w) (hs:TS t):Calls Tryz.prog 91 #[.agg #[.string t.x,.string t.y,.string t.z]] w (aC w (.int .i64 (df t))):=by
 have HG:=ai g;have HS:=ai hs;clear g hs;go_enter Tryz.func91,Tryz.ntmps91;go_upto_region 1 with fail
 refine au (fun W=>Ext w W/\ak W (w.heap.size) (#[.string t.x,.string t.y,.string t.z]) 67) ⟨((Ext.refl w).alloc _),(ak.nw (#[.string t.x,.string t.y,.string t.z]) 67)⟩ ?_;rintro w1 ⟨e1,bB0_1⟩;have HX1:=ai e1;have HB0_1:=ai bB0_1;have HGEB0:Hid (w.heap.size<=w.heap.size):=ai (Nat.le_refl _);clear e1 bB0_1;rcases qt t.l with h|h
 ·have HT0:=ai h;have HDT:Hid (decide (bQ t.l=0)=true):=ai (decide_eq_true h);clear h;by_cases hx_:t.x=⟨#[48]⟩
  ·have zx_:=jx hx_;have yx_:=tR hx_;have xx_:=pe hx_;by_cases hy_:t.y=⟨#[48]⟩
   ·have zy_:=jx hy_;have yy_:=tR hy_;have xy_:=pe hy_;by_cases hz_:t.z=⟨#[48]⟩
    ·have zz_:=jx hz_;have yz_:=tR hz_;have xz_:=pe hz_;have HPZ:Hid (df t=17):=ai (by rw [df,if_pos HT0.o,if_pos ⟨hx_,hy_,hz_⟩]);clear hx_ hy_ hz_;have c0_0:=HB0_1.o.cell 0 rfl;have c0_1:=HB0_1.o.cell 1 rfl;have c0_2:=HB0_1.o.cell 2 rfl;go_wp2_with fail;refine ((HDT.o▸gu t _ (HG.o.ext (HX1.o)) HS.o)).mono ?_;rintro e w2 ⟨rfl,e2⟩;have HX2:=ai (HX1.o.trans e2);have HB0_2:=ai (HB0_1.o.ext e2);clear e2 c0_0 c0_1 c0_2;have c0_0:=HB0_2.o.cell 0 rfl;have c0_1:=HB0_2.o.cell 1 rfl;have c0_2:=HB0_2.o.cell 2 rfl;go_wp2;go_ret;exact ⟨by rw [HPZ.o];rfl,HX2.o⟩
    ·have zz_:=jv hz_;have yz_:=tQ hz_;have xz_:=pd hz_;have HPZ:Hid (df t=0):=ai (by rw [df,if_pos HT0.o,if_neg (fun h=>hz_ h.2.2)]);clear hz_ hx_ hy_;have c0_0:=HB0_1.o.cell 0 rfl;have c0_1:=HB0_1.o.cell 1 rfl;have c0_2:=HB0_1.o.cell 2 rfl;go_wp2_with fail;refine ((HDT.o▸gu t _ (HG.o.ext (HX1.o)) HS.o)).mono ?_;rintro e w2 ⟨rfl,e2⟩;have HX2:=ai (HX1.o.trans e2);have HB0_2:=ai (HB0_1.o.ext e2);clear e2 c0_0 c0_1 c0_2;have c0_0:=HB0_2.o.cell 0 rfl;have c0_1:=HB0_2.o.cell 1 rfl;have c0_2:=HB0_2.o.cell 2 rfl;go_wp2;go_ret;exact ⟨by rw [HPZ.o];rfl,HX2.o⟩
   ·have zy_:=jv hy_;have yy_:=tQ hy_;have xy_:=pd hy_;have HPZ:Hid (df t=0):=ai (by rw [df,if_pos HT0.o,if_neg (fun h=>hy_ h.2.1)]);clear hy_ hx_;have c0_0:=HB0_1.o.cell 0 rfl;have c0_1:=HB0_1.o.cell 1 rfl;have c0_2:=HB0_1.o.cell 2 rfl;go_wp2_with fail;refine ((HDT.o▸gu t _ (HG.o.ext (HX1.o)) HS.o)).mono ?_;rintro e w2 ⟨rfl,e2⟩;have HX2:=ai (HX1.o.trans e2);have HB0_2:=ai (HB0_1.o.ext e2);clear e2 c0_0 c0_1 c0_2;have c0_0:=HB0_2.o.cell 0 rfl;have c0_1:=HB0_2.o.cell 1 rfl;go_wp2;go_ret;exact ⟨by rw [HPZ.o];rfl,HX2.o⟩
  ·have zx_:=jv hx_;have yx_:=tQ hx_;have xx_:=pd hx_;have HPZ:Hid (df t=0):=ai (by rw [df,if_pos HT0.o,if_neg (fun h=>hx_ h.1)]);clear hx_;have c0_0:=HB0_1.o.cell 0 rfl;have c0_1:=HB0_1.o.cell 1 rfl;have c0_2:=HB0_1.o.cell 2 rfl;go_wp2_with fail;refine ((HDT.o▸gu t _ (HG.o.ext (HX1.o)) HS.o)).mono ?_;rintro e w2 ⟨rfl,e2⟩;have HX2:=ai (HX1.o.trans e2);have HB0_2:=ai (HB0_1.o.ext e2);clear e2 c0_0 c0_1 c0_2;have c0_0:=HB0_2.o.cell 0 rfl;go_wp2;go_ret;exact ⟨by rw [HPZ.o];rfl,HX2.o⟩
 ·have HT0:=ai h;have HDT:Hid (decide (bQ t.l=0)=false):=ai (decide_eq_false (by rw [h];decide));clear h;have c0_0:=HB0_1.o.cell 0 rfl;have c0_1:=HB0_1.o.cell 1 rfl;have c0_2:=HB0_1.o.cell 2 rfl;go_wp2_with fail;refine ((HDT.o▸gu t _ (HG.o.ext (HX1.o)) HS.o)).mono ?_;rintro e w2 ⟨rfl,e2⟩;have HX2:=ai (HX1.o.trans e2);have HB0_2:=ai (HB0_1.o.ext e2);clear e2 c0_0 c0_1 c0_2;go_wp2;go_ret;exact ⟨by rw [df,if_neg (by rw [HT0.o];decide)];rfl,HX2.o⟩
end Go.Proofs.YtmahadmefplbnaaGreatDoor
