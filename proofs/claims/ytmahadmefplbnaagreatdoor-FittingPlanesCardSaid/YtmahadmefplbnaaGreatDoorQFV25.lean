/- Part 25. -/
import Derived.Test.YtmahadmefplbnaaGreatDoorQFVB
import Derived.Test.YtmahadmefplbnaaGreatDoorQFV23
import Derived.Test.YtmahadmefplbnaaGreatDoorQFV24
set_option maxRecDepth 100000
set_option maxHeartbeats 2000000
open Go.Proofs.Tryz
namespace Go.Proofs.YtmahadmefplbnaaGreatDoor
open Go Go.RowKit
theorem a6(s:ByteArray)(w:World)(g:Gd w)(hl:s.size<=1000000)(h:rq s=true):Calls prog 41 #[.string s] w (aD w (.bool true)):=by
 have HG:=ai g;clear g;go_enter func41,ntmps41;go_wp2_with (go_at_call 114;refine cto (uR s _ HG.o hl h) fun w2 e2=>?_);go_ret;exact⟨rfl,e2⟩
theorem dV(s:ByteArray)(w:World)(g:Gd w)(hl:s.size<=1000000)(h:rq s=false):Calls prog 41 #[.string s] w (aD w (.bool false)):=by
 have HG:=ai g;clear g;go_enter func41,ntmps41;go_wp2_with (go_at_call 114;refine cto (yt s _ HG.o hl h) fun w2 e2=>?_);go_ret;exact⟨rfl,e2⟩
theorem jO(w:World)(g:Gd w):Calls prog 156 #[.int .i64 0] w (aD w (.string ⟨#[48]⟩)):=by
 have h:=iU 0 af af w g;exact Eq.mp ag h
theorem mm(w:World)(g:Gd w):Calls prog 79 #[.int .i64 0,.int .i64 0,.int .i64 0] w (aD w (.agg #[.string ⟨#[48]⟩,.string ⟨#[48]⟩,.string ⟨#[48]⟩])):=by
 have HG:=ai g;clear g;go_enter func79,ntmps79;go_wp2_with fail;refine cto (jO _ (HG.o.ext ((Ext.refl w).alloc _))) fun w1 e1=>?_
 have HX1:Hid (Ext w w1):=ai (((Ext.refl w).alloc _).trans e1);have HB0_1:Hid (aq w1 (w.heap.size) #[.string ⟨#[]⟩,.string ⟨#[]⟩,.string ⟨#[]⟩] 67):=ai (aq.ext (aq.nw (#[.string ⟨#[]⟩,.string ⟨#[]⟩,.string ⟨#[]⟩]) 67) e1);have HGEB0:Hid (w.heap.size<=w.heap.size):=ai ah;clear e1;go_wp2_with fail;refine cto (jO _ (HG.o.ext HX1.o)) fun w2 e2=>?_
 have HX2:=ai (HX1.o.trans e2);have HB0_2:=ai (aq.ext HB0_1.o e2);clear e2;go_wp2_with fail;refine cto (jO _ (HG.o.ext HX2.o)) fun w3 e3=>?_
 have HX3:=ai (HX2.o.trans e3);have HB0_3:=ai (aq.ext HB0_2.o e3);clear e3;have c0_0:=HB0_3.o.cell 0 rfl;have f0_0:=HB0_3.o.free 0;have c0_1:=HB0_3.o.cell 1 rfl;have f0_1:=HB0_3.o.free 1;have c0_2:=HB0_3.o.cell 2 rfl;have f0_2:=HB0_3.o.free 2;go_wp2_with fail;refine aw (fun W=>Ext w W/\aq W (w.heap.size) #[.string ⟨#[48]⟩,.string ⟨#[48]⟩,.string ⟨#[48]⟩] 67) ⟨(((HX3.o.setCell (by have:=HGEB0.o;first|omega|(simp only[];omega)|(simp;omega)) _).setCell (by have:=HGEB0.o;first|omega|(simp only[];omega)|(simp;omega)) _).setCell (by have:=HGEB0.o;first|omega|(simp only[];omega)|(simp;omega)) _),(((HB0_3.o.set 0 (.string ⟨#[48]⟩)).set 1 (.string ⟨#[48]⟩)).set 2 (.string ⟨#[48]⟩))⟩ ?_;rintro w4 ⟨e4,bB0_4⟩;have HX4:=ai e4;have HB0_4:=ai bB0_4;clear e4 bB0_4 c0_0 f0_0 c0_1 f0_1 c0_2 f0_2;have gB0_0:=HB0_4.o.cell 0 rfl;have gB0_1:=HB0_4.o.cell 1 rfl;have gB0_2:=HB0_4.o.cell 2 rfl;refine bodyPost_ret (v:=.agg #[.string ⟨#[48]⟩,.string ⟨#[48]⟩,.string ⟨#[48]⟩]) (by simp[results,results79,go_sem,gB0_0,gB0_1,gB0_2]) rfl ⟨rfl,HX4.o⟩
end Go.Proofs.YtmahadmefplbnaaGreatDoor
