/- Part 25. -/
import Derived.Test.YtmahadmefplbnaaGreatDoorQVLB
import Derived.Test.YtmahadmefplbnaaGreatDoorQVL23
import Derived.Test.YtmahadmefplbnaaGreatDoorQVL24
set_option maxRecDepth 100000
set_option maxHeartbeats 2000000
open Go.Proofs.Tryz
namespace Go.Proofs.YtmahadmefplbnaaGreatDoor
open Go Go.RowKit
theorem bJ(s:ByteArray)(w:World)(g:Gd w)(hl:s.size<=1000000)(h:rq s=true):Calls prog 41 #[.string s] w (aZ w (.bool true)):=by
 have HG:=ai g;clear g;go_enter func41,ntmps41;go_wp2_with (go_at_call 114;refine cto (GS s _ HG.o hl h) fun w2 e2=>?_);go_ret;exact⟨rfl,e2⟩
theorem eC(s:ByteArray)(w:World)(g:Gd w)(hl:s.size<=1000000)(h:rq s=false):Calls prog 41 #[.string s] w (aZ w (.bool false)):=by
 have HG:=ai g;clear g;go_enter func41,ntmps41;go_wp2_with (go_at_call 114;refine cto (Lb s _ HG.o hl h) fun w2 e2=>?_);go_ret;exact⟨rfl,e2⟩
theorem q8(w:World)(g:Gd w):Calls prog 156 #[.int .i64 0] w (aZ w (.string ⟨#[48]⟩)):=by
 have h:=pd 0 af af w g;exact Eq.mp ag h
theorem uX(w:World)(g:Gd w):Calls prog 79 #[.int .i64 0,.int .i64 0,.int .i64 0] w (aZ w (.agg #[.string ⟨#[48]⟩,.string ⟨#[48]⟩,.string ⟨#[48]⟩])):=by
 have HG:=ai g;clear g;go_enter func79,ntmps79;go_wp2_with fail;refine cto (q8 _ (HG.o.ext ((Ext.refl w).alloc _))) fun w1 e1=>?_
 have aD:Hid (Ext w w1):=ai (((Ext.refl w).alloc _).trans e1);have ax:Hid (ay w1 (w.heap.size) #[.string ⟨#[]⟩,.string ⟨#[]⟩,.string ⟨#[]⟩] 67):=ai (ay.ext (ay.nw (#[.string ⟨#[]⟩,.string ⟨#[]⟩,.string ⟨#[]⟩]) 67) e1);have aF:Hid (w.heap.size<=w.heap.size):=ai ah;clear e1;go_wp2_with fail;refine cto (q8 _ (HG.o.ext aD.o)) fun w2 e2=>?_
 have aM:=ai (aD.o.trans e2);have az:=ai (ay.ext ax.o e2);clear e2;go_wp2_with fail;refine cto (q8 _ (HG.o.ext aM.o)) fun w3 e3=>?_
 have bA:=ai (aM.o.trans e3);have aA:=ai (ay.ext az.o e3);clear e3;have aG:=aA.o.cell 0 rfl;have ek:=aA.o.free 0;have aI:=aA.o.cell 1 rfl;have eB:=aA.o.free 1;have aQ:=aA.o.cell 2 rfl;have eA:=aA.o.free 2;go_wp2_with fail;refine aB (fun W=>Ext w W/\ay W (w.heap.size) #[.string ⟨#[48]⟩,.string ⟨#[48]⟩,.string ⟨#[48]⟩] 67) ⟨(((bA.o.setCell (by have:=aF.o;first|omega|(simp only[];omega)|(simp;omega)) _).setCell (by have:=aF.o;first|omega|(simp only[];omega)|(simp;omega)) _).setCell (by have:=aF.o;first|omega|(simp only[];omega)|(simp;omega)) _),(((aA.o.set 0 (.string ⟨#[48]⟩)).set 1 (.string ⟨#[48]⟩)).set 2 (.string ⟨#[48]⟩))⟩ ?_;rintro w4 ⟨e4,dV⟩;have bO:=ai e4;have aJ:=ai dV;clear e4 dV aG ek aI eB aQ eA;have fC:=aJ.o.cell 0 rfl;have gj:=aJ.o.cell 1 rfl;have gi:=aJ.o.cell 2 rfl;refine bodyPost_ret (v:=.agg #[.string ⟨#[48]⟩,.string ⟨#[48]⟩,.string ⟨#[48]⟩]) (by simp[results,results79,go_sem,fC,gj,gi]) rfl ⟨rfl,bO.o⟩
