/- Part 17. -/
import Derived.Test.YtmahadmefplbnaaGreatDoorQTDB
import Derived.Test.YtmahadmefplbnaaGreatDoorQTD4
import Derived.Lib.Builder
import Derived.Lib.OthersKept
import Derived.Lib.UnsafeStr
import Derived.Lib.Walk
import Derived.Laws.Externs
set_option maxRecDepth 100000
set_option maxHeartbeats 2000000
open Go.Proofs.Tryz
namespace Go.Proofs.YtmahadmefplbnaaGreatDoor
open Go Go.RowKit
theorem kO:∃ j,prog.info? 276=some j/\j.size=2:=by
 have h:(prog.info? 276).map (fun i=>i.size)=some 2:=ag;obtain⟨j,h1,h2⟩:=Option.map_eq_some_iff.1 h;exact⟨j,h1,h2⟩
theorem liesBuilder:liesAt prog prog.depth 276 (2 / prog.cellsOf 276) 0 276 1=true:=ag
section
attribute [local irreducible] World.shape?
theorem s_bd {α β:Type} (x:Sem α) (f:α → Sem β):Sem.bind x f = (x >>= f):=rfl
theorem s_pr {α:Type} (x:α):Sem.pure x = (pure x:Sem α):=rfl
theorem cv_to (b:Nat) (w:World) (hsh:w.shape? b = some (276,2)):(convert 273 310 (.pointer (some ⟨b,0,none⟩))).run prog w = .ok (.pointer (some ⟨b,0,none⟩)) w:=by
 obtain ⟨j,hj,hjs⟩:=kO;simp [convert,run_underlying underlying273,run_underlying underlying310]
 conv => lhs; whnf
 simp [hsh,s_bd,s_pr,cellsIn,sizeOf,typeInfo,hj,hjs]
theorem cv_fr (b:Nat) (w:World) (hsh:w.shape? b = some (276,2)):(convert 310 273 (.pointer (some ⟨b,0,none⟩))).run prog w = .ok (.pointer (some ⟨b,0,none⟩)) w:=by
 obtain ⟨j,hj,_⟩:=kO;simp [convert,run_underlying underlying273,run_underlying underlying310]
 conv => lhs; whnf
 simp [hsh,s_bd,s_pr,variablesAt,liesBuilder,sizeOf,typeInfo,hj]
end
set_option maxHeartbeats 1000000 in
theorem wm (b:Nat) (w:World) (h0:w.cell? ⟨b,0,none⟩=some (.pointer (some ⟨b,0,none⟩))) :
    Calls prog 270 #[.pointer (some ⟨b,0,none⟩)] w fun e w'=>e = .returned (.tuple #[])/\w'=w:=by
 obtain⟨j,hj,_⟩:=kO;go_enter func270,ntmps270;go_wp2;rw[Lib.run_neq_ptr_same w _ underlying273 hj];go_wp2;go_end0;exact⟨rfl,rfl⟩
set_option maxHeartbeats 1000000 in
theorem te (b:Nat) (w:World) (h0:w.cell? ⟨b,0,none⟩=some (.pointer none)) (hsh:w.shape? b=some (276,2)) (hfz:w.frozen? ⟨b,0,none⟩=false) :
    Calls prog 270 #[.pointer (some ⟨b,0,none⟩)] w fun e w'=>e = .returned (.tuple #[])/\w'=w.setCell ⟨b,0,none⟩ (.pointer (some ⟨b,0,none⟩)):=by
 go_enter func270,ntmps270;go_wp2;rw[cv_to b w hsh];simp only[Result.andThen];rw[Oper.upon_value];go_wp2;rw[run_callFunc_extern func287 ag ag ag (e:=Extern.AbiNoEscape.same) ag];rw[Lib.run_noEscape];simp only[Result.andThen];rw[Oper.upon_value];go_wp2;rw[cv_fr b w hsh];simp only[Result.andThen];rw[Oper.upon_value];go_wp2;go_end0;exact⟨rfl,rfl⟩
abbrev zM:=Lib.BuilderAt 276 5
abbrev ts:=Lib.IsBuilder 276 5
def rP(B b:Nat)(bs:List Value)(w w':World):Prop:=zM B b (.pointer (some ⟨b,0,none⟩)) bs w'/\Below B w w'/\Lib.OthersKept 5 (some b) w w'
theorem zp (B b:Nat) (bs:List Value) (w:World) (h:ts B b bs w) :
    Calls prog 270 #[.pointer (some ⟨b,0,none⟩)] w fun e w'=>e = .returned (.tuple #[])/\rP B b bs w w':=by
 rcases h with h|h
 ·refine(te b w h.cell0 h.shape h.frozen0).mono ?_;rintro e w' ⟨rfl,rfl⟩;exact⟨rfl,h.used _,(Below.refl _ _).setCell h.1 _,Lib.OthersKept.setCell (b:=b) (Lib.OthersKept.refl _ _ _) ⟨b,0,none⟩ rfl _⟩
 ·refine(wm b w h.cell0).mono ?_;rintro e w' ⟨rfl,rfl⟩;exact⟨rfl,h,Below.refl _ _,Lib.OthersKept.refl _ _ _⟩
theorem gN{w:World}{B e n:Nat}{v:Value}{xs:List Value}(h:w.ownsRow B e 1 v n xs):∃ ad m c,v = .slice ad m c:=by
 rcases h.2 with⟨rfl,_⟩|⟨g,cap,cur,rfl,_⟩
 ·exact⟨_,_,_,rfl⟩
 ·exact⟨_,_,_,rfl⟩
theorem yW:(prog.info? 5).map (fun i=>(i.zero,i.size,i.bytes))=some (some (.int .u8 0),1,1):=ag
theorem df{w:World}{B e n:Nat}{v:Value}{xs:List Value}(h:w.ownsRow B e 1 v n xs):∀ k,v.ownBlock=some k->B<=k:=by
 intro k hk;rcases h.2 with⟨rfl,_⟩|⟨g,cap,cur,rfl,hB,_⟩
 ·simp[Value.ownBlock] at hk
 ·simp only[Value.ownBlock,Option.some.injEq] at hk;omega
theorem qR{w:World}{B e n:Nat}{v:Value}{xs:List Value}(h:w.ownsRow B e 1 v n xs):∀ g,v.ownBlock=some g->∃ c fz,w.heap[g]?=some (.cells c e fz):=by
 intro k hk;rcases h.2 with⟨rfl,_⟩|⟨g,cap,cur,rfl,hB,hg,_⟩
 ·simp[Value.ownBlock] at hk
 ·simp only[Value.ownBlock,Option.some.injEq] at hk;subst hk;exact⟨_,_,hg⟩
theorem byte_at(w:World)(c:Int):∀ j u,[Value.int .u8 c][j]?=some u->(w.alloc (.cells #[.int .u8 c] 5)).cell? ((⟨w.heap.size,0,none⟩:Addr).add j)=some u:=by
 intro j u hu
 match j,hu with
 | 0,hu=>simp at hu;subst hu;rw[Addr.add_lit];exact(ax.new w #[.int .u8 c] 5).cell 0 rfl
theorem th{w w2:World}{b:Nat}{cs:Array Value}{v:Value}{o:Obj}{t:TypeId}(hb:w.heap[b]?=some (.cells cs t (0,0)))(hne:v.ownBlock≠some b)(hg:(w.alloc o).grownBy w2 v.ownBlock):w2.heap[b]?=some (.cells cs t (0,0)) :=
 (((⟨hb⟩:ax w b cs t).alloc o).grown hg (fun e=>hne e.symm)).out
set_option maxHeartbeats 1000000 in
theorem lI (B b:Nat) (bs:List Value) (c:Int) (w:World) (h:ts B b bs w) (hl:bs.length+1<=140737488355328) (hB:B<=w.heap.size) :
    Calls prog 239 #[.pointer (some ⟨b,0,none⟩),.int .u8 c] w fun e w'=>e = .returned .nilIface/\rP B b (bs ++ [.int .u8 c]) w w':=by
 obtain⟨i0,hi,hz0,hz1,hz2⟩:=info_parts yW;have hb63:bs.length+1<=maxLen:=by unfold maxLen;omega
 go_enter func239,ntmps239;go_wp2_with (first
  | (go_at_call 270;refine(zp B b bs _ h).mono ?_;rintro e w1 ⟨rfl,hb1,he1,ho1⟩;obtain⟨hBb,v,hbk,hown,hne⟩:=hb1;obtain⟨va,vn,vc,rfl⟩:=gN hown;have c1:=Lib.cell_of_heap hbk 1;have f1:=Lib.frozen_of_heap hbk 1)
  | (at_builtin;refine wpList_append_own (w1.alloc (.cells #[.int .u8 c] 5)) rfl (.tmp 11) (.tmp 13) 274 rfl B 5 i0 (.int .u8 0) 1 1 underlying274 hi hz0 hz1 hz2 rfl af _ bs.length bs rfl (hown.alloc _) ⟨w1.heap.size,0,none⟩ 1 1 [.int .u8 c] rfl rfl (byte_at w1 c) (by intro u hu;simp at hu;subst hu;rfl) hb63 ae (by simp;exact Nat.le_trans hB (Nat.le_trans he1.size (Nat.le_succ _))) ?_;intro v' w2 hown2 hgrow2 hv2;obtain⟨va',vn',vc',rfl⟩:=gN hown2;have hbk2:=th hbk hne hgrow2;have c2:=Lib.cell_of_heap hbk2 1;have f2:=Lib.frozen_of_heap hbk2 1))
 go_ret;refine⟨rfl,Lib.BuilderAt.put (bs':=bs ++ [.int .u8 c]) hBb hbk2 (by simpa using hown2) af,((he1.alloc (Nat.le_trans hB he1.size) _).grown hgrow2 (by simp;exact Nat.le_trans hB (Nat.le_trans he1.size (Nat.le_succ _))) (df hown)).setCell hBb _,Lib.OthersKept.setCell (b:=b) ((ho1.alloc _).grown hgrow2 (qR (hown.alloc _))) ⟨b,1,none⟩ rfl _⟩
set_option maxHeartbeats 1000000 in
theorem dh (B b:Nat) (bs:List Value) (t:ByteArray) (w:World) (h:ts B b bs w) (hl:bs.length+t.size<=140737488355328) (hB:B<=w.heap.size) :
    Calls prog 242 #[.pointer (some ⟨b,0,none⟩),.string t] w fun e w'=>e = .returned (.tuple #[.int .i64 t.size,.nilIface])/\rP B b (bs ++ Lib.strCells t) w w':=by
 obtain⟨i0,hi,hz0,hz1,hz2⟩:=info_parts yW;have hb63:bs.length+t.size<=maxLen:=by unfold maxLen;omega
 go_enter func242,ntmps242;go_wp2_with (first
  | (go_at_call 270;refine(zp B b bs _ h).mono ?_;rintro e w1 ⟨rfl,hb1,he1,ho1⟩;obtain⟨hBb,v,hbk,hown,hne⟩:=hb1;obtain⟨va,vn,vc,rfl⟩:=gN hown;have c1:=Lib.cell_of_heap hbk 1;have f1:=Lib.frozen_of_heap hbk 1)
  | (at_builtin;refine Lib.wpList_append_own_string w1 rfl (.tmp 12) (.tmp 13) 274 9 rfl B 5 i0 underlying274 underlying9 hi hz0 hz1 hz2 _ bs.length bs rfl hown t rfl hb63 ae (Nat.le_trans hB he1.size) ?_;intro v' w2 hown2 hgrow2 hv2;obtain⟨va',vn',vc',rfl⟩:=gN hown2;have hbk2:=((⟨hbk⟩:ax w1 b _ _).grown hgrow2 (fun e=>hne e.symm)).out;have c2:=Lib.cell_of_heap hbk2 1;have f2:=Lib.frozen_of_heap hbk2 1))
 refine bodyPost_ret (v:=.tuple #[.int .i64 t.size,.nilIface]) (by simp[results,results242,go_sem]) rfl ⟨rfl,Lib.BuilderAt.put (bs':=bs ++ Lib.strCells t) hBb hbk2 (by simpa[Lib.strCells_length] using hown2) af,(he1.grown hgrow2 (Nat.le_trans hB he1.size) (df hown)).setCell hBb _,Lib.OthersKept.setCell (b:=b) (ho1.grown hgrow2 (qR hown)) ⟨b,1,none⟩ rfl _⟩
end Go.Proofs.YtmahadmefplbnaaGreatDoor
