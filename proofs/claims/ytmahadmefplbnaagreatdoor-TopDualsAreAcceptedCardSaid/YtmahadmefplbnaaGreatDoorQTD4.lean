/- Part 4. -/
import Derived.Test.YtmahadmefplbnaaGreatDoorQTDB
import Derived.Test.YtmahadmefplbnaaGreatDoorQTD1
import Derived.Test.YtmahadmefplbnaaGreatDoorProg
import Derived.WalkKit
import Derived.WalkSpells
import Derived.WalkLawsBesides
import Derived.Lib.Hide
import Derived.Lib.ItoaMem
set_option maxRecDepth 100000
set_option maxHeartbeats 2000000
open Go.Proofs.Tryz
namespace Go.Proofs.YtmahadmefplbnaaGreatDoor
open Go Go.RowKit
def Ext(w w':World):Prop:=Below w.heap.size w w'
theorem Ext.refl(w:World):Ext w w:=Below.refl _ _
theorem Ext.size{w w':World}(h:Ext w w'):w.heap.size<=w'.heap.size:=Below.size h
theorem Ext.trans{a b c:World}(h:Ext a b)(k:Ext b c):Ext a c:=Below.trans h (Below.mono k h.size)
theorem Ext.alloc{a b:World}(h:Ext a b)(o:Obj):Ext a (b.alloc o):=Below.alloc h h.size o
theorem Ext.drew{a b:World}(h:Ext a b):Ext a b.drew:=Below.drew h
theorem Ext.drewN{a b:World}(h:Ext a b)(n:Nat):Ext a (b.drewN n):=h.trans ⟨rfl,rfl,rfl,Nat.le_refl _,fun _ _=>rfl⟩
theorem Ext.setCell{a b:World}(h:Ext a b){p:Addr}(hp:a.heap.size<=p.block)(u:Value):Ext a (b.setCell p u):=Below.setCell h hp u
theorem Ext.grown{a b c:World}{row:Option Nat}(h:Ext a b)(hg:b.grownBy c row)(hr:∀ k,row=some k->a.heap.size<=k):Ext a c:=Below.grown h hg h.size hr
theorem Ext.below{w w':World}(h:Ext w w'):Below w.heap.size w w':=h
theorem Ext.cell{w w':World}(h:Ext w w'){p:Addr}(hp:p.block<w.heap.size):w'.cell? p=w.cell? p:=Below.cell h hp
theorem Ext.frozen{w w':World}(h:Ext w w'){p:Addr}(hp:p.block<w.heap.size):w'.frozen? p=w.frozen? p:=Below.frozen h hp
theorem lt_of_cell{w:World}{b o:Nat}{v:Value}(h:w.cell? ⟨b,o,none⟩=some v):b<w.heap.size:=by
 rcases Nat.lt_or_ge b w.heap.size with h'|h'
 ·exact h'
 ·simp[World.cell?,Array.getElem?_eq_none h'] at h
theorem Ext.keeps{w w':World}(h:Ext w w'){b o:Nat}{v:Value}(hc:w.cell? ⟨b,o,none⟩=some v):w'.cell? ⟨b,o,none⟩=some v :=
 (h.cell (lt_of_cell hc)).trans hc
structure ax(w:World)(k:Nat)(cs:Array Value)(t:TypeId):Prop where
 out:w.heap[k]?=some (.cells cs t (0,0))
theorem ax.lt{w:World}{k:Nat}{cs:Array Value}{t:TypeId}(h:ax w k cs t):k<w.heap.size:=by
 rcases Nat.lt_or_ge k w.heap.size with h'|h'
 ·exact h'
 ·have:=h.out;rw[Array.getElem?_eq_none h'] at this;simp at this
theorem ax.cell{w:World}{k:Nat}{cs:Array Value}{t:TypeId}(h:ax w k cs t)(i:Nat){v:Value}(hv:cs[i]?=some v):w.cell? ⟨k,i,none⟩=some v:=by
 simp[World.cell?,h.out,hv]
theorem ax.free{w:World}{k:Nat}{cs:Array Value}{t:TypeId}(h:ax w k cs t)(i:Nat):w.frozen? ⟨k,i,none⟩=false:=by
 simp[World.frozen?,h.out]
theorem ax.ext{w w':World}{k:Nat}{cs:Array Value}{t:TypeId}(h:ax w k cs t)(e:Ext w w'):ax w' k cs t:=⟨(Below.block e k h.lt).trans h.out⟩
theorem ax.below{B:Nat}{w w':World}{k:Nat}{cs:Array Value}{t:TypeId}(h:ax w k cs t)(e:Below B w w')(hk:k<B):ax w' k cs t:=⟨(Below.block e k hk).trans h.out⟩
theorem ax.new(w:World)(cs:Array Value)(t:TypeId):ax (w.alloc (.cells cs t)) w.heap.size cs t:=⟨by show(w.heap.push _)[w.heap.size]?=_;simp⟩
theorem ax.alloc{w:World}{k:Nat}{cs:Array Value}{t:TypeId}(h:ax w k cs t)(o:Obj):ax (w.alloc o) k cs t:=⟨(Below.heap_alloc w o k h.lt).trans h.out⟩
theorem ax.drew{w:World}{k:Nat}{cs:Array Value}{t:TypeId}(h:ax w k cs t):ax w.drew k cs t:=⟨h.out⟩
theorem ax.drewN{w:World}{k:Nat}{cs:Array Value}{t:TypeId}(h:ax w k cs t)(n:Nat):ax (w.drewN n) k cs t:=⟨h.out⟩
theorem ax.set{w:World}{k:Nat}{cs:Array Value}{t:TypeId}(h:ax w k cs t)(i:Nat)(u:Value):ax (w.setCell ⟨k,i,none⟩ u) k (cs.setIfInBounds i u) t:=by
 constructor;have:=h.out;simp only[World.setCell,Array.getElem?_modify,this];simp
theorem ax.other{w:World}{k:Nat}{cs:Array Value}{t:TypeId}(h:ax w k cs t){a:Addr}(u:Value)(hk:k≠a.block):ax (w.setCell a u) k cs t:=⟨(Below.heap_setCell w a u k hk).trans h.out⟩
theorem ax.grown{w w':World}{k:Nat}{cs:Array Value}{t:TypeId}{row:Option Nat}(h:ax w k cs t)(hg:w.grownBy w' row)(hk:some k≠row):ax w' k cs t:=⟨(hg.block k h.lt hk).trans h.out⟩
theorem tz{P:Program}{w w':World}{name:String}{cs:Array Value}(hb:Ext w w')(h:w.var? P name=some cs):w'.var? P name=some cs:=by
 unfold World.var? at *;cases hg:P.globalNamed name with
 | none=>simp[hg] at h
 | some g =>
  simp only[hg,Option.bind_some] at h ⊢;have hlt:g<w.heap.size:=by
   rcases Nat.lt_or_ge g w.heap.size with h'|h'
   ·exact h'
   ·rw[Array.getElem?_eq_none h'] at h;simp at h
  rw[Below.block hb g hlt];exact h
structure Gd(w:World):Prop where
 tab:Lib.TabIs prog w "internal/strconv.uint64pow10" .u64 Lib.pow10Tab
 range:∃ tp p,w.var? prog "strconv.ErrRange"=some #[.iface tp p]
theorem Gd.ext{w w':World}(h:Gd w)(e:Ext w w'):Gd w' :=
 ⟨tz e h.tab,let ⟨tp,p,hv⟩:=h.range;⟨tp,p,tz e hv⟩⟩
def aR(w:World)(v:Value)(e:Ending)(w':World):Prop:=e = .returned v/\Ext w w'
theorem cto{P:Program}{f:FuncId}{ar:Array Value}{w:World}{v:Value}{K:Ending->World->Prop}(h:Calls P f ar w (aR w v))(k:∀ w',Ext w w'->K (.returned v) w'):Calls P f ar w K:=h.mono (by rintro e w' ⟨rfl,e1⟩;exact k _ e1)
def Holds(k:IntKind)(w:World)(v:Value)(l:List Nat):Prop :=
 ∃ (ad:Option Addr) (cap b off:Nat),v = .slice ad l.length cap/\l.length<=cap/\cap<=9223372036854775807/\(0<l.length->ad=some ⟨b,off,none⟩/\b<w.heap.size) /\
  ∀ i,i<l.length->w.cell? ⟨b,off+i,none⟩=some (.int k ((l.getD i 0:Nat):Int))
theorem Holds.ext{k:IntKind}{w w':World}{v:Value}{l:List Nat}(h:Holds k w v l)(e:Ext w w'):Holds k w' v l:=by
 obtain⟨ad,cap,b,off,hv,h1,h2,h3,h4⟩:=h;refine⟨ad,cap,b,off,hv,h1,h2,fun h0=>⟨(h3 h0).1,Nat.lt_of_lt_of_le (h3 h0).2 e.size⟩,fun i hi=>(e.cell (h3 ae).2).trans (h4 i hi)⟩
theorem Holds.nil(k:IntKind)(w:World):Holds k w (.slice none 0 0) []:=⟨none,0,0,0,rfl,by simp,ae,fun h=>by simp at h,fun i h=>by simp at h⟩
theorem Holds.empty(k:IntKind)(w:World)(ad:Option Addr)(cap:Nat)(h:cap<=9223372036854775807):Holds k w (.slice ad 0 cap) []:=⟨ad,cap,0,0,rfl,by simp,h,fun h=>by simp at h,fun i h=>by simp at h⟩
theorem Holds.some {k:IntKind} {w:World} {l:List Nat} {b off n cap:Nat} (hn:l.length=n) (h1:n<=cap) (h2:cap<=9223372036854775807) (hb:b<w.heap.size)
    (hc:∀ i,i<l.length->w.cell? ⟨b,off+i,none⟩=Option.some (.int k ((l.getD i 0:Nat):Int))):Holds k w (.slice (Option.some ⟨b,off,none⟩) n cap) l :=
 ⟨_,cap,b,off,by rw[hn],ae,h2,fun _=>⟨rfl,hb⟩,hc⟩
theorem Holds.cells {k:IntKind} {w:World} {v:Value} {l:List Nat} (h:Holds k w v l) (h0:0<l.length):∃ (b off cap:Nat),v = .slice (Option.some ⟨b,off,none⟩) l.length cap/\l.length<=cap/\cap<=9223372036854775807/\b<w.heap.size /\
    ∀ i,i<l.length->w.cell? ⟨b,off+i,none⟩=Option.some (.int k ((l.getD i 0:Nat):Int)):=by
 obtain⟨ad,cap,b,off,hv,h1,h2,h3,h4⟩:=h;exact⟨b,off,cap,by rw[hv,(h3 h0).1],h1,h2,(h3 h0).2,h4⟩
theorem Holds.bX{k:IntKind}{w:World}{base e n:Nat}{v:Value}{l:List Nat}(h:w.ownsRow base e 1 v n (l.map fun(x:Nat)=>Value.int k x)):Holds k w v l:=by
 have hlen:l.length=n:=by have:=h.1;simpa using this
 rcases h.2 with⟨rfl,h0⟩|⟨g,cap,cur,rfl,hg,hh,h1,h2,h3,h4⟩
 ·obtain rfl:l=[]:=List.length_eq_zero_iff.1 ae;exact Holds.nil _ _
 ·refine Holds.some hlen h1 h2 ?_ (fun i hi=>?_)
  ·rcases Nat.lt_or_ge g w.heap.size with h'|h'
   ·exact h'
   ·rw[Array.getElem?_eq_none h'] at hh;simp at hh
  ·have:=h.cellAt i ae;rw[Nat.zero_add,this];simp[hi]
theorem aQ (t e:TypeId) (hu:prog.underlying t=Option.some (.slice e)) (hs:∀ w,(sizeOf e).run prog w = .ok 1 w) {ad:Option Addr} {n cap b off:Nat} (h:0<n->ad=Option.some ⟨b,off,none⟩) (i:Nat) (hi:i<n) (w:World) :
    (Instr.indexAt t (.slice ad n cap) (.int .i64 (i:Int))).run prog w = .ok (.pointer (Option.some ⟨b,off+i,none⟩)) w:=by
 rw[h ae];simp[Instr.indexAt,asIntOf,run_underlying hu,hs,go_sem,hi,Addr.add]
def cz(w:World)(v:Value)(n:Nat):Prop:=∃ l,Holds .u64 w v l/\Canon 1000000000 l/\mv 1000000000 l=n
theorem cz.ext{w w':World}{v:Value}{n:Nat}(h:cz w v n)(e:Ext w w'):cz w' v n :=
 let ⟨l,h1,h2,h3⟩:=h;⟨l,h1.ext e,h2,h3⟩
def kR:Nat:=2000
structure Fit(n:Nat):Prop where
 out:n<1000000000 ^ kR
theorem Fit.len{n:Nat}{l:List Nat}(h:Fit n)(c:Canon 1000000000 l)(e:mv 1000000000 l=n):l.length<=2000 :=
 fL (k:=kR) af c (by rw[e];exact h.out)
theorem iV:(prog.info? 245).map (fun i=>(i.zero,i.size,i.bytes))=some (some (.int .u64 0),1,8):=ag
def zB(w:World)(l:List Nat)(e:Ending)(w':World):Prop :=
 ∃ v',e = .returned v'/\w=w'/\cz w v' (mv 1000000000 l)
def wB(w:World)(l:List Nat)(v:Value)(e:Ending)(w':World):Prop :=
 ∃ v',e = .returned v'/\w=w'/\cz w v' (mv 1000000000 l)/\∃ ad n k cap,v = .slice ad n cap/\v' = .slice ad k cap
theorem fK{l:List Nat}{k:Nat}(h0:0<k)(hz:∀ i (h:i<l.length),k<=i->l[i]=0)(h1:l[k-1]?.getD 0=0):∀ i (h:i<l.length),k-1<=i->l[i]=0:=by
 intro i h hi;by_cases e:i=k-1
 ·subst e;simpa[h] using h1
 ·exact hz i h ae
theorem lN {w:World} {l:List Nat} {b off cap n k:Nat} (hn:n=l.length) (hk:k<=n) (hcap:n<=cap) (hmax:cap<=9223372036854775807) (hb:b<w.heap.size)
    (hc:∀ i,i<l.length->w.cell? ⟨b,off+i,none⟩=some (.int .u64 ((l.getD i 0:Nat):Int))) (hl:aC 1000000000 l) (hz:∀ i (h:i<l.length),k<=i->l[i]=0)
    (hlast:k=0∨l[k-1]?.getD 0≠0):cz w (.slice (some ⟨b,off,none⟩) k cap) (mv 1000000000 l):=by
 have hlen:(l.take k).length=k:=by rw[List.length_take];omega
 have ht:=oY (B:=1000000000) (l:=l) (k:=k) ae hl hz (by
  rcases hlast with h|h
  ·exact Or.inl h
  ·by_cases h0:k=0
   ·exact Or.inl h0
   ·exact Or.inr ⟨ae,by simpa[show k-1<l.length by omega] using h⟩)
 refine⟨l.take k,Holds.some hlen ae hmax hb (fun i hi=>?_),ht.1,ht.2⟩;rw[hc i (by rw[hlen] at hi;omega)];rw[hlen] at hi;simp[hi]
set_option maxHeartbeats 400000 in
theorem rW (l:List Nat) (v:Value) (w:World) (h:Holds .u64 w v l) (hl:aC 1000000000 l) :
    Calls prog 238 #[v] w (wB w l v):=by
 by_cases hz:0<l.length
 ·obtain⟨b,off,cap,rfl,hcap,hmax,hb,hc⟩:=h.cells hz;obtain⟨n,hn⟩:∃ n,n=l.length:=⟨_,rfl⟩
  have hcap':n<=cap:=ae;have hn':n<=l.length:=ae;rw[← hn];have HN:=aj hn;clear hn h hz;go_enter func238,ntmps238;go_wp2;go_loop [0] (fun v=>∃ k:Nat,k<=n/\v = .slice (some ⟨b,off,none⟩) k cap/\∀ i (h:i<l.length),k<=i->l[i]=0)
   (fun v=>match v with | .slice _ k _=>k|_=>0)
  case atStart=>exact⟨n,Nat.le_refl _,rfl,fun i h1 h2=>by have:=HN.o;omega⟩
  case round =>
   obtain⟨k,hk,rfl,hz⟩:=hrel;by_cases h0:0<k
   ·have hcell:w.cell? ⟨b,off+(k-1),none⟩=some (.int .u64 ((l.getD (k-1) 0:Nat):Int)):=hc _ ae;go_wp2
    ·have h1:(((l[k-1]?.getD 0:Nat):Int) == 0)=true:=by assumption
     go_round
     case rel=>exact⟨k-1,ae,rfl,fK h0 hz (by simpa using h1)⟩
     case measure=>show k-1<k;omega
    ·have h1:(((l[k-1]?.getD 0:Nat):Int) == 0)=false:=by assumption
     go_ret;exact⟨_,rfl,rfl,lN HN.o hk hcap' hmax hb hc hl hz (Or.inr (by simpa using h1)),_,_,_,_,rfl,rfl⟩
   ·go_wp2;go_ret;exact⟨_,rfl,rfl,lN HN.o hk hcap' hmax hb hc hl hz (Or.inl ae),_,_,_,_,rfl,rfl⟩
 ·obtain rfl:l=[]:=List.length_eq_zero_iff.1 ae;obtain⟨ad,cap,b,off,rfl,_,hmax,_,_⟩:=h;simp only[List.length_nil];go_enter func238,ntmps238;go_wp2;go_loop [0] (fun v=>v = .slice ad 0 cap) (fun _=>0)
  case atStart=>rfl
  case round =>
   subst hrel;go_wp2;go_ret;exact⟨_,rfl,rfl,⟨[],Holds.empty _ _ _ _ hmax,Canon.nil _,rfl⟩,_,_,_,_,rfl,rfl⟩
theorem ik (l:List Nat) (v:Value) (w:World) (h:Holds .u64 w v l) (hl:aC 1000000000 l) :
    Calls prog 238 #[v] w (zB w l) :=
 (rW l v w h hl).mono fun _ _ ⟨v',h1,h2,h3,_⟩=>⟨v',h1,h2,h3⟩
end Go.Proofs.YtmahadmefplbnaaGreatDoor
