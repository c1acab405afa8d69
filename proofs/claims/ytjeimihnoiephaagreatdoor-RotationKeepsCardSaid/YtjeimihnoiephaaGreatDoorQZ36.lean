/- Part 36 of the proof: Plain. -/
import Derived.ChangeSame
import Derived.ChangeArms
import Derived.OpenShut
import Derived.Below
set_option maxRecDepth 100000
namespace Go.Proofs.YtjeimihnoiephaaGreatDoor
open Go Go.RowKit Go.ChangeShapes Go.WideShapes
inductive Lf where
  | b
  | i (k:IntKind)
  | s
def Lf.fits:Lf→Value→Prop
  | .b,v=>∃ b,v = .bool b
  | .i k,v=>∃ n,v = .int k n∧(Lit.int k n).wf=true
  | .s,v=>∃ s,v = .string s∧s.size≤maxLen
def FitsL:List Lf→List Value→Prop
  | [],cs=>cs=[]
  | l :: ls,cs=>∃ v vs,cs=v :: vs∧l.fits v∧FitsL ls vs
theorem FitsL.append:∀ {l l':List Lf} {c c':List Value},FitsL l c→FitsL l' c'→FitsL (l ++ l') (c ++ c')
  | [],_,_,_,h,h'=>by cases h;exact h'
  | _ :: _,_,_,_,h,h'=>by
    obtain ⟨v,vs,rfl,hv,hs⟩:=h
    exact ⟨v,vs ++ _,rfl,hv,hs.append h'⟩

def fieldsRun (P:Program):List Field→Nat→Nat→Bool
  | [],o,e=>o == e
  | f :: fs,o,e=>f.offset == o && fieldsRun P fs (o+P.cellsOf f.type) e
def leafs (P:Program):Nat→TypeId→Option (List Lf)
  | 0,_=>none
  | n+1,t =>
    match P.underlying t with
    | some .bool=>some [.b]
    | some (.int k)=>some [.i k]
    | some .string=>some [.s]
    | some (.struct fs)=>if fieldsRun P fs.toList 0 (P.cellsOf t) then (fs.toList.mapM fun f=>leafs P n f.type).map List.flatten else none
    | some (.array k e)=>if P.cellsOf t=k*P.cellsOf e then (leafs P n e).map fun l=>(List.replicate k l).flatten else none
    | _=>none

section
variable {H:Type} {enc:TypeId × Value→H} {P:Program}
theorem fits_fields {w : World} {base : Nat} {sp : Nat → Bool} {held : Bool} {m n : Nat} {cs : List Value}
    (ih:∀ {t:TypeId} {l:List Lf} {c:List Value} {x:DataW H × List MemPlace},leafs P n t=some l→DataW.trod enc P w base sp held m t c=some x→FitsL l c) :
    ∀ (fs:List Field) (ls:List (List Lf)) (o:Nat),fieldsRun P fs o cs.length=true→fs.mapM (fun f=>leafs P n f.type)=some ls →
      (∀ f ∈ fs,∃ y,DataW.trod enc P w base sp held m f.type ((cs.drop f.offset).take (P.cellsOf f.type))=some y)→FitsL ls.flatten (cs.drop o)
  | [],ls,o,hr,hl,_=>by
    simp only [List.mapM_nil,Option.pure_def,Option.some.injEq] at hl
    subst hl
    simp only [fieldsRun,beq_iff_eq] at hr
    subst hr
    simp [FitsL]
  | f :: fs,ls,o,hr,hl,hy=>by
    simp only [List.mapM_cons,Option.bind_eq_bind,Option.bind_eq_some_iff,Option.pure_def,Option.some.injEq] at hl
    obtain ⟨l,h1,ls',h2,rfl⟩:=hl
    simp only [fieldsRun,Bool.and_eq_true,beq_iff_eq] at hr
    obtain ⟨ho,hr⟩:=hr
    obtain ⟨y,hy0⟩:=hy f (by simp)
    rw [ho] at hy0
    have a:=ih h1 hy0
    have b:=fits_fields ih fs ls' _ hr h2 (fun g hg=>hy g (by simp [hg]))
    have e:cs.drop o=(cs.drop o).take (P.cellsOf f.type) ++ cs.drop (o+P.cellsOf f.type):=by
      rw [← List.drop_drop,List.take_append_drop]
    rw [List.flatten_cons,e]
    exact a.append b
theorem fits_array {w : World} {base : Nat} {sp : Nat → Bool} {held : Bool} {m : Nat} {e : TypeId} {l : List Lf} {cs : List Value}
    (ih:∀ {c:List Value} {x:DataW H × List MemPlace},DataW.trod enc P w base sp held m e c=some x→FitsL l c) :
    ∀ (k:Nat),(∀ i<k,∃ y,DataW.trod enc P w base sp held m e ((cs.drop (i*P.cellsOf e)).take (P.cellsOf e))=some y)→FitsL (List.replicate k l).flatten (cs.take (k*P.cellsOf e))
  | 0,_=>by simp [FitsL]
  | k+1,hy=>by
    have a:=fits_array ih k (fun i hi=>hy i (by omega))
    obtain ⟨y,hy0⟩:=hy k (by omega)
    have b:=ih hy0
    have e1:cs.take ((k+1)*P.cellsOf e)=cs.take (k*P.cellsOf e) ++ (cs.drop (k*P.cellsOf e)).take (P.cellsOf e):=by
      rw [Nat.succ_mul,List.take_add]
    rw [List.replicate_succ',List.flatten_append,e1]
    exact a.append (by simpa using b)
theorem fits_of_trod {w : World} {base : Nat} {sp : Nat → Bool} {held : Bool} : ∀ (n : Nat) {fuel : Nat} {t : TypeId} {l : List Lf} {cs : List Value} {x : DataW H × List MemPlace},
    leafs P n t=some l→DataW.trod enc P w base sp held fuel t cs=some x→FitsL l cs
  | 0,_,_,_,_,_,h,_=>by simp [leafs] at h
  | n+1,fuel,t,l,cs,x,h,ht=>by
    cases fuel with
    | zero=>simp [DataW.trod] at ht
    | succ m =>
      unfold leafs at h
      cases hu:P.underlying t with
      | none=>simp [hu] at h
      | some u =>
        rw [hu] at h
        cases u <;> simp at h
        case bool=>subst h;obtain ⟨b,rfl,_⟩:=DataW.trod_bool hu ht;exact ⟨_,_,rfl,⟨b,rfl⟩,rfl⟩
        case int k=>subst h;obtain ⟨z,rfl,_,hw⟩:=DataW.trod_int hu ht;exact ⟨_,_,rfl,⟨z,rfl,hw⟩,rfl⟩
        case string=>subst h;obtain ⟨s,rfl,_,hs⟩:=DataW.trod_string hu ht;exact ⟨_,_,rfl,⟨s,rfl,hs⟩,rfl⟩
        case struct fs =>
          obtain ⟨hr,ls,hls,rfl⟩:=h
          obtain ⟨xs,m',e,_,hl,hlen,hf⟩:=DataW.trod_struct hu ht
          obtain rfl:m=m':=by omega
          have:=fits_fields (H:=H) (enc:=enc) (P:=P) (w:=w) (base:=base) (sp:=sp) (held:=held) (m:=m) (n:=n) (cs:=cs) (fun h1 h2=>fits_of_trod n h1 h2) fs.toList ls 0 (by rw [hl];exact hr) hls (by
            intro f hf0
            obtain ⟨i,hi,e⟩:=List.getElem_of_mem hf0
            have h1:=hf i f (by rw [← e];simp at hi ⊢)
            have hx:i<xs.length:=by simp at hi;omega
            exact ⟨xs[i],by rw [h1];simp [hx]⟩)
          simpa using this
        case array k e =>
          obtain ⟨hc,l',hl',rfl⟩:=h
          obtain ⟨xs,m',e0,_,hl,hlen,hf⟩:=DataW.trod_array hu ht
          obtain rfl:m=m':=by omega
          have:=fits_array (H:=H) (enc:=enc) (P:=P) (w:=w) (base:=base) (sp:=sp) (held:=held) (m:=m) (e:=e) (l:=l') (cs:=cs) (fun h2=>fits_of_trod n hl' h2) k (by
            intro i hi
            have h1:=hf i hi
            exact ⟨xs[i],by rw [h1];simp [hlen,hi]⟩)
          rw [List.take_of_length_le (by rw [hl,hc];exact Nat.le_refl _)] at this
          exact this

theorem mapM_same {α β:Type} {f g:α→Option (β × List MemPlace)}:∀ (l:List α) {r:List (β × List MemPlace)},(∀ a ∈ l,∀ y,f a=some y→g a=some y∧y.2=[])→l.mapM f=some r→l.mapM g=some r∧r.flatMap (·.2)=[]
  | [],r,_,h=>by
    simp only [List.mapM_nil,Option.pure_def,Option.some.injEq] at h
    subst h
    exact ⟨rfl,rfl⟩
  | a :: l,r,hs,h=>by
    simp only [List.mapM_cons,Option.bind_eq_bind,Option.bind_eq_some_iff,Option.pure_def,Option.some.injEq] at h
    obtain ⟨y,hy,r',hr,rfl⟩:=h
    obtain ⟨g1,g2⟩:=hs a (by simp) y hy
    obtain ⟨k1,k2⟩:=mapM_same l (fun b hb=>hs b (by simp [hb])) hr
    exact ⟨by simp [g1,k1],by simp [g2];simpa using k2⟩
theorem mapM_of_mem {α β:Type} {f:α→Option β}:∀ (l:List α) {r:List β} {a:α},l.mapM f=some r→a ∈ l→∃ b,f a=some b
  | [],_,_,_,h=>by cases h
  | x :: l,r,a,hm,h=>by
    simp only [List.mapM_cons,Option.bind_eq_bind,Option.bind_eq_some_iff,Option.pure_def,Option.some.injEq] at hm
    obtain ⟨y,hy,r',hr,rfl⟩:=hm
    rcases List.mem_cons.1 h with rfl|h
    · exact ⟨y,hy⟩
    · exact mapM_of_mem l hr h
theorem trod_any {w : World} {base : Nat} {sp : Nat → Bool} {held : Bool} (w' : World) (base' : Nat) (sp' : Nat → Bool) (held' : Bool) : ∀ (n : Nat) {fuel : Nat} {t : TypeId} {l : List Lf} {cs : List Value} {x : DataW H × List MemPlace},
    leafs P n t=some l→DataW.trod enc P w base sp held fuel t cs=some x→DataW.trod enc P w' base' sp' held' fuel t cs=some x∧x.2=[]
  | 0,_,_,_,_,_,h,_=>by simp [leafs] at h
  | n+1,fuel,t,l,cs,x,h,ht=>by
    cases fuel with
    | zero=>simp [DataW.trod] at ht
    | succ m =>
      unfold leafs at h
      cases hu:P.underlying t with
      | none=>simp [hu] at h
      | some u =>
        rw [hu] at h
        cases u <;> simp at h
        case bool=>subst h;obtain ⟨b,rfl,rfl⟩:=DataW.trod_bool hu ht;exact ⟨by simp [DataW.trod,hu],rfl⟩
        case int k=>subst h;obtain ⟨z,rfl,rfl,hw⟩:=DataW.trod_int hu ht;exact ⟨by simp [DataW.trod,hu,hw],rfl⟩
        case string=>subst h;obtain ⟨s,rfl,rfl,hs⟩:=DataW.trod_string hu ht;exact ⟨by simp [DataW.trod,hu,hs],rfl⟩
        case struct fs =>
          obtain ⟨_,ls,hls,_⟩:=h
          have h2:=ht
          unfold DataW.trod at h2 ⊢
          rw [hu] at h2 ⊢
          simp only at h2 ⊢
          split at h2
          · rename_i hl
            obtain ⟨xs,hm,rfl⟩:=Option.map_eq_some_iff.1 h2
            obtain ⟨k1,k2⟩:=mapM_same (g:=fun f=>DataW.trod enc P w' base' sp' held' m f.type ((cs.drop f.offset).take (P.cellsOf f.type))) _ (fun f hf y hy=>by
              obtain ⟨lf,hlf⟩:=mapM_of_mem _ hls hf
              exact trod_any w' base' sp' held' n hlf hy) hm
            exact ⟨by rw [if_pos hl,k1];rfl,k2⟩
          · cases h2
        case array k e =>
          obtain ⟨hc,l',hl',_⟩:=h
          have h2:=ht
          unfold DataW.trod at h2 ⊢
          rw [hu] at h2 ⊢
          simp only at h2 ⊢
          split at h2
          · rename_i hl
            obtain ⟨xs,hm,rfl⟩:=Option.map_eq_some_iff.1 h2
            obtain ⟨k1,k2⟩:=mapM_same (g:=fun i=>DataW.trod enc P w' base' sp' held' m e ((cs.drop (i*P.cellsOf e)).take (P.cellsOf e))) _ (fun i _ y hy=>trod_any w' base' sp' held' n hl' hy) hm
            exact ⟨by rw [if_pos hl,k1];rfl,k2⟩
          · cases h2
theorem open_plain {w : World} {base : Nat} {sp : Nat → Bool} {held : Bool} (n : Nat) {t : TypeId} {l : List Lf} {v : Value} {d : DataW H} {p : List MemPlace} (hl : leafs P n t = some l) (h : DataW.Trod enc P w base sp held t v d p) :
    FitsL l v.cells.toList∧p=[]∧∀ (w':World) (base':Nat) (sp':Nat→Bool) (held':Bool),DataW.Trod enc P w' base' sp' held' t v d []:=by
  obtain ⟨fuel,hf⟩:=h
  obtain ⟨_,hp⟩:=trod_any w base sp held n hl hf
  obtain rfl:p=[]:=hp
  exact ⟨fits_of_trod n hl hf,rfl,fun w' b' s' h'=>⟨fuel,(trod_any w' b' s' h' n hl hf).1⟩⟩
theorem agg_of_ok {w:World} {r:Reach} {b0:Nat} {t:TypeId} {v:Value} (hs:(∃ fs,P.underlying t=some (.struct fs))∨(∃ n e,P.underlying t=some (.array n e))) (hv:Value.okWide P w r b0 t v):∃ cs,v = .agg cs:=by
  rcases hs with ⟨fs,hs⟩|⟨n,e,hs⟩
  · simp only [Value.okWide,hs] at hv
    obtain ⟨cs,e,_⟩:=hv
    exact ⟨cs,e⟩
  · simp only [Value.okWide,hs] at hv
    obtain ⟨cs,e,_⟩:=hv
    exact ⟨cs,e⟩

theorem post_of_below {f : Func} {s : ChangeSpec} {apart fresh handsOn again : Bool} {W W' : World} {args : Array Value} {v : Value} {ds gs : List (DataW H)} {before pa pv : List MemPlace}
    (hW:DataW.Whole enc P f.params.toList s.vars apart W args.toList ds gs before)
    (hres:∀ (b:Nat) (sp:Nat→Bool) (hd:Bool),DataW.TrodAll enc P W' b sp hd f.resultTypes.toList (v.resultList f.resultTypes.size) (s.fn H (ds ++ gs)).results [])
    (hargs:∀ sp:Nat→Bool,(∀ p ∈ before,sp p.block=true)→DataW.TrodAll enc P W' 0 sp true f.params.toList args.toList (s.fn H (ds ++ gs)).args pa)
    (hvars:∀ sp:Nat→Bool,(∀ p ∈ before,sp p.block=true)→DataW.TrodVars enc P W' sp s.vars (s.fn H (ds ++ gs)).vars pv)
    (hps:before=pa ++ pv) (hb:Below W.heap.size W W')
    (hok:∀ (j:Nat) (t:TypeId) (r:Value),f.resultTypes[j]?=some t→(v.resultList f.resultTypes.size)[j]?=some r→Value.okWide P W' .any 0 t r) :
    s.post enc P f apart fresh handsOn again W args v W':=by
  have hlt:∀ p ∈ before,p.block<W.heap.size:=fun p hp=>hW.lt p hp
  have hold:∀ p ∈ before,(fun b=>decide (b<W.heap.size)) p.block=true:=fun p hp=>by simpa using hlt p hp
  refine ⟨ds,gs,before,[],pa,pv,hW,hres _ _ _,hargs _ hold,hvars _ hold,World.keptBut_mono (fun p hp=>⟨hp,?_⟩) (hb.frame (· ∈ before)),fun _=>?_⟩
  · rw [hps,List.mem_append] at hp
    exact Or.inr hp
  · obtain ⟨_,_,_,_,_,hz,hn⟩:=hW
    refine ⟨hok,_,_,([] ++ pa) ++ pv,⟨[] ++ pa,pv,trodAll_append (hargs _ (fun _ _=>rfl)) (hres _ _ _),hvars _ (fun _ _=>rfl),rfl,?_,?_⟩,?_⟩
    · intro b off hp
      have hin:MemPlace.cell b off ∈ before:=by rw [hps];simpa using hp
      rw [hb.frozen (hlt _ hin)]
      exact hz b off hin
    · intro ha
      have:=hn ha
      rw [hps] at this
      simpa using this
    · intro p hp _
      rw [hps]
      simpa using hp
end
end Go.Proofs.YtjeimihnoiephaaGreatDoor
