/- Part 12. -/
import Derived.Test.YtmahadmefplbnaaGreatDoorQVLA
import Derived.OrdersIn
import Derived.OrdersHeld
import Derived.Deep.RegionHeld
import Derived.OwnWalkIn
set_option maxRecDepth 100000
set_option maxHeartbeats 2000000
namespace Go.Proofs.YtmahadmefplbnaaGreatDoor
open Go
def mQ(o:Oper):Bool:=match o.op with
 | .call _ | .go _ | .defer _ | .send .. | .recv .. | .select .. | .panic _ | .nilCheck _=>false
 | _=>true
theorem Km{P:Program}{w:World}(s:Sem Value):(do pure (Next.value (← s)):Sem Next).run P w=match s.run P w with | .ok v w' => .ok (.value v) w' | .halt h w' => .halt h w':=by
 rw[Sem.run_bind];cases s.run P w <;> rfl
theorem ML{P:Program}{w:World}(s:Sem Unit):(do s;pure Next.skip:Sem Next).run P w=match s.run P w with | .ok _ w' => .ok .skip w' | .halt h w' => .halt h w':=by
 rw[Sem.run_bind];cases s.run P w <;> rfl
theorem Ay {P:Program} {w:World} {ρ:Operand->Value} {o:Oper} (h:mQ o=true) :
    (∃ v w',(execOp ρ o).run P w = .ok (.value v) w')∨(∃ w',(execOp ρ o).run P w = .ok .skip w')∨∃ x w',(execOp ρ o).run P w = .halt x w':=by
 have V:∀ s:Sem Value,(∃ v w',(do pure (Next.value (← s)):Sem Next).run P w = .ok (.value v) w')∨(∃ w',(do pure (Next.value (← s)):Sem Next).run P w = .ok .skip w')∨∃ x w',(do pure (Next.value (← s)):Sem Next).run P w = .halt x w':=fun s=>by
  rw[Km];cases s.run P w with
  | ok v w'=>exact Or.inl ⟨v,w',rfl⟩
  | halt x w'=>exact Or.inr (Or.inr ⟨x,w',rfl⟩)
 have U:∀ s:Sem Unit,(∃ v w',(do s;pure Next.skip:Sem Next).run P w = .ok (.value v) w')∨(∃ w',(do s;pure Next.skip:Sem Next).run P w = .ok .skip w')∨∃ x w',(do s;pure Next.skip:Sem Next).run P w = .halt x w':=fun s=>by
  rw[ML];cases s.run P w with
  | ok v w'=>exact Or.inr (Or.inl ⟨w',rfl⟩)
  | halt x w'=>exact Or.inr (Or.inr ⟨x,w',rfl⟩)
 unfold mQ at h;unfold execOp;cases ho:o.op <;> rw[ho] at h <;> first
  | (cases h;done)
  | exact V _
  | exact U _
  | exact Or.inl ⟨_,_,rfl⟩
  | skip
 rename_i c a b;dsimp only;rw[Sem.run_bind];cases (asBool (ρ c)).run P w with
 | ok v w'=>exact Or.inl ⟨_,w',rfl⟩
 | halt x w'=>exact Or.inr (Or.inr ⟨x,w',rfl⟩)
section
variable {F:Fence} {n:Nat} {P:Program} {ops:Array Oper} {md:Region.Mode}
theorem uW{Q:Exit->Act->World->Prop}(hQ:¬ LetsOut Q){i:Nat}(hp:∀ o:Oper,ops[i]?=some o->mQ o=true){K K':Act->World->Prop}(hK:∀ a w,K a w->K' a w){a:Act}{w:World}(h:wpOp P ops Q i K a w):wpOpIn F n P ops Q i K' a w:=by
 unfold wpOp at h;unfold wpOpIn;cases ho:ops[i]? with
 | none=>simp only[ho] at h ⊢;exact hK _ _ h
 | some o =>
  simp only[ho] at h ⊢;have Xy:=hp o ho;have XR:∀ (ρ:Operand->Value) (w:World),o.about P w ρ=none:=fun ρ w=>by
   unfold mQ at Xy;unfold Oper.about;cases hop:o.op <;> rw[hop] at Xy <;> first|(cases Xy;done)|rfl
  have hnd:∀ c,o.op ≠ .defer c:=fun c e=>by unfold mQ at Xy;rw[e] at Xy;cases Xy
  split at h
  ·rename_i hw;rw[if_pos hw];rcases h with h|h
   ·unfold Oper.wp at h;unfold Oper.wpIn;refine⟨fun f hf=>(by rw[XR] at hf;cases hf),?_⟩;rw[Oper.semAt_plain F _ _ hnd];rcases Ay (P:=P) (w:=w) (ρ:=a.eval) Xy with⟨v,w',hr⟩|⟨w',hr⟩|⟨x,w',hr⟩
    ·rw[hr] at h ⊢;exact hK _ _ h
    ·rw[hr] at h ⊢;exact hK _ _ h
    ·rw[hr] at h ⊢;cases x <;> first|exact h|exact h.elim
   ·exact absurd h.2 hQ
  ·rename_i hw;rw[if_neg hw];exact⟨fun f hf=>(by rw[XR] at hf;cases hf),hK _ _ h⟩
theorem lZ{Q:Exit->Act->World->Prop}(hQ:¬ LetsOut Q)(hp:∀ (i:Nat) (o:Oper),ops[i]?=some o->mQ o=true):∀ (fuel:Nat) (listed:Array Bool) (a:Act) (w:World),wpAny P md ops Q fuel listed a w->wpAnyIn F n P md ops Q fuel listed a w
 | 0,_,_,_,h=>h
 | fuel+1,_,_,_,h=>⟨h.1,fun i hi=>uW hQ (hp i) (fun a w=>lZ hQ hp fuel _ a w) (h.2 i hi)⟩
theorem sE {id:Nat} {Q:Exit->Act->World->Prop} {a:Act} {w:World} (S:World->Prop) (hm:P.follows .mixedOrders=true) (hQ:¬ LetsOut Q) (hp:ops.all mQ=true) (hS:S w.drew)
    (h:S w.drew->wpAnyH P .any ops Q S ops.size (Array.replicate ops.size false) a w.drew):(Code.region id ops true).wpIn F n P Q a w:=by
 refine wpIn_region_any hm (lZ hQ (fun i o ho=>?_) _ _ _ _ (wpAny_of_held _ _ _ _ (h hS)));have:o ∈ ops:=Array.mem_of_getElem? ho;exact Array.all_eq_true'.1 hp o this
end
