/- Part 27 of the proof: N4, Sgn. -/
import Derived.Test.YtjeimihnoiephaaGreatDoorQZ25
import Derived.Test.YtjeimihnoiephaaGreatDoorQZ26
set_option maxRecDepth 100000
namespace Go.Proofs.YtjeimihnoiephaaGreatDoor
open Go Go.RowKit
theorem right_q {s:ByteArray} (h:rq s=true):∃ q:Rat,s=qs q∧QB 200 q:=by
  obtain ⟨q,hq,hn,hd⟩:=rq_true.1 h
  refine ⟨q,?_,lt_of_dec_len hn,lt_of_dec_len hd⟩
  cases s with
  | mk d =>
    have:d.toList=ql q:=hq
    unfold qs
    congr 1
    rw [← this]
theorem right_v {t:T3} (h:t.l.all rq=true):∃ v:V3,t=⟨qs v.x,qs v.y,qs v.z⟩∧VB 200 v:=by
  simp only [T3.l,List.all_cons,List.all_nil,Bool.and_true,Bool.and_eq_true] at h
  obtain ⟨x,ex,hx⟩:=right_q h.1;obtain ⟨y,ey,hy⟩:=right_q h.2.1;obtain ⟨z,ez,hz⟩:=right_q h.2.2
  refine ⟨⟨x,y,z⟩,?_,hx,hy,hz⟩
  cases t
  simp only at ex ey ez
  rw [ex,ey,ez]
theorem right_p {t:T2} (h:t.l.all rq=true):∃ v:P2,t=⟨qs v.x,qs v.y⟩∧PB 200 v:=by
  simp only [T2.l,List.all_cons,List.all_nil,Bool.and_true,Bool.and_eq_true] at h
  obtain ⟨x,ex,hx⟩:=right_q h.1;obtain ⟨y,ey,hy⟩:=right_q h.2
  refine ⟨⟨x,y⟩,?_,hx,hy⟩
  cases t
  simp only at ex ey
  rw [ex,ey]
theorem qb_of_size {q:Rat} {k:Nat} (h:(qs q).size≤k):QB k q:=by
  rw [qs_size] at h
  by_cases hd:q.den=1
  · rw [ql_one hd] at h
    refine ⟨lt_of_zl_len h,?_⟩
    have:=List.length_pos_iff.2 (zl_ne q.num)
    rw [hd]
    exact Nat.one_lt_pow (by omega) (by decide)
  · rw [ql_frac hd,List.length_append,List.length_cons] at h
    exact ⟨lt_of_zl_len (by omega),lt_of_dec_len (by omega)⟩
end Go.Proofs.YtjeimihnoiephaaGreatDoor

namespace Go.Proofs.YtjeimihnoiephaaGreatDoor
open Go Go.RowKit
theorem rnum_neg {q:Rat}:q.num<0 ↔ q<0:=by
  have:=@Rat.num_nonneg q
  constructor
  · intro h;exact Rat.not_le.1 (fun e=>by have:=this.2 e;omega)
  · intro h;exact Int.not_le.1 (fun e=>(Rat.not_le.2 h) (this.1 e))
theorem rnum_pos {q:Rat}:0<q.num ↔ 0<q:=by
  have h:=Rat.lt_iff 0 q
  simp at h
  exact h.symm
theorem sgn_neg {q:Rat} {c d:Int} (h:q.num.sign=c) (e:-c=d):(-q).num.sign=d:=by rw [Rat.neg_num,Int.sign_neg,h,e]
theorem sgn_of_pos {q:Rat} (h:0<q):q.num.sign=1:=Int.sign_eq_one_of_pos (rnum_pos.2 h)
theorem sgn3 (q:Rat):q.num.sign=-1∨q.num.sign=0∨q.num.sign=1:=by
  rcases Int.sign_trichotomy q.num with h|h|h
  · exact Or.inr (Or.inr h)
  · exact Or.inr (Or.inl h)
  · exact Or.inl h
end Go.Proofs.YtjeimihnoiephaaGreatDoor
