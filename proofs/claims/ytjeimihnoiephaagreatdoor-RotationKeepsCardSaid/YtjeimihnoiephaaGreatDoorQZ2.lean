/- Part 2 of the proof: Q. -/
import Derived.Test.YtjeimihnoiephaaGreatDoorQZ1
import Derived.Lib.IndexMore
import Derived.Lib.Bytealg
set_option maxRecDepth 100000
namespace Go.Proofs.YtjeimihnoiephaaGreatDoor
open Go
def ql (q:Rat):List UInt8:=if q.den=1 then zl q.num else zl q.num ++ 47 :: Lib.decDigits q.den
def qs (q:Rat):ByteArray:=⟨(ql q).toArray⟩

theorem qs_list (q:Rat):(qs q).data.toList=ql q:=by simp [qs]
theorem qs_size (q:Rat):(qs q).size=(ql q).length:=by simp [qs,ByteArray.size]
theorem ql_int (n:Int):ql (n:Rat)=zl n:=by simp [ql]
theorem qs_int (n:Int):qs (n:Rat)=zs n:=by unfold qs zs;rw [ql_int]
theorem ql_one {q:Rat} (h:q.den=1):ql q=zl q.num:=by unfold ql;rw [if_pos h]
theorem ql_frac {q:Rat} (h:q.den≠1):ql q=zl q.num ++ 47 :: Lib.decDigits q.den:=by unfold ql;rw [if_neg h]

theorem dig_not_slash {b:UInt8} (h:isDig b=true):b≠47:=by intro e;subst e;simp [isDig] at h

theorem dec_no_slash (u:Nat):(47:UInt8) ∉ Lib.decDigits u:=fun h=>dig_not_slash (dec_digs u _ h) rfl

theorem zl_no_slash (n:Int):(47:UInt8) ∉ zl n:=by
  by_cases h:n<0
  · rw [zl_neg h]
    intro e
    rcases List.mem_cons.1 e with e|e
    · exact absurd e (by decide)
    · exact dec_no_slash _ e
  · rw [zl_pos (by omega)];exact dec_no_slash _

theorem slash_split:∀ {l l' t t':List UInt8},(47:UInt8) ∉ l→(47:UInt8) ∉ l'→l ++ 47 :: t=l' ++ 47 :: t'→l=l'∧t=t'
  | [],[],t,t',_,_,h=>⟨rfl,by simpa using h⟩
  | [],b :: l',t,t',_,h',h=>by simp at h;exact absurd h.1 (fun e=>h' (by simp [← e]))
  | a :: l,[],t,t',hl,_,h=>by simp at h;exact absurd h.1 (fun e=>hl (by simp [e]))
  | a :: l,b :: l',t,t',hl,hl',h=>by
    simp only [List.cons_append,List.cons.injEq] at h
    obtain ⟨e,h⟩:=h
    have:=slash_split (fun e=>hl (List.mem_cons_of_mem _ e)) (fun e=>hl' (List.mem_cons_of_mem _ e)) h
    exact ⟨by rw [e,this.1],this.2⟩

theorem ql_inj {a b:Rat} (h:ql a=ql b):a=b:=by
  by_cases ha:a.den=1 <;> by_cases hb:b.den=1
  · rw [ql_one ha,ql_one hb] at h
    exact Rat.ext (zl_inj h) (by rw [ha,hb])
  · rw [ql_one ha,ql_frac hb] at h
    exact absurd (h▸zl_no_slash a.num) (by simp)
  · rw [ql_frac ha,ql_one hb] at h
    exact absurd (h.symm▸zl_no_slash b.num) (by simp)
  · rw [ql_frac ha,ql_frac hb] at h
    obtain ⟨h1,h2⟩:=slash_split (zl_no_slash _) (zl_no_slash _) h
    exact Rat.ext (zl_inj h1) (dec_inj h2)

theorem ql_ne (q:Rat):ql q≠[]:=by
  by_cases h:q.den=1
  · rw [ql_one h];exact zl_ne _
  · rw [ql_frac h];simp

theorem ql_head_neg {q:Rat}:(ql q).head?=some 45 ↔ q.num<0:=by
  by_cases h:q.den=1
  · rw [ql_one h];exact zl_head_neg
  · rw [ql_frac h,List.head?_append]
    rw [← zl_head_neg]
    cases hz:zl q.num with
    | nil=>exact absurd hz (zl_ne _)
    | cons b t=>simp

theorem ql_neg_num {q:Rat} (h:q.num<0):ql q=45 :: ql (-q):=by
  have e:zl q.num=45 :: zl (-q.num):=by rw [zl_neg h,zl_pos (by omega),Int.natAbs_neg]
  by_cases h1:q.den=1
  · rw [ql_one h1,ql_one (by simpa using h1),e];rfl
  · rw [ql_frac h1,ql_frac (by simpa using h1),e];rfl

theorem ql_neg_pos {q:Rat} (h:0<q.num):ql (-q)=45 :: ql q:=by
  have:=ql_neg_num (q:=-q) (by simp;omega)
  rw [this,Rat.neg_neg]

theorem q0_iff {q:Rat}:ql q=[48] ↔ q=0 :=
  ⟨fun h=>ql_inj (by rw [h];exact (by rw [show (0:Rat)=((0:Int):Rat) from rfl,ql_int,zl_0])),fun h=>by subst h;rw [show (0:Rat)=((0:Int):Rat) from rfl,ql_int,zl_0]⟩
theorem q1_iff {q:Rat}:ql q=[49] ↔ q=1 :=
  ⟨fun h=>ql_inj (by rw [h];exact (by rw [show (1:Rat)=((1:Int):Rat) from rfl,ql_int,zl_1])),fun h=>by subst h;rw [show (1:Rat)=((1:Int):Rat) from rfl,ql_int,zl_1]⟩

theorem qs_zero:qs 0=⟨#[48]⟩:=by unfold qs;rw [q0_iff.2 rfl]
theorem qs_one:qs 1=⟨#[49]⟩:=by unfold qs;rw [q1_iff.2 rfl]
theorem zs_zero:zs 0=⟨#[48]⟩:=by unfold zs;rw [zl_0]
theorem zs_one:zs 1=⟨#[49]⟩:=by unfold zs;rw [zl_1]

class IB (k:Nat) (n:Int):Prop where
  out:n.natAbs<10 ^ k
class QB (k:Nat) (q:Rat):Prop where
  num:q.num.natAbs<10 ^ k
  den:q.den<10 ^ k

theorem IB.mono {k m:Nat} {n:Int} (h:IB k n) (hk:k≤m):IB m n:=⟨Nat.lt_of_lt_of_le h.out (Nat.pow_le_pow_right (by decide) hk)⟩
theorem QB.mono {k m:Nat} {q:Rat} (h:QB k q) (hk:k≤m):QB m q :=
  ⟨Nat.lt_of_lt_of_le h.num (Nat.pow_le_pow_right (by decide) hk),Nat.lt_of_lt_of_le h.den (Nat.pow_le_pow_right (by decide) hk)⟩

theorem lt_mul_pow {a b k m:Nat} (ha:a<10 ^ k) (hb:b<10 ^ m):a*b<10 ^ (k+m):=by
  rw [Nat.pow_add]
  exact Nat.mul_lt_mul'' ha hb

theorem lt_add_pow {a b k m:Nat} (ha:a<10 ^ k) (hb:b<10 ^ m):a+b<10 ^ (max k m+1):=by
  have h1:a<10 ^ max k m:=Nat.lt_of_lt_of_le ha (Nat.pow_le_pow_right (by decide) (Nat.le_max_left _ _))
  have h2:b<10 ^ max k m:=Nat.lt_of_lt_of_le hb (Nat.pow_le_pow_right (by decide) (Nat.le_max_right _ _))
  rw [Nat.pow_succ];omega

theorem IB.add {k m:Nat} {a b:Int} (ha:IB k a) (hb:IB m b):IB (max k m+1) (a+b) :=
  ⟨Nat.lt_of_le_of_lt (Int.natAbs_add_le _ _) (lt_add_pow ha.out hb.out)⟩
theorem IB.mul {k m:Nat} {a b:Int} (ha:IB k a) (hb:IB m b):IB (k+m) (a*b) :=
  ⟨by rw [Int.natAbs_mul];exact lt_mul_pow ha.out hb.out⟩
theorem IB.neg {k:Nat} {a:Int} (ha:IB k a):IB k (-a):=⟨by rw [Int.natAbs_neg];exact ha.out⟩
theorem IB.of_le {k:Nat} {a b:Int} (ha:IB k a) (h:b.natAbs≤a.natAbs):IB k b:=⟨Nat.lt_of_le_of_lt h ha.out⟩

theorem mkRat_num_le (n:Int) (d:Nat):(mkRat n d).num.natAbs≤n.natAbs:=by
  rw [Rat.num_mkRat]
  split
  · simp
  · exact Int.natAbs_ediv_le_natAbs _ _

theorem mkRat_den_le (n:Int) (d:Nat) (h:d≠0):(mkRat n d).den≤d:=by
  rw [Rat.den_mkRat,if_neg h]
  exact Nat.div_le_self _ _

theorem QB.mk' {k:Nat} {n:Int} {d:Nat} (h0:d≠0) (h1:n.natAbs<10 ^ k) (h2:d<10 ^ k):QB k (mkRat n d) :=
  ⟨Nat.lt_of_le_of_lt (mkRat_num_le _ _) h1,Nat.lt_of_le_of_lt (mkRat_den_le _ _ h0) h2⟩

theorem QB.neg {k:Nat} {a:Rat} (ha:QB k a):QB k (-a):=⟨by rw [Rat.neg_num,Int.natAbs_neg];exact ha.num,ha.den⟩

theorem QB.add {k m:Nat} {a b:Rat} (ha:QB k a) (hb:QB m b):QB (k+m+1) (a+b):=by
  rw [Rat.add_def']
  refine QB.mk' (Nat.mul_ne_zero a.den_nz b.den_nz) ?_ ?_
  · refine Nat.lt_of_le_of_lt (Int.natAbs_add_le _ _) ?_
    rw [Int.natAbs_mul,Int.natAbs_mul,Int.natAbs_natCast,Int.natAbs_natCast]
    have h1:=lt_mul_pow ha.num hb.den
    have h2:=lt_mul_pow ha.den hb.num
    rw [Nat.mul_comm b.num.natAbs,Nat.pow_succ]
    omega
  · exact Nat.lt_of_lt_of_le (lt_mul_pow ha.den hb.den) (Nat.pow_le_pow_right (by decide) (by omega))

theorem QB.sub {k m:Nat} {a b:Rat} (ha:QB k a) (hb:QB m b):QB (k+m+1) (a-b):=by
  rw [Rat.sub_eq_add_neg];exact ha.add hb.neg

theorem QB.mul {k m:Nat} {a b:Rat} (ha:QB k a) (hb:QB m b):QB (k+m) (a*b):=by
  rw [Rat.mul_def']
  exact QB.mk' (Nat.mul_ne_zero a.den_nz b.den_nz) (by rw [Int.natAbs_mul];exact lt_mul_pow ha.num hb.num) (lt_mul_pow ha.den hb.den)

theorem QB.inv {k:Nat} {a:Rat} (ha:QB k a) (hk:1≤k):QB k a⁻¹:=by
  constructor
  · rw [Rat.num_inv,Int.natAbs_mul,Int.natAbs_natCast]
    have:a.num.sign.natAbs≤1:=by rw [Int.natAbs_sign];split <;> omega
    exact Nat.lt_of_le_of_lt (Nat.mul_le_mul_right _ this) (by rw [Nat.one_mul];exact ha.den)
  · rw [Rat.den_inv]
    split
    · exact Nat.one_lt_pow (by omega) (by decide)
    · exact ha.num

theorem QB.div {k m:Nat} {a b:Rat} (ha:QB k a) (hb:QB m b) (hm:1≤m):QB (k+m) (a / b):=by
  rw [Rat.div_def];exact ha.mul (hb.inv hm)

theorem QB.int {k:Nat} {n:Int} (h:IB k n) (hk:1≤k):QB k (n:Rat) :=
  ⟨h.out,Nat.one_lt_pow (by omega) (by decide)⟩

theorem gcd_step (a b:Int):Int.gcd b (a.tmod b)=Int.gcd a b:=by
  rw [Int.gcd_eq_natAbs_gcd_natAbs,Int.natAbs_tmod,Int.gcd_eq_natAbs_gcd_natAbs,Nat.gcd_comm,← Nat.gcd_rec,Nat.gcd_comm]

theorem mkRat_parts (n:Int) (d g:Nat) (hd:d≠0) (hg:Int.gcd n d=g):(mkRat n d).num=n.tdiv g∧(mkRat n d).den=d / g:=by
  have e:d.gcd n.natAbs=g:=by rw [Nat.gcd_comm,← hg];rfl
  rw [Rat.num_mkRat,Rat.den_mkRat,if_neg hd,if_neg hd,e]
  refine ⟨?_,rfl⟩
  have hdv:(g:Int)∣n:=by rw [← hg];exact Int.gcd_dvd_left _ _
  exact (Int.tdiv_eq_ediv_of_dvd hdv).symm

def joinl (n:Int) (d:Nat):List UInt8:=if d=1 then zl n else zl n ++ 47 :: Lib.decDigits d
theorem ql_join (q:Rat):ql q=joinl q.num q.den:=rfl
theorem ql_mkRat {n:Int} {d g:Nat} (hd:d≠0) (hg:Int.gcd n d=g):ql (mkRat n d)=joinl (n.tdiv g) (d / g):=by
  rw [ql_join,(mkRat_parts n d g hd hg).1,(mkRat_parts n d g hd hg).2]

theorem mkRat_one (n:Int):mkRat n 1=(n:Rat):=Rat.ext (by rw [Rat.num_mkRat,if_neg (by decide)];simp) (by rw [Rat.den_mkRat,if_neg (by decide)];simp)

end Go.Proofs.YtjeimihnoiephaaGreatDoor
