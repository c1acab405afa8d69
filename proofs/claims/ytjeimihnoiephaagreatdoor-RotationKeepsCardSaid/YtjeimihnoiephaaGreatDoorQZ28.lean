/- Part 28 of the proof: N11, M0, S64. -/
import Derived.Test.YtjeimihnoiephaaGreatDoorQZ27
import Derived.Lib.ParseIntBTie
set_option maxRecDepth 100000
namespace Go.Proofs.YtjeimihnoiephaaGreatDoor
open Go Go.RowKit
set_option linter.unusedVariables false
theorem decFrom_le:∀ (l:List UInt8) (acc u:Nat),Lib.decFrom acc l=some u→acc≤u
  | [],acc,u,h=>by simp only [Lib.decFrom] at h;injection h with h;omega
  | c :: r,acc,u,h=>by
    simp only [Lib.decFrom] at h
    split at h
    · have:=decFrom_le r _ u h;omega
    · cases h
theorem p10:∀ (l:List UInt8) (acc u:Nat),Lib.decFrom acc l=some u→u<1000000000000000000→Lib.parseUint10 acc l = .ok u
  | [],acc,u,h,_=>by simp only [Lib.decFrom] at h;injection h with h;simp only [Lib.parseUint10,h]
  | c :: r,acc,u,h,hu=>by
    simp only [Lib.decFrom,Lib.digitVal] at h
    simp only [Lib.parseUint10]
    by_cases hc:48≤c.toNat∧c.toNat≤57
    · rw [if_pos hc] at h ⊢
      simp only at h
      have:=decFrom_le r _ u h
      rw [if_neg (by omega),if_neg (by omega)]
      exact p10 r _ u h hu
    · rw [if_neg hc] at h;cases h
theorem parseMag_dec (u:Nat) (h:u<1000000000000000000):Lib.parseMag (Lib.decDigits u) = .ok u:=by
  have hd:=decNat_dec u
  unfold Lib.decNat at hd
  unfold Lib.parseMag
  rw [if_neg (dec_ne u)]
  refine p10 _ 0 u ?_ h
  split at hd
  · cases hd
  · exact hd
theorem atoiAll_zl (n:Int) (h:n.natAbs<1000000000000000000):Lib.atoiAll (zl n) = .ok n:=by
  by_cases h0:n<0
  · rw [zl_neg h0]
    simp only [Lib.atoiAll]
    rw [if_pos (Or.inr (by decide)),parseMag_dec _ h]
    simp only []
    rw [if_neg (by simp),if_neg (by omega),if_pos (by decide)]
    congr 1;omega
  · rw [zl_pos (by omega)]
    have hp:=parseMag_dec n.natAbs h
    have hd:=dec_digs n.natAbs
    cases hc:Lib.decDigits n.natAbs with
    | nil=>exact absurd hc (dec_ne _)
    | cons b t =>
      rw [hc] at hp hd
      have h1:b≠45:=not_minus (hd b (by simp))
      have h2:b≠43:=by
        intro e;subst e
        have:=hd 43 (by simp);simp [isDig] at this
      have h1':¬ b.toNat=45:=fun e=>h1 (UInt8.toNat_inj.1 e)
      have h2':¬ b.toNat=43:=fun e=>h2 (UInt8.toNat_inj.1 e)
      simp only [Lib.atoiAll]
      rw [if_neg (by omega),hp]
      simp only []
      rw [if_neg (by omega),if_neg (by omega),if_neg h1']
      congr 1;omega
theorem parseInt_c (n:Int) (h:n.natAbs<1000000000000000000) (w:World):Calls Tryz.prog 150 #[.string (zs n),.int .i64 10,.int .i64 64] w (Ret w (.tuple #[.int .i64 n,.nilIface])):=by
  have hl:(zs n).size≤9223372036854775806:=by
    have:=zl_len_le (n:=n) (k:=18) (by decide) h
    rw [zs_size];omega
  exact (Tryz.strconv_ParseInt_10_at64_ok (zs n) hl n (by rw [Lib.parseIntB_64,zs_list];exact atoiAll_zl n h) w).mono fun _ _ ⟨h,hw⟩=>⟨h,by
    rcases hw with e|⟨t,e⟩
    · rw [e];exact Ext.refl _
    · rw [e];exact Lib.bytesWorld_below _ _ _⟩
theorem eu_lt {a b:Int} {M:Nat} (hb:b.natAbs<M) (h:¬ b=0):(a.tmod b).natAbs<M:=by
  rw [Int.natAbs_tmod];have:=Nat.mod_lt a.natAbs (y:=b.natAbs) (by omega);omega
theorem eu_gcd (a b:Int):Int.gcd b (a.tmod b)=Int.gcd a b:=by
  unfold Int.gcd;rw [Int.natAbs_tmod,Nat.gcd_comm a.natAbs,Nat.gcd_rec b.natAbs a.natAbs,Nat.gcd_comm (a.natAbs % b.natAbs)]
theorem eu_meas {a b:Int} (h:¬ b=0):(intOf (.int .i64 (a.tmod b))).natAbs<(intOf (.int .i64 b)).natAbs:=by
  simp only [intOf];rw [Int.natAbs_tmod];exact Nat.mod_lt _ (by omega)

set_option maxHeartbeats 2000000 in
theorem ismall_c (n:Int) (w:World) (g:Gd w) (h:n.natAbs<1000000000000000000):Calls Tryz.prog 100 #[.string (zs n)] w (Ret w (.tuple #[.int .i64 n,.bool true])):=by
  have H:=Lib.hid h
  have HG:=Lib.hid g
  clear h g
  go_enter Tryz.func100,Tryz.ntmps100
  go_wp2_with fail
  refine (parseInt_c n H.out _).mono ?_;rintro e w1 ⟨rfl,e1⟩
  have HX1:Hid (Ext w w1):=Lib.hid ((Ext.refl w).trans e1)
  clear e1
  go_wp2
  go_ret2
  exact ⟨rfl,HX1.out⟩

end Go.Proofs.YtjeimihnoiephaaGreatDoor

namespace Go.Proofs.YtjeimihnoiephaaGreatDoor
theorem m0:True:=by
  /- sof_c fqof1_c whole_c zs_size_le mul_den_int plcm_pos plcm_dvd qden_pos decFrom_le decNat_dec dec_ne dec_digs not_minus isDig gcd_ne sign_c neg_c ineg_c vCheck_ok vcheck_c vPrim_ok vPrim_zero prim_plain fright_yes fright_no rcheck_yes rcheck_not rcheck_c radd_c rsub_c rmul_c rneg_c rsign_c sum3_c numbers_c fqright_c terr rq_true rq_false T3 T2 TS TS2 tv tp vv pv VB PB rq_qs qs_is0 qs_not0 qs_eqL qs_neL z3 region_lin Rn.mem RnL.cons qs_zero qs_one ql_inj rwhole_c whole_c of_c parts_c new_c wp_name keepsH1 elim0 elim1 elim2 elim3 ext0a ext0b ext1a ext1b ext2a ext2b ext3a ext3b VB.mono PB.mono VB.ts PB.ts VB.all PB.all gall_true gall_false cells2 cells3 cells4 sizes2 sizes3 right_q Blk.new' Blk.other QB.inum QB.iden QD QD.div QD.qb small_c isign_c ineg_c tri num_sign_neg num_sign_pos qcmp_sign qcmp_le make_c pvec ppt PlaOk Pla plc fqof_c fqof1_c sdot_x sscale_x ssub_x sadd_x sright_c sright_3 vDot_ok vCross_ok gcd_c gcd_0 gcd_1 imul_1 mul_c divmod_c parts_c close_c plus_c divide_c order_c open_c sign_c neg_c abs_c fqmul_c fqadd_c fqright_c keepsH1 cell_set_ne cell_set_off qcmp_lt qcmp_bd qcmp_self qcmp vwhole vprim prim_plain PrimOk atoiAll_zl parseInt_c ismall_c eu_lt eu_gcd eu_meas zs_one zs_zero right_q right_v right_p qb_of_size sgn_of_pos sgn3 sgn_neg rnum_neg rnum_pos sq_nonneg qs_is0 lt_of_zl_len zl_len_le mkRat_one new_c prim24 icheck Fd Fit Mag mv MagPost DivPost OrderPost ncmp run_index Holds ret_str max_neg gcd_step Int zs zl qs_int sizes1 sizes2 sizes3 tv tp T3 T2 keepsH2 nerr NErr vcheck_c drew -/
  trivial
end Go.Proofs.YtjeimihnoiephaaGreatDoor

namespace Go.Proofs.YtjeimihnoiephaaGreatDoor
open Go Go.RowKit
set_option linter.unusedVariables false
theorem p10_64:∀ (l:List UInt8) (acc u:Nat),Lib.decFrom acc l=some u→u<18446744073709551616→Lib.parseUint10 acc l = .ok u
  | [],acc,u,h,_=>by simp only [Lib.decFrom] at h;injection h with h;simp only [Lib.parseUint10,h]
  | c :: r,acc,u,h,hu=>by
    simp only [Lib.decFrom,Lib.digitVal] at h
    simp only [Lib.parseUint10]
    by_cases hc:48≤c.toNat∧c.toNat≤57
    · rw [if_pos hc] at h ⊢
      simp only at h
      have:=decFrom_le r _ u h
      rw [if_neg (by omega),if_neg (by omega)]
      exact p10_64 r _ u h hu
    · rw [if_neg hc] at h;cases h
theorem decFrom_dec (u:Nat):Lib.decFrom 0 (Lib.decDigits u)=some u:=by
  have hd:=decNat_dec u
  unfold Lib.decNat at hd
  split at hd
  · cases hd
  · exact hd
theorem parseMag_64 (u:Nat) (h:u<18446744073709551616):Lib.parseMag (Lib.decDigits u) = .ok u:=by
  unfold Lib.parseMag
  rw [if_neg (dec_ne u)]
  exact p10_64 _ 0 u (decFrom_dec u) h
theorem zl_pos_head {n:Int} (h:0≤n):∃ b t,zl n=b :: t∧¬ b.toNat=45∧¬ b.toNat=43∧b :: t=Lib.decDigits n.natAbs:=by
  rw [zl_pos h]
  have hd:=dec_digs n.natAbs
  cases hc:Lib.decDigits n.natAbs with
  | nil=>exact absurd hc (dec_ne _)
  | cons b t =>
    rw [hc] at hd
    have h1:b≠45:=not_minus (hd b (by simp))
    have h2:b≠43:=by
      intro e;subst e
      have:=hd 43 (by simp);simp [isDig] at this
    exact ⟨b,t,rfl,fun e=>h1 (UInt8.toNat_inj.1 e),fun e=>h2 (UInt8.toNat_inj.1 e),rfl⟩
theorem atoi64 (n:Int) (h0:-9223372036854775808≤n) (h1:n≤9223372036854775807):Lib.atoiAll (zl n) = .ok n:=by
  by_cases h:n<0
  · rw [zl_neg h]
    simp only [Lib.atoiAll]
    rw [if_pos (Or.inr (by decide)),parseMag_64 _ (by omega)]
    simp only []
    rw [if_neg (by simp),if_neg (by omega),if_pos (by decide)]
    congr 1;omega
  · obtain ⟨b,t,e,hb1,hb2,hd⟩:=zl_pos_head (n:=n) (by omega)
    rw [e]
    have hp:=parseMag_64 n.natAbs (by omega)
    rw [← hd] at hp
    simp only [Lib.atoiAll]
    rw [if_neg (by omega),hp]
    simp only []
    rw [if_neg (by omega),if_neg (by omega),if_neg hb1]
    congr 1;omega
theorem ismall_in (n:Int) (w:World) (g:Gd w) (h0:-9223372036854775808≤n) (h1:n≤9223372036854775807):Calls Tryz.prog 100 #[.string (zs n)] w (Ret w (.tuple #[.int .i64 n,.bool true])):=by
  have hl:(zs n).size≤9223372036854775806:=by
    have:=zl_len_le (n:=n) (k:=19) (by decide) (by omega)
    rw [zs_size];omega
  have hp:=(Tryz.strconv_ParseInt_10_at64_ok (zs n) hl n (by rw [Lib.parseIntB_64,zs_list];exact atoi64 n h0 h1) w)
  have HP:=Lib.hid hp
  have HG:=Lib.hid g
  clear hl hp g h0 h1
  go_enter Tryz.func100,Tryz.ntmps100
  go_wp2_with fail
  refine HP.out.mono ?_;rintro e w1 ⟨rfl,hw⟩
  have hx:Ext w w1:=by
    rcases hw with e|⟨t,e⟩
    · rw [e];exact Ext.refl _
    · rw [e];exact Lib.bytesWorld_below _ _ _
  have HX1:=Lib.hid hx
  clear hw hx
  go_wp2
  go_ret2
  exact ⟨rfl,HX1.out⟩
end Go.Proofs.YtjeimihnoiephaaGreatDoor
