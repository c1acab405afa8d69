/- Part 63 of the proof: S64. -/
import Derived.Test.YtjeimihnoiephaaGreatDoorQX1
import Derived.Test.YtjeimihnoiephaaGreatDoorQX2
import Derived.Test.YtjeimihnoiephaaGreatDoorQX3
import Derived.Test.YtjeimihnoiephaaGreatDoorQX4
import Derived.Test.YtjeimihnoiephaaGreatDoorQX5
import Derived.Test.YtjeimihnoiephaaGreatDoorQX6
import Derived.Test.YtjeimihnoiephaaGreatDoorQX7
import Derived.Test.YtjeimihnoiephaaGreatDoorQX8
import Derived.Test.YtjeimihnoiephaaGreatDoorQX9
import Derived.Test.YtjeimihnoiephaaGreatDoorQX10
import Derived.Test.YtjeimihnoiephaaGreatDoorQX11
import Derived.Test.YtjeimihnoiephaaGreatDoorQX12
import Derived.Test.YtjeimihnoiephaaGreatDoorQX13
import Derived.Test.YtjeimihnoiephaaGreatDoorQX14
import Derived.Test.YtjeimihnoiephaaGreatDoorQX15
import Derived.Test.YtjeimihnoiephaaGreatDoorQX16
import Derived.Test.YtjeimihnoiephaaGreatDoorQX17
import Derived.Test.YtjeimihnoiephaaGreatDoorQX18
import Derived.Test.YtjeimihnoiephaaGreatDoorQX19
import Derived.Test.YtjeimihnoiephaaGreatDoorQX20
import Derived.Test.YtjeimihnoiephaaGreatDoorQX21
import Derived.Test.YtjeimihnoiephaaGreatDoorQX22
import Derived.Test.YtjeimihnoiephaaGreatDoorQX23
import Derived.Test.YtjeimihnoiephaaGreatDoorQX24
import Derived.Test.YtjeimihnoiephaaGreatDoorQX25
import Derived.Test.YtjeimihnoiephaaGreatDoorQX26
import Derived.Test.YtjeimihnoiephaaGreatDoorQX27
import Derived.Test.YtjeimihnoiephaaGreatDoorQX28
import Derived.Test.YtjeimihnoiephaaGreatDoorQX29
import Derived.Test.YtjeimihnoiephaaGreatDoorQX32
import Derived.Test.YtjeimihnoiephaaGreatDoorQX48
import Derived.Test.YtjeimihnoiephaaGreatDoorQX60
namespace Go.Proofs.YtjeimihnoiephaaGreatDoor
open Go Go.RowKit
set_option linter.unusedVariables false
theorem p10_64:∀ (l:List UInt8) (acc u:Nat),Lib.decFrom acc l = some u → u < 18446744073709551616 → Lib.parseUint10 acc l = .ok u
  | [],acc,u,h,_ => by simp only [Lib.decFrom] at h;injection h with h;simp only [Lib.parseUint10,h]
  | c :: r,acc,u,h,hu => by
    simp only [Lib.decFrom,Lib.digitVal] at h
    simp only [Lib.parseUint10]
    by_cases hc:48 ≤ c.toNat∧c.toNat ≤ 57
    · rw [if_pos hc] at h ⊢
      simp only at h
      have:=decFrom_le r _ u h
      rw [if_neg (by omega),if_neg (by omega)]
      exact p10_64 r _ u h hu
    · rw [if_neg hc] at h;cases h
theorem p10_far:∀ (l:List UInt8) (acc u:Nat),Lib.decFrom acc l = some u → acc < 18446744073709551616 → 18446744073709551616 ≤ u → Lib.parseUint10 acc l = .range
  | [],acc,u,h,ha,hu => by simp only [Lib.decFrom] at h;injection h with h;omega
  | c :: r,acc,u,h,ha,hu => by
    simp only [Lib.decFrom,Lib.digitVal] at h
    simp only [Lib.parseUint10]
    by_cases hc:48 ≤ c.toNat∧c.toNat ≤ 57
    · rw [if_pos hc] at h ⊢
      simp only at h
      by_cases h1:1844674407370955162 ≤ acc
      · rw [if_pos h1]
      · rw [if_neg h1]
        by_cases h2:18446744073709551616 ≤ acc * 10 + (c.toNat - 48)
        · rw [if_pos h2]
        · rw [if_neg h2]
          exact p10_far r _ u h (by omega) hu
    · rw [if_neg hc] at h;cases h
theorem decFrom_dec (u:Nat):Lib.decFrom 0 (Lib.decDigits u) = some u:=by
  have hd:=decNat_dec u
  unfold Lib.decNat at hd
  split at hd
  · cases hd
  · exact hd
theorem parseMag_64 (u:Nat) (h:u < 18446744073709551616):Lib.parseMag (Lib.decDigits u) = .ok u:=by
  unfold Lib.parseMag
  rw [if_neg (dec_ne u)]
  exact p10_64 _ 0 u (decFrom_dec u) h
theorem parseMag_far (u:Nat) (h:18446744073709551616 ≤ u):Lib.parseMag (Lib.decDigits u) = .range:=by
  unfold Lib.parseMag
  rw [if_neg (dec_ne u)]
  exact p10_far _ 0 u (decFrom_dec u) (by decide) h
theorem zl_pos_head {n:Int} (h:0 ≤ n):∃ b t,zl n = b :: t∧¬ b.toNat = 45∧¬ b.toNat = 43∧b :: t = Lib.decDigits n.natAbs:=by
  rw [zl_pos h]
  have hd:=dec_digs n.natAbs
  cases hc:Lib.decDigits n.natAbs with
  | nil => exact absurd hc (dec_ne _)
  | cons b t =>
    rw [hc] at hd
    have h1:b ≠ 45:=not_minus (hd b (by simp))
    have h2:b ≠ 43:=by
      intro e;subst e
      have:=hd 43 (by simp);simp [isDig] at this
    exact ⟨b,t,rfl,fun e => h1 (UInt8.toNat_inj.1 e),fun e => h2 (UInt8.toNat_inj.1 e),rfl⟩
theorem atoi64 (n:Int) (h0:-9223372036854775808 ≤ n) (h1:n ≤ 9223372036854775807):Lib.atoiAll (zl n) = .ok n:=by
  by_cases h:n < 0
  · rw [zl_neg h]
    simp only [Lib.atoiAll]
    rw [if_pos (Or.inr (by decide)),parseMag_64 _ (by omega)]
    simp only []
    rw [if_neg (by simp),if_neg (by omega),if_pos (by decide)]
    congr 1;omega
  · obtain ⟨b,t,e,hb1,hb2,hd⟩:=zl_pos_head (n:=n) (by omega)
    rw [e]
    have hp:=parseMag_64 n.natAbs (by omega)
    rw [← hd] at hp
    simp only [Lib.atoiAll]
    rw [if_neg (by omega),hp]
    simp only []
    rw [if_neg (by omega),if_neg (by omega),if_neg hb1]
    congr 1;omega
theorem atoi_far (n:Int) (h:n < -9223372036854775808 ∨ 9223372036854775807 < n):Lib.atoiAll (zl n) = .range:=by
  by_cases h0:n < 0
  · rw [zl_neg h0]
    simp only [Lib.atoiAll]
    rw [if_pos (Or.inr (by decide))]
    by_cases hu:n.natAbs < 18446744073709551616
    · rw [parseMag_64 _ hu]
      simp only []
      rw [if_neg (by simp),if_pos ⟨by decide,by omega⟩]
    · rw [parseMag_far _ (by omega)]
  · obtain ⟨b,t,e,hb1,hb2,hd⟩:=zl_pos_head (n:=n) (by omega)
    rw [e]
    simp only [Lib.atoiAll]
    rw [if_neg (by omega)]
    by_cases hu:n.natAbs < 18446744073709551616
    · have hp:=parseMag_64 n.natAbs hu
      rw [← hd] at hp
      rw [hp]
      simp only []
      rw [if_pos (by omega)]
    · have hp:=parseMag_far n.natAbs (by omega)
      rw [← hd] at hp
      rw [hp]
set_option maxRecDepth 100000 in
theorem ismall_in (n:Int) (w:World) (g:Gd w) (h0:-9223372036854775808 ≤ n) (h1:n ≤ 9223372036854775807):Calls Tryz.prog 100 #[.string (zs n)] w (Ret w (.tuple #[.int .i64 n,.bool true])):=by
  have hl:(zs n).size ≤ 9223372036854775806:=by
    have:=zl_len_le (n:=n) (k:=19) (by decide) (by omega)
    rw [zs_size];omega
  have hp:=(Tryz.strconv_ParseInt_10_at64_ok (zs n) hl n (by rw [Lib.parseIntB_64,zs_list];exact atoi64 n h0 h1) w)
  have HP:=Lib.hid hp
  have HG:=Lib.hid g
  clear hl hp g h0 h1
  go_enter Tryz.func100,Tryz.ntmps100
  go_wp2_with fail
  refine HP.out.mono ?_;rintro e w1 ⟨rfl,hw⟩
  have hx:Ext w w1:=by
    rcases hw with e | ⟨t,e⟩
    · rw [e];exact Ext.refl _
    · rw [e];exact Lib.bytesWorld_below _ _ _
  have HX1:=Lib.hid hx
  clear hw hx
  go_wp2
  go_ret2
  exact ⟨rfl,HX1.out⟩
set_option maxRecDepth 100000 in
theorem ismall_far (n:Int) {k:Nat} (w:World) (g:Gd w) (hi:IB k n) (hk:k ≤ 9000) (h:n < -9223372036854775808 ∨ 9223372036854775807 < n):Calls Tryz.prog 100 #[.string (zs n)] w (Ret w (.tuple #[.int .i64 0,.bool false])):=by
  have hl:(zs n).size ≤ 281474976710656:=by
    have:=zs_size_le hi hk
    omega
  obtain ⟨tp,p,hv⟩:=g.range
  have hp:=(Tryz.strconv_ParseInt_10_at64_range_var (zs n) hl (by rw [Lib.parseIntB_64,zs_list];exact atoi_far n h) tp p w hv)
  have HP:=Lib.hid hp
  clear hl hp g h hv hi hk
  go_enter Tryz.func100,Tryz.ntmps100
  go_wp2_with fail
  refine HP.out.mono ?_;rintro e w1 ⟨N,rfl,_,_,hx⟩
  have HX1:Hid (Ext w w1):=Lib.hid hx
  clear hx
  go_wp2
  go_ret2
  exact ⟨rfl,HX1.out⟩
end Go.Proofs.YtjeimihnoiephaaGreatDoor
