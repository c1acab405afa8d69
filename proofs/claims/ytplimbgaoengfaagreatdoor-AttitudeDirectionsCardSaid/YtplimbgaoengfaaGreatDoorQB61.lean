/- Part 61 of the proof: N11, N11t. -/
import Derived.Test.YtplimbgaoengfaaGreatDoorQB1
import Derived.Test.YtplimbgaoengfaaGreatDoorQB2
import Derived.Test.YtplimbgaoengfaaGreatDoorQB3
import Derived.Test.YtplimbgaoengfaaGreatDoorQB4
import Derived.Test.YtplimbgaoengfaaGreatDoorQB5
import Derived.Test.YtplimbgaoengfaaGreatDoorQB6
import Derived.Test.YtplimbgaoengfaaGreatDoorQB7
import Derived.Test.YtplimbgaoengfaaGreatDoorQB8
import Derived.Test.YtplimbgaoengfaaGreatDoorQB9
import Derived.Test.YtplimbgaoengfaaGreatDoorQB10
import Derived.Test.YtplimbgaoengfaaGreatDoorQB11
import Derived.Test.YtplimbgaoengfaaGreatDoorQB12
import Derived.Test.YtplimbgaoengfaaGreatDoorQB13
import Derived.Test.YtplimbgaoengfaaGreatDoorQB14
import Derived.Test.YtplimbgaoengfaaGreatDoorQB15
import Derived.Test.YtplimbgaoengfaaGreatDoorQB16
import Derived.Test.YtplimbgaoengfaaGreatDoorQB17
import Derived.Test.YtplimbgaoengfaaGreatDoorQB18
import Derived.Test.YtplimbgaoengfaaGreatDoorQB19
import Derived.Test.YtplimbgaoengfaaGreatDoorQB20
import Derived.Test.YtplimbgaoengfaaGreatDoorQB21
import Derived.Test.YtplimbgaoengfaaGreatDoorQB22
import Derived.Test.YtplimbgaoengfaaGreatDoorQB23
import Derived.Test.YtplimbgaoengfaaGreatDoorQB24
import Derived.Test.YtplimbgaoengfaaGreatDoorQB25
import Derived.Test.YtplimbgaoengfaaGreatDoorQB26
import Derived.Test.YtplimbgaoengfaaGreatDoorQB27
import Derived.Test.YtplimbgaoengfaaGreatDoorQB28
import Derived.Test.YtplimbgaoengfaaGreatDoorQB29
import Derived.Test.YtplimbgaoengfaaGreatDoorQB30
import Derived.Test.YtplimbgaoengfaaGreatDoorQB33
import Derived.Test.YtplimbgaoengfaaGreatDoorQB44
import Derived.Test.YtplimbgaoengfaaGreatDoorQB45
import Derived.Test.YtplimbgaoengfaaGreatDoorQB56
import Derived.Test.YtplimbgaoengfaaGreatDoorQB57
import Derived.Test.YtplimbgaoengfaaGreatDoorQB58
import Derived.Test.YtplimbgaoengfaaGreatDoorQB59
import Derived.Test.YtplimbgaoengfaaGreatDoorQB60
import Derived.Lib.ParseIntBTie
import Derived.Lib.AtoiAll
namespace Go.Proofs.YtplimbgaoengfaaGreatDoor
open Go Go.RowKit
set_option linter.unusedVariables false
theorem decFrom_le : ∀ (l : List UInt8) (acc u : Nat), Lib.decFrom acc l = some u → acc ≤ u
  | [], acc, u, h => by simp only [Lib.decFrom] at h; injection h with h; omega
  | c :: r, acc, u, h => by
    simp only [Lib.decFrom] at h
    split at h
    · have := decFrom_le r _ u h; omega
    · cases h
theorem p10 : ∀ (l : List UInt8) (acc u : Nat), Lib.decFrom acc l = some u → u < 1000000000000000000 → Lib.parseUint10 acc l = .ok u
  | [], acc, u, h, _ => by simp only [Lib.decFrom] at h; injection h with h; simp only [Lib.parseUint10, h]
  | c :: r, acc, u, h, hu => by
    simp only [Lib.decFrom, Lib.digitVal] at h
    simp only [Lib.parseUint10]
    by_cases hc : 48 ≤ c.toNat ∧ c.toNat ≤ 57
    · rw [if_pos hc] at h ⊢
      simp only at h
      have := decFrom_le r _ u h
      rw [if_neg (by omega), if_neg (by omega)]
      exact p10 r _ u h hu
    · rw [if_neg hc] at h; cases h
theorem parseMag_dec (u : Nat) (h : u < 1000000000000000000) : Lib.parseMag (Lib.decDigits u) = .ok u := by
  have hd := decNat_dec u
  unfold Lib.decNat at hd
  unfold Lib.parseMag
  rw [if_neg (dec_ne u)]
  refine p10 _ 0 u ?_ h
  split at hd
  · cases hd
  · exact hd
theorem atoiAll_zl (n : Int) (h : n.natAbs < 1000000000000000000) : Lib.atoiAll (zl n) = .ok n := by
  by_cases h0 : n < 0
  · rw [zl_neg h0]
    simp only [Lib.atoiAll]
    rw [if_pos (Or.inr (by decide)), parseMag_dec _ h]
    simp only []
    rw [if_neg (by simp), if_neg (by omega), if_pos (by decide)]
    congr 1; omega
  · rw [zl_pos (by omega)]
    have hp := parseMag_dec n.natAbs h
    have hd := dec_digs n.natAbs
    cases hc : Lib.decDigits n.natAbs with
    | nil => exact absurd hc (dec_ne _)
    | cons b t =>
      rw [hc] at hp hd
      have h1 : b ≠ 45 := not_minus (hd b (by simp))
      have h2 : b ≠ 43 := by
        intro e; subst e
        have := hd 43 (by simp); simp [isDig] at this
      have h1' : ¬ b.toNat = 45 := fun e => h1 (UInt8.toNat_inj.1 e)
      have h2' : ¬ b.toNat = 43 := fun e => h2 (UInt8.toNat_inj.1 e)
      simp only [Lib.atoiAll]
      rw [if_neg (by omega), hp]
      simp only []
      rw [if_neg (by omega), if_neg (by omega), if_neg h1']
      congr 1; omega
theorem parseInt_c (n : Int) (h : n.natAbs < 1000000000000000000) (w : World) : Calls Tryz.prog 126 #[.string (zs n), .int .i64 10, .int .i64 64] w (Ret w (.tuple #[.int .i64 n, .nilIface])) := by
  have hl : (zs n).size ≤ 9223372036854775806 := by
    have := zl_len_le (n := n) (k := 18) (by decide) h
    rw [zs_size]; omega
  exact (Tryz.strconv_ParseInt_10_at64_ok (zs n) hl n (by rw [Lib.parseIntB_64, zs_list]; exact atoiAll_zl n h) w).mono fun _ _ ⟨h, hw⟩ => ⟨h, by
    rcases hw with e | ⟨t, e⟩
    · rw [e]; exact Ext.refl _
    · rw [e]; exact Lib.bytesWorld_below _ _ _⟩
theorem eu_lt {a b : Int} {M : Nat} (hb : b.natAbs < M) (h : ¬ b = 0) : (a.tmod b).natAbs < M := by
  rw [Int.natAbs_tmod]; have := Nat.mod_lt a.natAbs (y := b.natAbs) (by omega); omega
theorem eu_gcd (a b : Int) : Int.gcd b (a.tmod b) = Int.gcd a b := by
  unfold Int.gcd; rw [Int.natAbs_tmod, Nat.gcd_comm a.natAbs, Nat.gcd_rec b.natAbs a.natAbs, Nat.gcd_comm (a.natAbs % b.natAbs)]
theorem eu_meas {a b : Int} (h : ¬ b = 0) : (intOf (.int .i64 (a.tmod b))).natAbs < (intOf (.int .i64 b)).natAbs := by
  simp only [intOf]; rw [Int.natAbs_tmod]; exact Nat.mod_lt _ (by omega)

set_option maxRecDepth 100000 in
set_option maxHeartbeats 2000000 in
theorem ismall_c (n : Int) (w : World) (g : Gd w) (h : n.natAbs < 1000000000000000000) : Calls Tryz.prog 101 #[.string (zs n)] w (Ret w (.tuple #[.int .i64 n, .bool true])) := by
  have H := Lib.hid h
  have HG := Lib.hid g
  clear h g
  go_enter Tryz.func101, Tryz.ntmps101
  go_wp2_with fail
  refine (parseInt_c n H.out _).mono ?_; rintro e w1 ⟨rfl, e1⟩
  have HX1 : Hid (Ext w w1) := Lib.hid ((Ext.refl w).trans e1)
  clear e1
  go_wp2
  go_ret2
  exact ⟨rfl, HX1.out⟩

theorem ismall_one (w : World) (g : Gd w) : Calls Tryz.prog 101 #[.string ⟨#[49]⟩] w (Ret w (.tuple #[.int .i64 1, .bool true])) := by
  have := ismall_c 1 w g (by decide)
  rwa [zs_one] at this
theorem parts_int (n : Int) (w : World) (h : IB 200 n) : Calls Tryz.prog 49 #[.string (zs n)] w (Ret w (.tuple #[.string (zs n), .string ⟨#[49]⟩])) := by
  have := parts_c (n : Rat) w (QB.int h (by decide)) (by decide)
  rwa [qs_int, Rat.num_intCast, Rat.den_intCast, show ((1 : Nat) : Int) = 1 from rfl, zs_one] at this
theorem parts_den1 (q : Rat) {k : Nat} (w : World) (h : QB k q) (hk : k ≤ 9000) (hd : q.den = 1) : Calls Tryz.prog 49 #[.string (qs q)] w (Ret w (.tuple #[.string (zs q.num), .string ⟨#[49]⟩])) := by
  have := parts_c q w h hk
  rwa [hd, show ((1 : Nat) : Int) = 1 from rfl, zs_one] at this
theorem parts_zero (w : World) : Calls Tryz.prog 49 #[.string ⟨#[48]⟩] w (Ret w (.tuple #[.string ⟨#[48]⟩, .string ⟨#[49]⟩])) := by
  have := parts_int 0 w ⟨by decide⟩
  rwa [zs_zero] at this
theorem small_sz {n : Int} (h : ¬ 18 < (zs (n.natAbs : Int)).size) : n.natAbs < 1000000000000000000 := by
  have := lt_of_zl_len (n := (n.natAbs : Int)) (k := 18) (by rw [← zs_size]; omega)
  simpa using this

set_option maxRecDepth 100000 in
set_option maxHeartbeats 2000000 in
theorem rsmall_big (n : Int) (w : World) (g : Gd w) (h : IB 200 n) (hs : 18 < (zs (n.natAbs : Int)).size) : Calls Tryz.prog 64 #[.string (zs n)] w (Ret w (.tuple #[.int .i64 0, .int .i64 0, .bool false])) := by
  have HI := Lib.hid h
  have HG := Lib.hid g
  clear h g
  have hs_d : decide ((18 : Int) < ((zs (n.natAbs : Int)).size : Int)) = true := decide_eq_true (by omega)
  clear hs
  go_enter Tryz.func64, Tryz.ntmps64
  go_wp2_with fail
  refine (parts_int n _ HI.out).mono ?_; rintro e w1 ⟨rfl, e1⟩
  have HX1 : Hid (Ext w w1) := Lib.hid ((Ext.refl w).trans e1)
  clear e1
  go_wp2_with fail
  refine (abs_c n _).mono ?_; rintro e _ ⟨rfl, rfl⟩
  go_wp2
  go_ret3
  exact ⟨rfl, HX1.out⟩

set_option maxRecDepth 100000 in
set_option maxHeartbeats 2000000 in
theorem rsmall_ok (n : Int) (w : World) (g : Gd w) (h : IB 200 n) (hs : ¬ 18 < (zs (n.natAbs : Int)).size) : Calls Tryz.prog 64 #[.string (zs n)] w (Ret w (.tuple #[.int .i64 n, .int .i64 1, .bool true])) := by
  have HI := Lib.hid h
  have HG := Lib.hid g
  clear h g
  have hs_d : decide ((18 : Int) < ((zs (n.natAbs : Int)).size : Int)) = false := decide_eq_false (by omega)
  have HS := Lib.hid hs; clear hs
  go_enter Tryz.func64, Tryz.ntmps64
  go_wp2_with fail
  refine (parts_int n _ HI.out).mono ?_; rintro e w1 ⟨rfl, e1⟩
  have HX1 : Hid (Ext w w1) := Lib.hid ((Ext.refl w).trans e1)
  clear e1
  go_wp2_with fail
  refine (abs_c n _).mono ?_; rintro e _ ⟨rfl, rfl⟩
  go_wp2_with fail
  refine (ismall_c n _ (HG.out.ext HX1.out) (small_sz HS.out)).mono ?_; rintro e w2 ⟨rfl, e2⟩
  have HX2 : Hid (Ext w w2) := Lib.hid (HX1.out.trans e2)
  clear e2
  go_wp2_with fail
  refine (ismall_one _ (HG.out.ext HX2.out)).mono ?_; rintro e w3 ⟨rfl, e3⟩
  have HX3 : Hid (Ext w w3) := Lib.hid (HX2.out.trans e3)
  clear e3
  go_wp2
  go_ret3
  exact ⟨rfl, HX3.out⟩

theorem rsmall_as (n m : Int) (e : n = m) (w : World) (g : Gd w) (h : IB 200 n) (hs : ¬ 18 < (zs (n.natAbs : Int)).size) : Calls Tryz.prog 64 #[.string (zs n)] w (Ret w (.tuple #[.int .i64 m, .int .i64 1, .bool true])) := by
  subst e
  exact rsmall_ok n w g h hs
theorem rsmall_zero (w : World) (g : Gd w) : Calls Tryz.prog 64 #[.string ⟨#[48]⟩] w (Ret w (.tuple #[.int .i64 0, .int .i64 1, .bool true])) := by
  have := rsmall_ok 0 w g ⟨by decide⟩ (by decide +kernel)
  rwa [zs_zero] at this

set_option maxRecDepth 100000 in
set_option maxHeartbeats 4000000 in
theorem lprim_bx (x y : Rat) (kb : Nat) {ty : TypeId} (w : World) (g : Gd w) (hx : QB 200 x) (hy : QB 200 y) (hdx : x.den = 1) (hdy : y.den = 1) (hB : Blk w kb #[.string (qs x), .string (qs y), .string ⟨#[48]⟩] ty) (hsx : 18 < (zs (x.num.natAbs : Int)).size) : Calls Tryz.prog 36 #[.slice (some ⟨kb, 0, none⟩) 3 3] w (Ret w (.bool true)) := by
  have HX0 := Lib.hid hx
  have HY0 := Lib.hid hy
  have HDX := Lib.hid hdx
  have HDY := Lib.hid hdy
  have HCB := Lib.hid hB
  have HG := Lib.hid g
  have HSX := Lib.hid hsx
  clear hx hy hdx hdy hB g hsx
  go_enter Tryz.func36, Tryz.ntmps36
  go_wp2_with fail
  refine wp_loop_rounds 3 ?_
  rw [rounds_succ]
  have cP_0 := HCB.out.cell 0 rfl
  go_wp2_with fail
  refine (parts_den1 x _ HX0.out (by omega) HDX.out).mono ?_; rintro e w1 ⟨rfl, e1⟩
  have HX1 : Hid (Ext w w1) := Lib.hid ((Ext.refl w).trans e1)
  clear e1 cP_0
  go_wp2_with fail
  refine (rsmall_big x.num _ (HG.out.ext HX1.out) (QB.inum HX0.out) HSX.out).mono ?_; rintro e w2 ⟨rfl, e2⟩
  have HX2 : Hid (Ext w w2) := Lib.hid (HX1.out.trans e2)
  clear e2
  go_wp2
  go_ret
  exact ⟨rfl, HX2.out⟩

set_option maxRecDepth 100000 in
set_option maxHeartbeats 4000000 in
theorem lprim_by (x y : Rat) (kb : Nat) {ty : TypeId} (w : World) (g : Gd w) (hx : QB 200 x) (hy : QB 200 y) (hdx : x.den = 1) (hdy : y.den = 1) (hB : Blk w kb #[.string (qs x), .string (qs y), .string ⟨#[48]⟩] ty) (hsx : ¬ 18 < (zs (x.num.natAbs : Int)).size) (hsy : 18 < (zs (y.num.natAbs : Int)).size) : Calls Tryz.prog 36 #[.slice (some ⟨kb, 0, none⟩) 3 3] w (Ret w (.bool true)) := by
  have HX0 := Lib.hid hx
  have HY0 := Lib.hid hy
  have HDX := Lib.hid hdx
  have HDY := Lib.hid hdy
  have HCB := Lib.hid hB
  have HG := Lib.hid g
  have HSX := Lib.hid hsx
  have HSY := Lib.hid hsy
  clear hx hy hdx hdy hB g hsx hsy
  obtain ⟨xn, exn⟩ : ∃ xn, x.num = xn := ⟨_, rfl⟩
  have hbx : Hid (xn.natAbs < 1000000000000000000) := Lib.hid (exn ▸ small_sz HSX.out)
  have HNX := Lib.hid exn; clear exn
  go_enter Tryz.func36, Tryz.ntmps36
  go_wp2_with fail
  refine wp_loop_rounds 4 ?_
  rw [rounds_succ]
  have cP_0 := HCB.out.cell 0 rfl
  go_wp2_with fail
  refine (parts_den1 x _ HX0.out (by omega) HDX.out).mono ?_; rintro e w1 ⟨rfl, e1⟩
  have HX1 : Hid (Ext w w1) := Lib.hid ((Ext.refl w).trans e1)
  have HBP_1 := Lib.hid (Blk.ext HCB.out e1)
  clear e1 cP_0
  go_wp2_with fail
  refine (rsmall_as x.num xn HNX.out _ (HG.out.ext HX1.out) (QB.inum HX0.out) HSX.out).mono ?_; rintro e w2 ⟨rfl, e2⟩
  have HX2 : Hid (Ext w w2) := Lib.hid (HX1.out.trans e2)
  have HBP_2 := Lib.hid (Blk.ext HBP_1.out e2)
  clear e2
  go_wp2_with fail
  go_loopw [3, 7] (fun g_ n_ wx => ∃ a_ b_ : Int, g_ = .int .i64 a_ ∧ n_ = .int .i64 b_ ∧ Hid (a_.natAbs < 1000000000000000000) ∧ Hid (b_.natAbs < 1000000000000000000) ∧ Hid (Int.gcd a_ b_ = xn.natAbs) ∧ Hid (Ext w wx ∧ Blk wx (kb) #[.string (qs x), .string (qs y), .string ⟨#[48]⟩] ty)) (fun _ n_ _ => (intOf n_).natAbs)
  case atStart => exact ⟨0, xn, rfl, rfl, Lib.hid (by decide), Lib.hid (hbx.out), Lib.hid (by simp), Lib.hid ⟨HX2.out, HBP_2.out⟩⟩
  case round =>
    rename_i w3
    obtain ⟨a3, b3, rfl, rfl, ha3, hb3, HG3, HH⟩ := hrel
    have HX3 := Lib.hid HH.out.1; have HBP_3 := Lib.hid HH.out.2
    clear HH
    by_cases hz3 : b3 = 0
    · have HE3 : Hid (a3.natAbs = xn.natAbs) := Lib.hid (by have := HG3.out; rw [hz3, Int.gcd_zero_right] at this; exact this)
      clear HG3
      subst hz3
      go_wp2_with fail
      rw [rounds_succ]
      have cP_1 := HBP_3.out.cell 1 rfl
      go_wp2_with fail
      refine (parts_den1 y _ HY0.out (by omega) HDY.out).mono ?_; rintro e w4 ⟨rfl, e4⟩
      have HX4 : Hid (Ext w w4) := Lib.hid (HX3.out.trans e4)
      have HBP_4 := Lib.hid (Blk.ext HBP_3.out e4)
      clear e4 cP_1
      go_wp2_with fail
      refine (rsmall_big y.num _ (HG.out.ext HX4.out) (QB.inum HY0.out) HSY.out).mono ?_; rintro e w5 ⟨rfl, e5⟩
      have HX5 : Hid (Ext w w5) := Lib.hid (HX4.out.trans e5)
      have HBP_5 := Lib.hid (Blk.ext HBP_4.out e5)
      clear e5
      go_wp2
      go_ret
      exact ⟨rfl, HX5.out⟩
    · have hzd3 : (b3 != 0) = true := bne_iff_ne.2 hz3
      have hze3 : (b3 == 0) = false := beq_eq_false_iff_ne.2 hz3
      go_wp2_with fail
      refine wp_name (fun W => Ext w W ∧ Blk W (kb) #[.string (qs x), .string (qs y), .string ⟨#[48]⟩] ty) ⟨HX3.out, HBP_3.out⟩ ?_
      rintro w4 ⟨e4, bBP_4⟩
      have HX4 := Lib.hid e4; have HBP_4 := Lib.hid bBP_4
      clear e4 bBP_4
      have hS4 : True := trivial
      have HS4 := Lib.hid hS4; clear hS4
      go_region_held3 (fun w' => True)
        ((trivial)) ((fail))
      refine wp_name (fun W => Ext w W ∧ Blk W (kb) #[.string (qs x), .string (qs y), .string ⟨#[48]⟩] ty) ⟨(HX4.out.trans (by repeat (first | assumption | exact Ext.refl _ | apply Ext.drew | apply Ext.alloc | (refine Ext.trans ?_ (by assumption))))), (Blk.ext HBP_4.out (by repeat (first | assumption | exact Ext.refl _ | apply Ext.drew | apply Ext.alloc | (refine Ext.trans ?_ (by assumption)))))⟩ ?_
      rintro w5 ⟨e5, bBP_5⟩
      have HX5 := Lib.hid e5; have HBP_5 := Lib.hid bBP_5
      clear e5 bBP_5
      go_wp2_with fail
      go_roundw
      case rel => exact ⟨b3, a3.tmod b3, rfl, rfl, hb3, Lib.hid (eu_lt hb3.out hz3), Lib.hid ((eu_gcd _ _).trans HG3.out), Lib.hid ⟨HX5.out, HBP_5.out⟩⟩
      case measure => exact eu_meas hz3

set_option maxRecDepth 100000 in
set_option maxHeartbeats 4000000 in
theorem lprim_ok (x y : Rat) (kb : Nat) {ty : TypeId} (w : World) (g : Gd w) (hx : QB 200 x) (hy : QB 200 y) (hdx : x.den = 1) (hdy : y.den = 1) (hB : Blk w kb #[.string (qs x), .string (qs y), .string ⟨#[48]⟩] ty) (hsx : ¬ 18 < (zs (x.num.natAbs : Int)).size) (hsy : ¬ 18 < (zs (y.num.natAbs : Int)).size) (hc : Int.gcd x.num y.num = 1) : Calls Tryz.prog 36 #[.slice (some ⟨kb, 0, none⟩) 3 3] w (Ret w (.bool true)) := by
  have HX0 := Lib.hid hx
  have HY0 := Lib.hid hy
  have HDX := Lib.hid hdx
  have HDY := Lib.hid hdy
  have HCB := Lib.hid hB
  have HG := Lib.hid g
  have HSX := Lib.hid hsx
  have HSY := Lib.hid hsy
  clear hx hy hdx hdy hB g hsx hsy
  obtain ⟨xn, exn⟩ : ∃ xn, x.num = xn := ⟨_, rfl⟩
  have hbx : Hid (xn.natAbs < 1000000000000000000) := Lib.hid (exn ▸ small_sz HSX.out)
  have HNX := Lib.hid exn; clear exn
  obtain ⟨yn, eyn⟩ : ∃ yn, y.num = yn := ⟨_, rfl⟩
  have hby : Hid (yn.natAbs < 1000000000000000000) := Lib.hid (eyn ▸ small_sz HSY.out)
  have HNY := Lib.hid eyn; clear eyn
  have HC : Hid (Nat.gcd xn.natAbs yn.natAbs = 1) := Lib.hid (by have := hc; rw [HNX.out, HNY.out] at this; exact this); clear hc
  go_enter Tryz.func36, Tryz.ntmps36
  go_wp2_with fail
  refine wp_loop_rounds 4 ?_
  rw [rounds_succ]
  have cP_0 := HCB.out.cell 0 rfl
  go_wp2_with fail
  refine (parts_den1 x _ HX0.out (by omega) HDX.out).mono ?_; rintro e w1 ⟨rfl, e1⟩
  have HX1 : Hid (Ext w w1) := Lib.hid ((Ext.refl w).trans e1)
  have HBP_1 := Lib.hid (Blk.ext HCB.out e1)
  clear e1 cP_0
  go_wp2_with fail
  refine (rsmall_as x.num xn HNX.out _ (HG.out.ext HX1.out) (QB.inum HX0.out) HSX.out).mono ?_; rintro e w2 ⟨rfl, e2⟩
  have HX2 : Hid (Ext w w2) := Lib.hid (HX1.out.trans e2)
  have HBP_2 := Lib.hid (Blk.ext HBP_1.out e2)
  clear e2
  go_wp2_with fail
  go_loopw [3, 7] (fun g_ n_ wx => ∃ a_ b_ : Int, g_ = .int .i64 a_ ∧ n_ = .int .i64 b_ ∧ Hid (a_.natAbs < 1000000000000000000) ∧ Hid (b_.natAbs < 1000000000000000000) ∧ Hid (Int.gcd a_ b_ = xn.natAbs) ∧ Hid (Ext w wx ∧ Blk wx (kb) #[.string (qs x), .string (qs y), .string ⟨#[48]⟩] ty)) (fun _ n_ _ => (intOf n_).natAbs)
  case atStart => exact ⟨0, xn, rfl, rfl, Lib.hid (by decide), Lib.hid (hbx.out), Lib.hid (by simp), Lib.hid ⟨HX2.out, HBP_2.out⟩⟩
  case round =>
    rename_i w3
    obtain ⟨a3, b3, rfl, rfl, ha3, hb3, HG3, HH⟩ := hrel
    have HX3 := Lib.hid HH.out.1; have HBP_3 := Lib.hid HH.out.2
    clear HH
    by_cases hz3 : b3 = 0
    · have HE3 : Hid (a3.natAbs = xn.natAbs) := Lib.hid (by have := HG3.out; rw [hz3, Int.gcd_zero_right] at this; exact this)
      clear HG3
      subst hz3
      go_wp2_with fail
      rw [rounds_succ]
      have cP_1 := HBP_3.out.cell 1 rfl
      go_wp2_with fail
      refine (parts_den1 y _ HY0.out (by omega) HDY.out).mono ?_; rintro e w4 ⟨rfl, e4⟩
      have HX4 : Hid (Ext w w4) := Lib.hid (HX3.out.trans e4)
      have HBP_4 := Lib.hid (Blk.ext HBP_3.out e4)
      clear e4 cP_1
      go_wp2_with fail
      refine (rsmall_as y.num yn HNY.out _ (HG.out.ext HX4.out) (QB.inum HY0.out) HSY.out).mono ?_; rintro e w5 ⟨rfl, e5⟩
      have HX5 : Hid (Ext w w5) := Lib.hid (HX4.out.trans e5)
      have HBP_5 := Lib.hid (Blk.ext HBP_4.out e5)
      clear e5
      go_wp2_with fail
      go_loopw [3, 7] (fun g_ n_ wx => ∃ a_ b_ : Int, g_ = .int .i64 a_ ∧ n_ = .int .i64 b_ ∧ Hid (a_.natAbs < 1000000000000000000) ∧ Hid (b_.natAbs < 1000000000000000000) ∧ Hid (Int.gcd a_ b_ = 1) ∧ Hid (Ext w wx ∧ Blk wx (kb) #[.string (qs x), .string (qs y), .string ⟨#[48]⟩] ty)) (fun _ n_ _ => (intOf n_).natAbs)
      case atStart => exact ⟨a3, yn, rfl, rfl, Lib.hid (ha3.out), Lib.hid (hby.out), Lib.hid (by unfold Int.gcd; rw [HE3.out]; exact HC.out), Lib.hid ⟨HX5.out, HBP_5.out⟩⟩
      case round =>
        rename_i w6
        obtain ⟨a6, b6, rfl, rfl, ha6, hb6, HG6, HH⟩ := hrel
        have HX6 := Lib.hid HH.out.1; have HBP_6 := Lib.hid HH.out.2
        clear HH
        by_cases hz6 : b6 = 0
        · have HE6 : Hid (a6.natAbs = 1) := Lib.hid (by have := HG6.out; rw [hz6, Int.gcd_zero_right] at this; exact this)
          clear HG6
          subst hz6
          go_wp2_with fail
          rw [rounds_succ]
          have cP_2 := HBP_6.out.cell 2 rfl
          go_wp2_with fail
          refine (parts_zero _).mono ?_; rintro e w7 ⟨rfl, e7⟩
          have HX7 : Hid (Ext w w7) := Lib.hid (HX6.out.trans e7)
          have HBP_7 := Lib.hid (Blk.ext HBP_6.out e7)
          clear e7 cP_2
          go_wp2_with fail
          refine (rsmall_zero _ (HG.out.ext HX7.out)).mono ?_; rintro e w8 ⟨rfl, e8⟩
          have HX8 : Hid (Ext w w8) := Lib.hid (HX7.out.trans e8)
          have HBP_8 := Lib.hid (Blk.ext HBP_7.out e8)
          clear e8
          go_wp2_with fail
          go_loopw [3, 7] (fun g_ n_ wx => ∃ a_ b_ : Int, g_ = .int .i64 a_ ∧ n_ = .int .i64 b_ ∧ Hid (a_.natAbs < 1000000000000000000) ∧ Hid (b_.natAbs < 1000000000000000000) ∧ Hid (Int.gcd a_ b_ = 1) ∧ Hid (Ext w wx ∧ Blk wx (kb) #[.string (qs x), .string (qs y), .string ⟨#[48]⟩] ty)) (fun _ n_ _ => (intOf n_).natAbs)
          case atStart => exact ⟨a6, 0, rfl, rfl, Lib.hid (ha6.out), Lib.hid (by decide), Lib.hid (show Int.gcd a6 0 = 1 by rw [Int.gcd_zero_right]; exact HE6.out), Lib.hid ⟨HX8.out, HBP_8.out⟩⟩
          case round =>
            rename_i w9
            obtain ⟨a9, b9, rfl, rfl, ha9, hb9, HG9, HH⟩ := hrel
            have HX9 := Lib.hid HH.out.1; have HBP_9 := Lib.hid HH.out.2
            clear HH
            by_cases hz9 : b9 = 0
            · have HE9 : Hid (a9.natAbs = 1) := Lib.hid (by have := HG9.out; rw [hz9, Int.gcd_zero_right] at this; exact this)
              clear HG9
              subst hz9
              go_wp2_with fail
              rw [rounds_succ]
              rcases (show a9 = 1 ∨ a9 = -1 by have := HE9.out; omega) with e9 | e9
              · subst e9
                go_wp2
                go_ret
                exact ⟨rfl, HX9.out⟩
              · subst e9
                go_wp2
                go_ret
                exact ⟨rfl, HX9.out⟩
            · have hzd9 : (b9 != 0) = true := bne_iff_ne.2 hz9
              have hze9 : (b9 == 0) = false := beq_eq_false_iff_ne.2 hz9
              go_wp2_with fail
              refine wp_name (fun W => Ext w W ∧ Blk W (kb) #[.string (qs x), .string (qs y), .string ⟨#[48]⟩] ty) ⟨HX9.out, HBP_9.out⟩ ?_
              rintro w10 ⟨e10, bBP_10⟩
              have HX10 := Lib.hid e10; have HBP_10 := Lib.hid bBP_10
              clear e10 bBP_10
              have hS10 : True := trivial
              have HS10 := Lib.hid hS10; clear hS10
              go_region_held3 (fun w' => True)
                ((trivial)) ((fail))
              refine wp_name (fun W => Ext w W ∧ Blk W (kb) #[.string (qs x), .string (qs y), .string ⟨#[48]⟩] ty) ⟨(HX10.out.trans (by repeat (first | assumption | exact Ext.refl _ | apply Ext.drew | apply Ext.alloc | (refine Ext.trans ?_ (by assumption))))), (Blk.ext HBP_10.out (by repeat (first | assumption | exact Ext.refl _ | apply Ext.drew | apply Ext.alloc | (refine Ext.trans ?_ (by assumption)))))⟩ ?_
              rintro w11 ⟨e11, bBP_11⟩
              have HX11 := Lib.hid e11; have HBP_11 := Lib.hid bBP_11
              clear e11 bBP_11
              go_wp2_with fail
              go_roundw
              case rel => exact ⟨b9, a9.tmod b9, rfl, rfl, hb9, Lib.hid (eu_lt hb9.out hz9), Lib.hid ((eu_gcd _ _).trans HG9.out), Lib.hid ⟨HX11.out, HBP_11.out⟩⟩
              case measure => exact eu_meas hz9
        · have hzd6 : (b6 != 0) = true := bne_iff_ne.2 hz6
          have hze6 : (b6 == 0) = false := beq_eq_false_iff_ne.2 hz6
          go_wp2_with fail
          refine wp_name (fun W => Ext w W ∧ Blk W (kb) #[.string (qs x), .string (qs y), .string ⟨#[48]⟩] ty) ⟨HX6.out, HBP_6.out⟩ ?_
          rintro w7 ⟨e7, bBP_7⟩
          have HX7 := Lib.hid e7; have HBP_7 := Lib.hid bBP_7
          clear e7 bBP_7
          have hS7 : True := trivial
          have HS7 := Lib.hid hS7; clear hS7
          go_region_held3 (fun w' => True)
            ((trivial)) ((fail))
          refine wp_name (fun W => Ext w W ∧ Blk W (kb) #[.string (qs x), .string (qs y), .string ⟨#[48]⟩] ty) ⟨(HX7.out.trans (by repeat (first | assumption | exact Ext.refl _ | apply Ext.drew | apply Ext.alloc | (refine Ext.trans ?_ (by assumption))))), (Blk.ext HBP_7.out (by repeat (first | assumption | exact Ext.refl _ | apply Ext.drew | apply Ext.alloc | (refine Ext.trans ?_ (by assumption)))))⟩ ?_
          rintro w8 ⟨e8, bBP_8⟩
          have HX8 := Lib.hid e8; have HBP_8 := Lib.hid bBP_8
          clear e8 bBP_8
          go_wp2_with fail
          go_roundw
          case rel => exact ⟨b6, a6.tmod b6, rfl, rfl, hb6, Lib.hid (eu_lt hb6.out hz6), Lib.hid ((eu_gcd _ _).trans HG6.out), Lib.hid ⟨HX8.out, HBP_8.out⟩⟩
          case measure => exact eu_meas hz6
    · have hzd3 : (b3 != 0) = true := bne_iff_ne.2 hz3
      have hze3 : (b3 == 0) = false := beq_eq_false_iff_ne.2 hz3
      go_wp2_with fail
      refine wp_name (fun W => Ext w W ∧ Blk W (kb) #[.string (qs x), .string (qs y), .string ⟨#[48]⟩] ty) ⟨HX3.out, HBP_3.out⟩ ?_
      rintro w4 ⟨e4, bBP_4⟩
      have HX4 := Lib.hid e4; have HBP_4 := Lib.hid bBP_4
      clear e4 bBP_4
      have hS4 : True := trivial
      have HS4 := Lib.hid hS4; clear hS4
      go_region_held3 (fun w' => True)
        ((trivial)) ((fail))
      refine wp_name (fun W => Ext w W ∧ Blk W (kb) #[.string (qs x), .string (qs y), .string ⟨#[48]⟩] ty) ⟨(HX4.out.trans (by repeat (first | assumption | exact Ext.refl _ | apply Ext.drew | apply Ext.alloc | (refine Ext.trans ?_ (by assumption))))), (Blk.ext HBP_4.out (by repeat (first | assumption | exact Ext.refl _ | apply Ext.drew | apply Ext.alloc | (refine Ext.trans ?_ (by assumption)))))⟩ ?_
      rintro w5 ⟨e5, bBP_5⟩
      have HX5 := Lib.hid e5; have HBP_5 := Lib.hid bBP_5
      clear e5 bBP_5
      go_wp2_with fail
      go_roundw
      case rel => exact ⟨b3, a3.tmod b3, rfl, rfl, hb3, Lib.hid (eu_lt hb3.out hz3), Lib.hid ((eu_gcd _ _).trans HG3.out), Lib.hid ⟨HX5.out, HBP_5.out⟩⟩
      case measure => exact eu_meas hz3

theorem lprim_c (x y : Rat) (kb : Nat) {ty : TypeId} (w : World) (g : Gd w) (hx : QB 200 x) (hy : QB 200 y) (hdx : x.den = 1) (hdy : y.den = 1) (hB : Blk w kb #[.string (qs x), .string (qs y), .string ⟨#[48]⟩] ty) (hc : Int.gcd x.num y.num = 1) : Calls Tryz.prog 36 #[.slice (some ⟨kb, 0, none⟩) 3 3] w (Ret w (.bool true)) := by
  by_cases h1 : 18 < (zs (x.num.natAbs : Int)).size
  · exact lprim_bx x y kb w g hx hy hdx hdy hB h1
  · by_cases h2 : 18 < (zs (y.num.natAbs : Int)).size
    · exact lprim_by x y kb w g hx hy hdx hdy hB h1 h2
    · exact lprim_ok x y kb w g hx hy hdx hdy hB h1 h2 hc
end Go.Proofs.YtplimbgaoengfaaGreatDoor

namespace Go.Proofs.YtplimbgaoengfaaGreatDoor
open Go Go.RowKit
set_option linter.unusedVariables false
set_option maxRecDepth 100000 in
set_option maxHeartbeats 2000000 in
theorem astr_l (n : T3) (e : Int) (w : World) (g : Gd w) (hen : NErr n e) (he : e ≠ 0) : Calls Tryz.prog 35 #[.agg #[.string n.x, .string n.y, .string n.z]] w (Ret w (.tuple #[.agg #[.string ⟨#[]⟩, .string ⟨#[]⟩], .int .i64 e])) := by
  have HEN := Lib.hid hen
  have HE := Lib.hid he
  have HG := Lib.hid g
  clear hen he g
  have e_d : (e != 0) = true := bne_iff_ne.2 HE.out
  have e_e : (e == 0) = false := beq_eq_false_iff_ne.2 HE.out
  go_enter Tryz.func35, Tryz.ntmps35
  go_wp2_with fail
  refine (atow_l n e _ (HG.out.ext (((Ext.refl w).alloc _).alloc _)) HEN.out HE.out).mono ?_; rintro e w1 ⟨rfl, e1⟩
  have HX1 : Hid (Ext w w1) := Lib.hid ((((Ext.refl w).alloc _).alloc _).trans e1)
  have HB1_1 : Hid (Blk w1 (w.heap.size + 1) #[.string ⟨#[]⟩, .string ⟨#[]⟩] 24) := Lib.hid (Blk.ext (Blk.new' (w := _) (cs := #[.string ⟨#[]⟩, .string ⟨#[]⟩]) (t := 24) (by first | rfl | (simp only [World.size_alloc]; done) | (simp only [World.size_alloc]; omega) | simp)) e1)
  have HGEB1 : Hid (w.heap.size ≤ w.heap.size + 1) := Lib.hid (by first | omega | (simp only []; omega) | (simp; omega))
  clear e1
  go_upto_region 3 with fail
  refine wp_name (fun W => Ext w W ∧ Blk W (w.heap.size + 1) #[.string ⟨#[]⟩, .string ⟨#[]⟩] 24) ⟨(HX1.out.alloc _), (HB1_1.out.alloc _)⟩ ?_
  rintro w2 ⟨e2, bB1_2⟩
  have HX2 := Lib.hid e2; have HB1_2 := Lib.hid bB1_2
  clear e2 bB1_2
  have c1_0 := HB1_2.out.cell 0 rfl
  have f1_0 := HB1_2.out.free 0
  have c1_1 := HB1_2.out.cell 1 rfl
  have f1_1 := HB1_2.out.free 1
  go_wp2_with fail
  refine wp_name (fun W => Ext w W ∧ Blk W (w.heap.size + 1) #[.string ⟨#[]⟩, .string ⟨#[]⟩] 24) ⟨((HX2.out.setCell (by have := HGEB1.out; first | omega | (simp only []; omega) | (simp; omega)) _).setCell (by have := HGEB1.out; first | omega | (simp only []; omega) | (simp; omega)) _), ((HB1_2.out.set 0 (.string ⟨#[]⟩)).set 1 (.string ⟨#[]⟩))⟩ ?_
  rintro w3 ⟨e3, bB1_3⟩
  have HX3 := Lib.hid e3; have HB1_3 := Lib.hid bB1_3
  clear e3 bB1_3 c1_0 f1_0 c1_1 f1_1
  have gB1_0 := HB1_3.out.cell 0 rfl
  have gB1_1 := HB1_3.out.cell 1 rfl
  refine bodyPost_ret (v := .tuple #[.agg #[.string ⟨#[]⟩, .string ⟨#[]⟩], .int .i64 e]) (by simp [results, Tryz.results35, go_sem, gB1_0, gB1_1]) rfl ⟨rfl, HX3.out⟩

set_option maxRecDepth 100000 in
set_option maxHeartbeats 2000000 in
theorem astr_n (n : V3) (w : World) (g : Gd w) (hn : VB 24 n) (hz : ¬ (n.x = 0 ∧ n.y = 0 ∧ n.z = 0)) (hx0 : n.x = 0) (hy0 : n.y = 0) : Calls Tryz.prog 35 #[.agg #[.string (qs n.x), .string (qs n.y), .string (qs n.z)]] w (Ret w (.tuple #[.agg #[.string ⟨#[]⟩, .string ⟨#[]⟩], .int .i64 19])) := by
  have HN4 := Lib.hid hn
  have HZ := Lib.hid hz
  have HA0 := Lib.hid hx0
  have HB0 := Lib.hid hy0
  have HG := Lib.hid g
  clear hn hz hx0 hy0 g
  go_enter Tryz.func35, Tryz.ntmps35
  go_wp2_with fail
  refine (atow_n n _ (HG.out.ext (((Ext.refl w).alloc _).alloc _)) HN4.out HZ.out HA0.out HB0.out).mono ?_; rintro e w1 ⟨rfl, e1⟩
  have HX1 : Hid (Ext w w1) := Lib.hid ((((Ext.refl w).alloc _).alloc _).trans e1)
  have HB1_1 : Hid (Blk w1 (w.heap.size + 1) #[.string ⟨#[]⟩, .string ⟨#[]⟩] 24) := Lib.hid (Blk.ext (Blk.new' (w := _) (cs := #[.string ⟨#[]⟩, .string ⟨#[]⟩]) (t := 24) (by first | rfl | (simp only [World.size_alloc]; done) | (simp only [World.size_alloc]; omega) | simp)) e1)
  have HGEB1 : Hid (w.heap.size ≤ w.heap.size + 1) := Lib.hid (by first | omega | (simp only []; omega) | (simp; omega))
  clear e1
  go_upto_region 3 with fail
  refine wp_name (fun W => Ext w W ∧ Blk W (w.heap.size + 1) #[.string ⟨#[]⟩, .string ⟨#[]⟩] 24) ⟨(HX1.out.alloc _), (HB1_1.out.alloc _)⟩ ?_
  rintro w2 ⟨e2, bB1_2⟩
  have HX2 := Lib.hid e2; have HB1_2 := Lib.hid bB1_2
  clear e2 bB1_2
  have c1_0 := HB1_2.out.cell 0 rfl
  have f1_0 := HB1_2.out.free 0
  have c1_1 := HB1_2.out.cell 1 rfl
  have f1_1 := HB1_2.out.free 1
  go_wp2_with fail
  refine wp_name (fun W => Ext w W ∧ Blk W (w.heap.size + 1) #[.string ⟨#[]⟩, .string ⟨#[]⟩] 24) ⟨((HX2.out.setCell (by have := HGEB1.out; first | omega | (simp only []; omega) | (simp; omega)) _).setCell (by have := HGEB1.out; first | omega | (simp only []; omega) | (simp; omega)) _), ((HB1_2.out.set 0 (.string ⟨#[]⟩)).set 1 (.string ⟨#[]⟩))⟩ ?_
  rintro w3 ⟨e3, bB1_3⟩
  have HX3 := Lib.hid e3; have HB1_3 := Lib.hid bB1_3
  clear e3 bB1_3 c1_0 f1_0 c1_1 f1_1
  have gB1_0 := HB1_3.out.cell 0 rfl
  have gB1_1 := HB1_3.out.cell 1 rfl
  refine bodyPost_ret (v := .tuple #[.agg #[.string ⟨#[]⟩, .string ⟨#[]⟩], .int .i64 19]) (by simp [results, Tryz.results35, go_sem, gB1_0, gB1_1]) rfl ⟨rfl, HX3.out⟩

end Go.Proofs.YtplimbgaoengfaaGreatDoor
