/- Part 36 of the proof: A8, B3, B5. -/
import Derived.Test.YtglppcmegocphaaGreatDoorQU1
import Derived.Test.YtglppcmegocphaaGreatDoorQU2
import Derived.Test.YtglppcmegocphaaGreatDoorQU3
import Derived.Test.YtglppcmegocphaaGreatDoorQU4
import Derived.Test.YtglppcmegocphaaGreatDoorQU5
import Derived.Test.YtglppcmegocphaaGreatDoorQU6
import Derived.Test.YtglppcmegocphaaGreatDoorQU7
import Derived.Test.YtglppcmegocphaaGreatDoorQU8
import Derived.Test.YtglppcmegocphaaGreatDoorQU9
import Derived.Test.YtglppcmegocphaaGreatDoorQU10
import Derived.Test.YtglppcmegocphaaGreatDoorQU11
import Derived.Test.YtglppcmegocphaaGreatDoorQU12
import Derived.Test.YtglppcmegocphaaGreatDoorQU13
import Derived.Test.YtglppcmegocphaaGreatDoorQU14
import Derived.Test.YtglppcmegocphaaGreatDoorQU15
import Derived.Test.YtglppcmegocphaaGreatDoorQU16
import Derived.Test.YtglppcmegocphaaGreatDoorQU17
import Derived.Test.YtglppcmegocphaaGreatDoorQU18
import Derived.Test.YtglppcmegocphaaGreatDoorQU19
import Derived.Test.YtglppcmegocphaaGreatDoorQU20
import Derived.Test.YtglppcmegocphaaGreatDoorQU21
import Derived.Test.YtglppcmegocphaaGreatDoorQU22
import Derived.Test.YtglppcmegocphaaGreatDoorQU32
import Derived.Test.YtglppcmegocphaaGreatDoorQU34
import Derived.Test.YtglppcmegocphaaGreatDoorQU35
namespace Go.Proofs.YtglppcmegocphaaGreatDoor
open Go Go.RowKit
theorem natAbs_size (n : Int) : (zs (n.natAbs : Int)).size = (Lib.decDigits n.natAbs).length := zs_nat_size _

set_option maxRecDepth 100000 in
set_option maxHeartbeats 1000000 in
theorem fmul_c (a b : Int) {k m : Nat} (w : World) (g : Gd w) (ha : IB k a) (hb : IB m b) (hk : k ≤ 9000) (hm : m ≤ 9000) : Calls Tryz.prog 102 #[.string (zs a), .string (zs b)] w (Ret w (.string (zs (a * b)))) := by
  have s1 := natAbs_size a; have s2 := natAbs_size b
  have s3 : (Lib.decDigits a.natAbs).length ≤ 9001 := ha.dec_len hk
  have s4 : (Lib.decDigits b.natAbs).length ≤ 9001 := hb.dec_len hm
  have p1 := dec_len_pos a.natAbs; have p2 := dec_len_pos b.natAbs
  by_cases h : (Lib.decDigits a.natAbs).length + (Lib.decDigits b.natAbs).length ≤ 18
  · have h18 : ((zs (a.natAbs : Int)).size : Int) + ((zs (b.natAbs : Int)).size : Int) ≤ 18 := by omega
    have b1 : a.natAbs < 10 ^ (Lib.decDigits a.natAbs).length := dec_lt_pow _
    have b2 : b.natAbs < 10 ^ (Lib.decDigits b.natAbs).length := dec_lt_pow _
    have b3 : (a * b).natAbs < 1000000000000000000 := by
      rw [Int.natAbs_mul]
      have := Nat.mul_lt_mul'' b1 b2
      rw [← Nat.pow_add] at this
      exact Nat.lt_of_lt_of_le this (Nat.pow_le_pow_right (n := 10) (by decide) h)
    have A1 : Hid (a.natAbs < 1000000000000000000) := Lib.hid (Nat.lt_of_lt_of_le b1 (show _ ≤ 10 ^ 18 from Nat.pow_le_pow_right (by decide) (by omega)))
    have B1 : Hid (b.natAbs < 1000000000000000000) := Lib.hid (Nat.lt_of_lt_of_le b2 (show _ ≤ 10 ^ 18 from Nat.pow_le_pow_right (by decide) (by omega)))
    have c1 : -1000000000000000000 ≤ a * b := by omega
    have c2 : a * b ≤ 1000000000000000000 := by omega
    clear s1 s2 s3 s4 p1 p2 h b1 b2 b3 ha hb
    go_enter Tryz.func102, Tryz.ntmps102
    go_wp2_with (first
      | (go_at_call 140; ((with_reducible refine (split_c a w).mono ?_); rintro e w1 ⟨rfl, e1⟩))
      | (go_at_call 140; refine (split_c b _).mono ?_; rintro e w2 ⟨rfl, e2⟩)
      | (go_at_call 141; ((with_reducible refine (fsmall_c a w2 A1.out).mono ?_); rintro e w3 ⟨rfl, e3⟩))
      | (go_at_call 141; refine (fsmall_c b _ B1.out).mono ?_; rintro e w4 ⟨rfl, e4⟩; have e14 := ((e1.trans e2).trans e3).trans e4)
      | (go_at_call 82; refine (fof_c (a * b) (by omega) (by omega) _ (g.ext e14)).mono ?_; rintro e w5 ⟨rfl, e5⟩))
    go_ret
    exact ⟨rfl, e14.trans e5⟩
  · have h18 : ¬ ((zs (a.natAbs : Int)).size : Int) + ((zs (b.natAbs : Int)).size : Int) ≤ 18 := by omega
    have S1 : ((zs (a.natAbs : Int)).size : Int) ≤ 9001 := by omega
    have S2 : ((zs (b.natAbs : Int)).size : Int) ≤ 9001 := by omega
    have L1 : Hid ((Lib.decDigits a.natAbs).length ≤ 20000) := Lib.hid (by omega)
    have L2 : Hid ((Lib.decDigits b.natAbs).length ≤ 20000) := Lib.hid (by omega)
    have FA := Lib.hid (ha.rfit (by omega)); have FB := Lib.hid (hb.rfit (by omega))
    have FC : Hid (RFit (a.natAbs * b.natAbs)) := Lib.hid (by rw [← Int.natAbs_mul]; exact (ha.mul hb).rfit (by omega))
    have HS := Lib.hid (sgn_ne a b)
    clear s1 s2 s3 s4 p1 p2 h ha hb
    go_enter Tryz.func102, Tryz.ntmps102
    go_wp2_with (first
      | (go_at_call 140; ((with_reducible refine (split_c a w).mono ?_); rintro e w1 ⟨rfl, e1⟩))
      | (go_at_call 140; refine (split_c b _).mono ?_; rintro e w2 ⟨rfl, e2⟩)
      | (go_at_call 144; ((with_reducible refine (take_c a.natAbs w2 L1.out).mono ?_); rintro e w3 ⟨va, rfl, e3, ma⟩; obtain ⟨aa, an, ac, rfl⟩ := ma.slice))
      | (go_at_call 144; refine (take_c b.natAbs _ L2.out).mono ?_; rintro e w4 ⟨vb, rfl, e4, mb⟩; obtain ⟨ba, bn, bc, rfl⟩ := mb.slice; have e14 := ((e1.trans e2).trans e3).trans e4)
      | (go_at_call 143; refine (rtimes_c a.natAbs b.natAbs _ _ _ (ma.ext e4) mb FA.out FB.out FC.out).mono ?_; rintro e w5 ⟨vc, rfl, e5, mc⟩; obtain ⟨ca, cn, cc, rfl⟩ := mc.slice)
      | (go_at_call 142; refine (made_c _ (a.natAbs * b.natAbs) _ _ mc FC.out (g.ext (e14.trans e5))).mono ?_; rintro e w6 ⟨rfl, e6⟩))
    go_ret
    exact ⟨ret_str HS.out, (e14.trans e5).trans e6⟩

set_option maxRecDepth 100000 in
set_option maxHeartbeats 1000000 in
theorem fadd_small (a b : Int) (w : World) (g : Gd w) (ha : (Lib.decDigits a.natAbs).length ≤ 17) (hb : (Lib.decDigits b.natAbs).length ≤ 17) : Calls Tryz.prog 125 #[.string (zs a), .string (zs b)] w (Ret w (.string (zs (a + b)))) := by
  have h1 := lt_of_dec_len ha
  have h2 := lt_of_dec_len hb
  have b1 : -9223372036854775808 ≤ a + b := by omega
  have b2 : a + b ≤ 9223372036854775807 := by omega
  have HA := Lib.hid ha; have HB := Lib.hid hb
  clear h1 h2 ha hb
  go_enter Tryz.func125, Tryz.ntmps125
  go_wp2_with (first
    | (go_at_call 165; ((with_reducible refine (brief_yes a w HA.out).mono ?_); rintro e w1 ⟨rfl, e1⟩))
    | (go_at_call 165; refine (brief_yes b _ HB.out).mono ?_; rintro e w2 ⟨rfl, e2⟩)
    | (go_at_call 82; refine (fof_c (a + b) b1 b2 _ (g.ext (e1.trans e2))).mono ?_; rintro e w3 ⟨rfl, e3⟩))
  go_ret
  exact ⟨rfl, (e1.trans e2).trans e3⟩

set_option maxRecDepth 100000 in
set_option maxHeartbeats 2000000 in
theorem fadd_big (a b : Int) {k m : Nat} (w : World) (g : Gd w) (ha : IB k a) (hb : IB m b) (hk : k ≤ 9000) (hm : m ≤ 9000) (h : ¬ ((Lib.decDigits a.natAbs).length ≤ 17 ∧ (Lib.decDigits b.natAbs).length ≤ 17)) : Calls Tryz.prog 125 #[.string (zs a), .string (zs b)] w (Ret w (.string (zs (a + b)))) := by
  have s3 : (Lib.decDigits a.natAbs).length ≤ 9001 := ha.dec_len hk
  have s4 : (Lib.decDigits b.natAbs).length ≤ 9001 := hb.dec_len hm
  have L1 : Hid ((Lib.decDigits a.natAbs).length ≤ 20000) := Lib.hid (by omega)
  have L2 : Hid ((Lib.decDigits b.natAbs).length ≤ 20000) := Lib.hid (by omega)
  have FA := Lib.hid (ha.rfit (by omega)); have FB := Lib.hid (hb.rfit (by omega))
  have Fs : Hid (RFit (a.natAbs + b.natAbs)) := Lib.hid (by
    have h1 : IB (max k m + 1) ((a.natAbs : Int) + (b.natAbs : Int)) := IB.add ⟨by simpa using ha.out⟩ ⟨by simpa using hb.out⟩
    have h2 := h1.rfit (by omega)
    rwa [← Int.natCast_add, Int.natAbs_natCast] at h2)
  clear s3 s4 ha hb
  -- which sum is made
  obtain ⟨sa, hsa⟩ : ∃ sa, sa = decide (a < 0) := ⟨_, rfl⟩
  obtain ⟨sb, hsb⟩ : ∃ sb, sb = decide (b < 0) := ⟨_, rfl⟩
  have HSA := Lib.hid hsa; have HSB := Lib.hid hsb
  obtain ⟨lt, hlt⟩ : ∃ lt, lt = decide (a.natAbs < b.natAbs) := ⟨_, rfl⟩
  have HLT := Lib.hid hlt
  have key : Hid (((sa == sb) = true → sgn sa (a.natAbs + b.natAbs) = a + b) ∧ ((sa == sb) = false → lt = true → sgn sb (b.natAbs - a.natAbs) = a + b ∧ a.natAbs ≤ b.natAbs) ∧ ((sa == sb) = false → lt = false → sgn sa (a.natAbs - b.natAbs) = a + b ∧ b.natAbs ≤ a.natAbs)) := Lib.hid (by
    refine ⟨fun e => ?_, fun e e2 => ?_, fun e e2 => ?_⟩
    · rw [hsa]; exact sgn_same (by rw [← hsa, ← hsb]; simpa using e)
    · have hl : a.natAbs < b.natAbs := of_decide_eq_true (hlt ▸ e2)
      refine ⟨?_, Nat.le_of_lt hl⟩
      rw [hsb, Int.add_comm]; exact sgn_diff (by rw [← hsa, ← hsb]; intro e3; rw [e3] at e; simp at e) (Nat.le_of_lt hl)
    · have hl : ¬ a.natAbs < b.natAbs := of_decide_eq_false (hlt ▸ e2)
      refine ⟨?_, by omega⟩
      rw [hsa]; exact sgn_diff (by rw [← hsa, ← hsb]; intro e3; rw [e3] at e; simp at e) (by omega))
  clear hsa hsb hlt
  by_cases h9 : (Lib.decDigits a.natAbs).length ≤ 17
  · have H9 := Lib.hid h9
    have H9' : Hid (¬ (Lib.decDigits b.natAbs).length ≤ 17) := Lib.hid (fun e => h ⟨h9, e⟩)
    clear h h9
    rcases Bool.eq_false_or_eq_true (sa == sb) with hs | hs
    · have KEY := Lib.hid (key.out.1 hs)
      clear key
      go_enter Tryz.func125, Tryz.ntmps125
      go_wp2_with (first
        | (go_at_call 165; ((with_reducible refine (brief_yes a w H9.out).mono ?_); rintro e w0 ⟨rfl, e0⟩))
        | (go_at_call 165; refine (brief_no b _ H9'.out).mono ?_; rintro e w1 ⟨rfl, e1⟩; have e01 := e0.trans e1)
        | (go_at_call 140; ((with_reducible refine (split_c a w1).mono ?_); rw [← HSA.out]; rintro e w2 ⟨rfl, e2⟩))
        | (go_at_call 140; refine (split_c b _).mono ?_; rw [← HSB.out]; rintro e w3 ⟨rfl, e3⟩)
        | (go_at_call 144; ((with_reducible refine (take_c a.natAbs w3 L1.out).mono ?_); rintro e w4 ⟨va, rfl, e4, ma⟩; obtain ⟨aa, an, ac, rfl⟩ := ma.slice))
        | (go_at_call 144; refine (take_c b.natAbs _ L2.out).mono ?_; rintro e w5 ⟨vb, rfl, e5, mb⟩; obtain ⟨ba, bn, bc, rfl⟩ := mb.slice; have e15 := (((e01.trans e2).trans e3).trans e4).trans e5)
        | (go_at_call 166; refine (joined_c a.natAbs b.natAbs 1 _ _ _ (ma.ext e5) mb (by omega) (by omega) (by omega) FA.out FB.out (by rw [joined_plus]; exact Fs.out)).mono ?_; rw [joined_plus]; rintro e w7 ⟨vc, rfl, e7, mc⟩; obtain ⟨ca, cn, cc, rfl⟩ := mc.slice; have e17 := e15.trans e7)
        | (go_at_call 142; refine (made_c _ (a.natAbs + b.natAbs) _ _ mc Fs.out (g.ext e17)).mono ?_; rintro e w8 ⟨rfl, e8⟩))
      go_ret
      exact ⟨ret_str KEY.out, e17.trans e8⟩
    · cases lt
      · have KEY := Lib.hid (key.out.2.2 hs rfl)
        clear key
        go_enter Tryz.func125, Tryz.ntmps125
        go_wp2_with (first
          | (go_at_call 165; ((with_reducible refine (brief_yes a w H9.out).mono ?_); rintro e w0 ⟨rfl, e0⟩))
          | (go_at_call 165; refine (brief_no b _ H9'.out).mono ?_; rintro e w1 ⟨rfl, e1⟩; have e01 := e0.trans e1)
          | (go_at_call 140; ((with_reducible refine (split_c a w1).mono ?_); rw [← HSA.out]; rintro e w2 ⟨rfl, e2⟩))
          | (go_at_call 140; refine (split_c b _).mono ?_; rw [← HSB.out]; rintro e w3 ⟨rfl, e3⟩)
          | (go_at_call 144; ((with_reducible refine (take_c a.natAbs w3 L1.out).mono ?_); rintro e w4 ⟨va, rfl, e4, ma⟩; obtain ⟨aa, an, ac, rfl⟩ := ma.slice))
          | (go_at_call 144; refine (take_c b.natAbs _ L2.out).mono ?_; rintro e w5 ⟨vb, rfl, e5, mb⟩; obtain ⟨ba, bn, bc, rfl⟩ := mb.slice; have e15 := (((e01.trans e2).trans e3).trans e4).trans e5)
          | (go_at_call 167; refine (less_c a.natAbs b.natAbs _ _ _ (ma.ext e5) mb).mono ?_; rw [← HLT.out]; rintro e w6 ⟨rfl, e6⟩)
          | (go_at_call 166; refine (joined_c a.natAbs b.natAbs (-1) _ _ _ ((ma.ext e5).ext e6) (mb.ext e6) (by omega) (by omega) (by have := KEY.out.2; omega) FA.out FB.out (by rw [joined_minus KEY.out.2]; exact FA.out.mono (Nat.sub_le _ _))).mono ?_; rw [joined_minus KEY.out.2]; rintro e w7 ⟨vc, rfl, e7, mc⟩; obtain ⟨ca, cn, cc, rfl⟩ := mc.slice; have e17 := (e15.trans e6).trans e7)
          | (go_at_call 142; refine (made_c _ (a.natAbs - b.natAbs) _ _ mc (FA.out.mono (Nat.sub_le _ _)) (g.ext e17)).mono ?_; rintro e w8 ⟨rfl, e8⟩))
        go_ret
        exact ⟨ret_str KEY.out.1, e17.trans e8⟩
      · have KEY := Lib.hid (key.out.2.1 hs rfl)
        clear key
        go_enter Tryz.func125, Tryz.ntmps125
        go_wp2_with (first
          | (go_at_call 165; ((with_reducible refine (brief_yes a w H9.out).mono ?_); rintro e w0 ⟨rfl, e0⟩))
          | (go_at_call 165; refine (brief_no b _ H9'.out).mono ?_; rintro e w1 ⟨rfl, e1⟩; have e01 := e0.trans e1)
          | (go_at_call 140; ((with_reducible refine (split_c a w1).mono ?_); rw [← HSA.out]; rintro e w2 ⟨rfl, e2⟩))
          | (go_at_call 140; refine (split_c b _).mono ?_; rw [← HSB.out]; rintro e w3 ⟨rfl, e3⟩)
          | (go_at_call 144; ((with_reducible refine (take_c a.natAbs w3 L1.out).mono ?_); rintro e w4 ⟨va, rfl, e4, ma⟩; obtain ⟨aa, an, ac, rfl⟩ := ma.slice))
          | (go_at_call 144; refine (take_c b.natAbs _ L2.out).mono ?_; rintro e w5 ⟨vb, rfl, e5, mb⟩; obtain ⟨ba, bn, bc, rfl⟩ := mb.slice; have e15 := (((e01.trans e2).trans e3).trans e4).trans e5)
          | (go_at_call 167; refine (less_c a.natAbs b.natAbs _ _ _ (ma.ext e5) mb).mono ?_; rw [← HLT.out]; rintro e w6 ⟨rfl, e6⟩)
          | (go_at_call 166; refine (joined_c b.natAbs a.natAbs (-1) _ _ _ (mb.ext e6) ((ma.ext e5).ext e6) (by omega) (by omega) (by have := KEY.out.2; omega) FB.out FA.out (by rw [joined_minus KEY.out.2]; exact FB.out.mono (Nat.sub_le _ _))).mono ?_; rw [joined_minus KEY.out.2]; rintro e w7 ⟨vc, rfl, e7, mc⟩; obtain ⟨ca, cn, cc, rfl⟩ := mc.slice; have e17 := (e15.trans e6).trans e7)
          | (go_at_call 142; refine (made_c _ (b.natAbs - a.natAbs) _ _ mc (FB.out.mono (Nat.sub_le _ _)) (g.ext e17)).mono ?_; rintro e w8 ⟨rfl, e8⟩))
        go_ret
        exact ⟨ret_str KEY.out.1, e17.trans e8⟩
  · have H9 := Lib.hid h9
    clear h h9
    by_cases h8 : (Lib.decDigits b.natAbs).length ≤ 17
    · have H9' := Lib.hid h8
      clear h8
      rcases Bool.eq_false_or_eq_true (sa == sb) with hs | hs
      · have KEY := Lib.hid (key.out.1 hs)
        clear key
        go_enter Tryz.func125, Tryz.ntmps125
        go_wp2_with (first
          | (go_at_call 165; ((with_reducible refine (brief_no a w H9.out).mono ?_); rintro e w0 ⟨rfl, e0⟩))
          | (go_at_call 165; first | (refine (brief_yes b _ H9'.out).mono ?_; rintro e w1 ⟨rfl, e1⟩; have e01 := e0.trans e1) | (refine (brief_no b _ H9'.out).mono ?_; rintro e w1 ⟨rfl, e1⟩; have e01 := e0.trans e1))
          | (go_at_call 140; ((with_reducible refine (split_c a w1).mono ?_); rw [← HSA.out]; rintro e w2 ⟨rfl, e2⟩))
          | (go_at_call 140; refine (split_c b _).mono ?_; rw [← HSB.out]; rintro e w3 ⟨rfl, e3⟩)
          | (go_at_call 144; ((with_reducible refine (take_c a.natAbs w3 L1.out).mono ?_); rintro e w4 ⟨va, rfl, e4, ma⟩; obtain ⟨aa, an, ac, rfl⟩ := ma.slice))
          | (go_at_call 144; refine (take_c b.natAbs _ L2.out).mono ?_; rintro e w5 ⟨vb, rfl, e5, mb⟩; obtain ⟨ba, bn, bc, rfl⟩ := mb.slice; have e15 := (((e01.trans e2).trans e3).trans e4).trans e5)
          | (go_at_call 166; refine (joined_c a.natAbs b.natAbs 1 _ _ _ (ma.ext e5) mb (by omega) (by omega) (by omega) FA.out FB.out (by rw [joined_plus]; exact Fs.out)).mono ?_; rw [joined_plus]; rintro e w7 ⟨vc, rfl, e7, mc⟩; obtain ⟨ca, cn, cc, rfl⟩ := mc.slice; have e17 := e15.trans e7)
          | (go_at_call 142; refine (made_c _ (a.natAbs + b.natAbs) _ _ mc Fs.out (g.ext e17)).mono ?_; rintro e w8 ⟨rfl, e8⟩))
        go_ret
        exact ⟨ret_str KEY.out, e17.trans e8⟩
      · cases lt
        · have KEY := Lib.hid (key.out.2.2 hs rfl)
          clear key
          go_enter Tryz.func125, Tryz.ntmps125
          go_wp2_with (first
            | (go_at_call 165; ((with_reducible refine (brief_no a w H9.out).mono ?_); rintro e w0 ⟨rfl, e0⟩))
            | (go_at_call 165; first | (refine (brief_yes b _ H9'.out).mono ?_; rintro e w1 ⟨rfl, e1⟩; have e01 := e0.trans e1) | (refine (brief_no b _ H9'.out).mono ?_; rintro e w1 ⟨rfl, e1⟩; have e01 := e0.trans e1))
            | (go_at_call 140; ((with_reducible refine (split_c a w1).mono ?_); rw [← HSA.out]; rintro e w2 ⟨rfl, e2⟩))
            | (go_at_call 140; refine (split_c b _).mono ?_; rw [← HSB.out]; rintro e w3 ⟨rfl, e3⟩)
            | (go_at_call 144; ((with_reducible refine (take_c a.natAbs w3 L1.out).mono ?_); rintro e w4 ⟨va, rfl, e4, ma⟩; obtain ⟨aa, an, ac, rfl⟩ := ma.slice))
            | (go_at_call 144; refine (take_c b.natAbs _ L2.out).mono ?_; rintro e w5 ⟨vb, rfl, e5, mb⟩; obtain ⟨ba, bn, bc, rfl⟩ := mb.slice; have e15 := (((e01.trans e2).trans e3).trans e4).trans e5)
            | (go_at_call 167; refine (less_c a.natAbs b.natAbs _ _ _ (ma.ext e5) mb).mono ?_; rw [← HLT.out]; rintro e w6 ⟨rfl, e6⟩)
            | (go_at_call 166; refine (joined_c a.natAbs b.natAbs (-1) _ _ _ ((ma.ext e5).ext e6) (mb.ext e6) (by omega) (by omega) (by have := KEY.out.2; omega) FA.out FB.out (by rw [joined_minus KEY.out.2]; exact FA.out.mono (Nat.sub_le _ _))).mono ?_; rw [joined_minus KEY.out.2]; rintro e w7 ⟨vc, rfl, e7, mc⟩; obtain ⟨ca, cn, cc, rfl⟩ := mc.slice; have e17 := (e15.trans e6).trans e7)
            | (go_at_call 142; refine (made_c _ (a.natAbs - b.natAbs) _ _ mc (FA.out.mono (Nat.sub_le _ _)) (g.ext e17)).mono ?_; rintro e w8 ⟨rfl, e8⟩))
          go_ret
          exact ⟨ret_str KEY.out.1, e17.trans e8⟩
        · have KEY := Lib.hid (key.out.2.1 hs rfl)
          clear key
          go_enter Tryz.func125, Tryz.ntmps125
          go_wp2_with (first
            | (go_at_call 165; ((with_reducible refine (brief_no a w H9.out).mono ?_); rintro e w0 ⟨rfl, e0⟩))
            | (go_at_call 165; first | (refine (brief_yes b _ H9'.out).mono ?_; rintro e w1 ⟨rfl, e1⟩; have e01 := e0.trans e1) | (refine (brief_no b _ H9'.out).mono ?_; rintro e w1 ⟨rfl, e1⟩; have e01 := e0.trans e1))
            | (go_at_call 140; ((with_reducible refine (split_c a w1).mono ?_); rw [← HSA.out]; rintro e w2 ⟨rfl, e2⟩))
            | (go_at_call 140; refine (split_c b _).mono ?_; rw [← HSB.out]; rintro e w3 ⟨rfl, e3⟩)
            | (go_at_call 144; ((with_reducible refine (take_c a.natAbs w3 L1.out).mono ?_); rintro e w4 ⟨va, rfl, e4, ma⟩; obtain ⟨aa, an, ac, rfl⟩ := ma.slice))
            | (go_at_call 144; refine (take_c b.natAbs _ L2.out).mono ?_; rintro e w5 ⟨vb, rfl, e5, mb⟩; obtain ⟨ba, bn, bc, rfl⟩ := mb.slice; have e15 := (((e01.trans e2).trans e3).trans e4).trans e5)
            | (go_at_call 167; refine (less_c a.natAbs b.natAbs _ _ _ (ma.ext e5) mb).mono ?_; rw [← HLT.out]; rintro e w6 ⟨rfl, e6⟩)
            | (go_at_call 166; refine (joined_c b.natAbs a.natAbs (-1) _ _ _ (mb.ext e6) ((ma.ext e5).ext e6) (by omega) (by omega) (by have := KEY.out.2; omega) FB.out FA.out (by rw [joined_minus KEY.out.2]; exact FB.out.mono (Nat.sub_le _ _))).mono ?_; rw [joined_minus KEY.out.2]; rintro e w7 ⟨vc, rfl, e7, mc⟩; obtain ⟨ca, cn, cc, rfl⟩ := mc.slice; have e17 := (e15.trans e6).trans e7)
            | (go_at_call 142; refine (made_c _ (b.natAbs - a.natAbs) _ _ mc (FB.out.mono (Nat.sub_le _ _)) (g.ext e17)).mono ?_; rintro e w8 ⟨rfl, e8⟩))
          go_ret
          exact ⟨ret_str KEY.out.1, e17.trans e8⟩
    · have H9' := Lib.hid h8
      clear h8
      rcases Bool.eq_false_or_eq_true (sa == sb) with hs | hs
      · have KEY := Lib.hid (key.out.1 hs)
        clear key
        go_enter Tryz.func125, Tryz.ntmps125
        go_wp2_with (first
          | (go_at_call 165; ((with_reducible refine (brief_no a w H9.out).mono ?_); rintro e w0 ⟨rfl, e0⟩))
          | (go_at_call 165; first | (refine (brief_yes b _ H9'.out).mono ?_; rintro e w1 ⟨rfl, e1⟩; have e01 := e0.trans e1) | (refine (brief_no b _ H9'.out).mono ?_; rintro e w1 ⟨rfl, e1⟩; have e01 := e0.trans e1))
          | (go_at_call 140; ((with_reducible refine (split_c a w1).mono ?_); rw [← HSA.out]; rintro e w2 ⟨rfl, e2⟩))
          | (go_at_call 140; refine (split_c b _).mono ?_; rw [← HSB.out]; rintro e w3 ⟨rfl, e3⟩)
          | (go_at_call 144; ((with_reducible refine (take_c a.natAbs w3 L1.out).mono ?_); rintro e w4 ⟨va, rfl, e4, ma⟩; obtain ⟨aa, an, ac, rfl⟩ := ma.slice))
          | (go_at_call 144; refine (take_c b.natAbs _ L2.out).mono ?_; rintro e w5 ⟨vb, rfl, e5, mb⟩; obtain ⟨ba, bn, bc, rfl⟩ := mb.slice; have e15 := (((e01.trans e2).trans e3).trans e4).trans e5)
          | (go_at_call 166; refine (joined_c a.natAbs b.natAbs 1 _ _ _ (ma.ext e5) mb (by omega) (by omega) (by omega) FA.out FB.out (by rw [joined_plus]; exact Fs.out)).mono ?_; rw [joined_plus]; rintro e w7 ⟨vc, rfl, e7, mc⟩; obtain ⟨ca, cn, cc, rfl⟩ := mc.slice; have e17 := e15.trans e7)
          | (go_at_call 142; refine (made_c _ (a.natAbs + b.natAbs) _ _ mc Fs.out (g.ext e17)).mono ?_; rintro e w8 ⟨rfl, e8⟩))
        go_ret
        exact ⟨ret_str KEY.out, e17.trans e8⟩
      · cases lt
        · have KEY := Lib.hid (key.out.2.2 hs rfl)
          clear key
          go_enter Tryz.func125, Tryz.ntmps125
          go_wp2_with (first
            | (go_at_call 165; ((with_reducible refine (brief_no a w H9.out).mono ?_); rintro e w0 ⟨rfl, e0⟩))
            | (go_at_call 165; first | (refine (brief_yes b _ H9'.out).mono ?_; rintro e w1 ⟨rfl, e1⟩; have e01 := e0.trans e1) | (refine (brief_no b _ H9'.out).mono ?_; rintro e w1 ⟨rfl, e1⟩; have e01 := e0.trans e1))
            | (go_at_call 140; ((with_reducible refine (split_c a w1).mono ?_); rw [← HSA.out]; rintro e w2 ⟨rfl, e2⟩))
            | (go_at_call 140; refine (split_c b _).mono ?_; rw [← HSB.out]; rintro e w3 ⟨rfl, e3⟩)
            | (go_at_call 144; ((with_reducible refine (take_c a.natAbs w3 L1.out).mono ?_); rintro e w4 ⟨va, rfl, e4, ma⟩; obtain ⟨aa, an, ac, rfl⟩ := ma.slice))
            | (go_at_call 144; refine (take_c b.natAbs _ L2.out).mono ?_; rintro e w5 ⟨vb, rfl, e5, mb⟩; obtain ⟨ba, bn, bc, rfl⟩ := mb.slice; have e15 := (((e01.trans e2).trans e3).trans e4).trans e5)
            | (go_at_call 167; refine (less_c a.natAbs b.natAbs _ _ _ (ma.ext e5) mb).mono ?_; rw [← HLT.out]; rintro e w6 ⟨rfl, e6⟩)
            | (go_at_call 166; refine (joined_c a.natAbs b.natAbs (-1) _ _ _ ((ma.ext e5).ext e6) (mb.ext e6) (by omega) (by omega) (by have := KEY.out.2; omega) FA.out FB.out (by rw [joined_minus KEY.out.2]; exact FA.out.mono (Nat.sub_le _ _))).mono ?_; rw [joined_minus KEY.out.2]; rintro e w7 ⟨vc, rfl, e7, mc⟩; obtain ⟨ca, cn, cc, rfl⟩ := mc.slice; have e17 := (e15.trans e6).trans e7)
            | (go_at_call 142; refine (made_c _ (a.natAbs - b.natAbs) _ _ mc (FA.out.mono (Nat.sub_le _ _)) (g.ext e17)).mono ?_; rintro e w8 ⟨rfl, e8⟩))
          go_ret
          exact ⟨ret_str KEY.out.1, e17.trans e8⟩
        · have KEY := Lib.hid (key.out.2.1 hs rfl)
          clear key
          go_enter Tryz.func125, Tryz.ntmps125
          go_wp2_with (first
            | (go_at_call 165; ((with_reducible refine (brief_no a w H9.out).mono ?_); rintro e w0 ⟨rfl, e0⟩))
            | (go_at_call 165; first | (refine (brief_yes b _ H9'.out).mono ?_; rintro e w1 ⟨rfl, e1⟩; have e01 := e0.trans e1) | (refine (brief_no b _ H9'.out).mono ?_; rintro e w1 ⟨rfl, e1⟩; have e01 := e0.trans e1))
            | (go_at_call 140; ((with_reducible refine (split_c a w1).mono ?_); rw [← HSA.out]; rintro e w2 ⟨rfl, e2⟩))
            | (go_at_call 140; refine (split_c b _).mono ?_; rw [← HSB.out]; rintro e w3 ⟨rfl, e3⟩)
            | (go_at_call 144; ((with_reducible refine (take_c a.natAbs w3 L1.out).mono ?_); rintro e w4 ⟨va, rfl, e4, ma⟩; obtain ⟨aa, an, ac, rfl⟩ := ma.slice))
            | (go_at_call 144; refine (take_c b.natAbs _ L2.out).mono ?_; rintro e w5 ⟨vb, rfl, e5, mb⟩; obtain ⟨ba, bn, bc, rfl⟩ := mb.slice; have e15 := (((e01.trans e2).trans e3).trans e4).trans e5)
            | (go_at_call 167; refine (less_c a.natAbs b.natAbs _ _ _ (ma.ext e5) mb).mono ?_; rw [← HLT.out]; rintro e w6 ⟨rfl, e6⟩)
            | (go_at_call 166; refine (joined_c b.natAbs a.natAbs (-1) _ _ _ (mb.ext e6) ((ma.ext e5).ext e6) (by omega) (by omega) (by have := KEY.out.2; omega) FB.out FA.out (by rw [joined_minus KEY.out.2]; exact FB.out.mono (Nat.sub_le _ _))).mono ?_; rw [joined_minus KEY.out.2]; rintro e w7 ⟨vc, rfl, e7, mc⟩; obtain ⟨ca, cn, cc, rfl⟩ := mc.slice; have e17 := (e15.trans e6).trans e7)
            | (go_at_call 142; refine (made_c _ (b.natAbs - a.natAbs) _ _ mc (FB.out.mono (Nat.sub_le _ _)) (g.ext e17)).mono ?_; rintro e w8 ⟨rfl, e8⟩))
          go_ret
          exact ⟨ret_str KEY.out.1, e17.trans e8⟩

theorem fadd_c (a b : Int) {k m : Nat} (w : World) (g : Gd w) (ha : IB k a) (hb : IB m b) (hk : k ≤ 9000) (hm : m ≤ 9000) : Calls Tryz.prog 125 #[.string (zs a), .string (zs b)] w (Ret w (.string (zs (a + b)))) := by
  by_cases h : (Lib.decDigits a.natAbs).length ≤ 17 ∧ (Lib.decDigits b.natAbs).length ≤ 17
  · exact fadd_small a b w g h.1 h.2
  · exact fadd_big a b w g ha hb hk hm h

set_option maxRecDepth 100000 in
theorem fsub_c (a b : Int) {k m : Nat} (w : World) (g : Gd w) (ha : IB k a) (hb : IB m b) (hk : k ≤ 9000) (hm : m ≤ 9000) : Calls Tryz.prog 148 #[.string (zs a), .string (zs b)] w (Ret w (.string (zs (a - b)))) := by
  have HA := Lib.hid ha; have HB := Lib.hid hb; have E := Lib.hid (Int.sub_eq_add_neg (a := a) (b := b))
  have L := Lib.hid (hb.len (by omega))
  clear ha hb
  go_enter Tryz.func148, Tryz.ntmps148
  go_wp2_with (first
    | (go_at_call 128; refine (fneg_c b _ L.out).mono ?_; rintro e w1 ⟨rfl, e1⟩)
    | (go_at_call 125; refine (fadd_c a (-b) _ (g.ext e1) HA.out HB.out.neg hk hm).mono ?_; rintro e w2 ⟨rfl, e2⟩))
  go_ret
  exact ⟨ret_str E.out.symm, e1.trans e2⟩

theorem icmp_sign (a b : Int) : (a - b).sign = icmp a b := by
  rcases Int.lt_trichotomy a b with h | h | h
  · rw [icmp_lt h, Int.sign_eq_neg_one_of_neg (by omega)]
  · subst h; rw [icmp_eq, Int.sub_self]; rfl
  · rw [icmp_gt h, Int.sign_eq_one_of_pos (by omega)]

set_option maxRecDepth 100000 in
theorem fcompare_c (a b : Int) {k m : Nat} (w : World) (g : Gd w) (ha : IB k a) (hb : IB m b) (hk : k ≤ 9000) (hm : m ≤ 9000) : Calls Tryz.prog 109 #[.string (zs a), .string (zs b)] w (Ret w (.int .i64 (icmp a b))) := by
  have HA := Lib.hid ha; have HB := Lib.hid hb; have E := Lib.hid (icmp_sign a b)
  clear ha hb
  go_enter Tryz.func109, Tryz.ntmps109
  go_wp2_with (first
    | (go_at_call 148; refine (fsub_c a b _ g HA.out HB.out hk hm).mono ?_; rintro e w1 ⟨rfl, e1⟩)
    | (go_at_call 127; refine (fsign_c _ _).mono ?_; rw [E.out]; rintro e w2 ⟨rfl, e2⟩))
  go_ret
  exact ⟨rfl, e1.trans e2⟩
end Go.Proofs.YtglppcmegocphaaGreatDoor

namespace Go.Proofs.YtglppcmegocphaaGreatDoor
open Go Go.RowKit
theorem idx_none (s : ByteArray) (w : World) (h : (47 : UInt8) ∉ s.data.toList) : Calls Tryz.prog 108 #[.string s, .int .u8 47] w fun e w' => e = .returned (.int .i64 (-1)) ∧ w = w' :=
  (Tryz.strings_IndexByte s 47 w).mono fun _ _ ⟨e, h2⟩ => ⟨by rw [e, ← indexByte_none h]; rfl, h2.symm⟩

theorem idx_at (s : ByteArray) (x y : List UInt8) (w : World) (hs : s.data.toList = x ++ 47 :: y) (h : (47 : UInt8) ∉ x) : Calls Tryz.prog 108 #[.string s, .int .u8 47] w fun e w' => e = .returned (.int .i64 x.length) ∧ w = w' :=
  (Tryz.strings_IndexByte s 47 w).mono fun _ _ ⟨e, h2⟩ => ⟨by rw [e, ← indexByte_at (y := y) h, ← hs]; rfl, h2.symm⟩

set_option maxRecDepth 100000 in
theorem fcut_none (s : ByteArray) (w : World) (h : (47 : UInt8) ∉ s.data.toList) : Calls Tryz.prog 78 #[.string s] w fun e w' => e = .returned (.tuple #[.string s, .string ⟨#[49]⟩]) ∧ Ext w w' := by
  have H := Lib.hid h
  clear h
  go_enter Tryz.func78, Tryz.ntmps78
  go_wp2_with (go_at_call 108; refine (idx_none s _ H.out).mono ?_; rintro e w' ⟨rfl, rfl⟩)
  go_ret2
  exact ⟨rfl, Ext.refl _⟩

set_option maxRecDepth 100000 in
theorem fcut_at (s : ByteArray) (x y : List UInt8) (w : World) (hs : s.data.toList = x ++ 47 :: y) (h : (47 : UInt8) ∉ x) (hl : s.size ≤ 1000000) :
    Calls Tryz.prog 78 #[.string s] w fun e w' => e = .returned (.tuple #[.string ⟨x.toArray⟩, .string ⟨y.toArray⟩]) ∧ Ext w w' := by
  have hi := fun w => idx_at s x y w hs h
  have hsz : x.length + 1 ≤ s.size := by
    have : s.size = s.data.toList.length := by rw [Array.length_toList]; rfl
    rw [this, hs]; simp
  have hcl := cut_left x y
  have hcr := cut_right x y
  rw [show (⟨(x ++ 47 :: y).toArray⟩ : ByteArray) = s by rw [← hs]] at hcl hcr
  obtain ⟨n, hn⟩ : ∃ n, n = x.length := ⟨_, rfl⟩
  rw [← hn] at hi hsz hcl hcr
  have HI := Lib.hid hi; have HL := Lib.hid hcl; have HR := Lib.hid hcr
  clear hi h hs hn hcl hcr
  have hsz' : (n : Int) + 1 ≤ (s.size : Int) := by omega
  have hsz2 : (n : Int) ≤ (s.size : Int) := by omega
  go_enter Tryz.func78, Tryz.ntmps78
  go_wp2_with (go_at_call 108; refine (HI.out _).mono ?_; rintro e w' ⟨rfl, rfl⟩)
  go_region
  all_goals
    go_wp2
    go_ret2
    exact ⟨by rw [← HL.out, ← HR.out]; rfl, (Ext.refl _).drew⟩

end Go.Proofs.YtglppcmegocphaaGreatDoor

namespace Go.Proofs.YtglppcmegocphaaGreatDoor
open Go Go.RowKit
set_option maxRecDepth 100000 in
set_option maxHeartbeats 1000000 in
theorem fqright_bad (s x y : ByteArray) (w : World) (lx : x.size ≤ 1000000) (_ly : y.size ≤ 1000000) (hc : ∀ w, Calls Tryz.prog 78 #[.string s] w fun e w' => e = .returned (.tuple #[.string x, .string y]) ∧ Ext w w') (hx : ¬ RightI x.data.toList) :
    Calls Tryz.prog 59 #[.string s] w (Ret w (.bool false)) := by
  have HX := Lib.hid hx
  clear hx
  go_enter Tryz.func59, Tryz.ntmps59
  go_wp2_with (first
    | (go_at_call 78; refine (hc _).mono ?_; rintro e w1 ⟨rfl, e1⟩)
    | (go_at_call 107; ((with_reducible refine (fright_c x false w1 lx ⟨fun h => absurd h HX.out, fun _ => rfl⟩).mono ?_); rintro e w2 ⟨rfl, e2⟩)))
  go_ret
  exact ⟨rfl, e1.trans e2⟩

set_option maxRecDepth 100000 in
set_option maxHeartbeats 1000000 in
theorem fqright_den (s x y : ByteArray) (w : World) (lx : x.size ≤ 1000000) (ly : y.size ≤ 1000000) (hc : ∀ w, Calls Tryz.prog 78 #[.string s] w fun e w' => e = .returned (.tuple #[.string x, .string y]) ∧ Ext w w') (hx : RightI x.data.toList) (hy : ¬ RightI y.data.toList) :
    Calls Tryz.prog 59 #[.string s] w (Ret w (.bool false)) := by
  have HX := Lib.hid hx
  have HY := Lib.hid hy
  clear hx hy
  go_enter Tryz.func59, Tryz.ntmps59
  go_wp2_with (first
    | (go_at_call 78; refine (hc _).mono ?_; rintro e w1 ⟨rfl, e1⟩)
    | (go_at_call 107; ((with_reducible refine (fright_c x true w1 lx ⟨fun _ => rfl, fun h => absurd HX.out h⟩).mono ?_); rintro e w2 ⟨rfl, e2⟩))
    | (go_at_call 107; refine (fright_c y false w2 ly ⟨fun h => absurd h HY.out, fun _ => rfl⟩).mono ?_; rintro e w3 ⟨rfl, e3⟩))
  go_ret
  exact ⟨rfl, (e1.trans e2).trans e3⟩

set_option maxRecDepth 100000 in
set_option maxHeartbeats 1000000 in
theorem fqright_whole (s x y : ByteArray) (w : World) (lx : x.size ≤ 1000000) (ly : y.size ≤ 1000000) (hc : ∀ w, Calls Tryz.prog 78 #[.string s] w fun e w' => e = .returned (.tuple #[.string x, .string y]) ∧ Ext w w') (hx : RightI x.data.toList) (hy : RightI y.data.toList) (hi : ∀ w, Calls Tryz.prog 108 #[.string s, .int .u8 47] w fun e w' => e = .returned (.int .i64 (-1)) ∧ w = w') :
    Calls Tryz.prog 59 #[.string s] w (Ret w (.bool true)) := by
  have HX := Lib.hid hx
  have HY := Lib.hid hy
  clear hx hy
  go_enter Tryz.func59, Tryz.ntmps59
  go_wp2_with (first
    | (go_at_call 78; refine (hc _).mono ?_; rintro e w1 ⟨rfl, e1⟩)
    | (go_at_call 107; ((with_reducible refine (fright_c x true w1 lx ⟨fun _ => rfl, fun h => absurd HX.out h⟩).mono ?_); rintro e w2 ⟨rfl, e2⟩))
    | (go_at_call 107; refine (fright_c y true w2 ly ⟨fun _ => rfl, fun h => absurd HY.out h⟩).mono ?_; rintro e w3 ⟨rfl, e3⟩)
    | (go_at_call 108; refine (hi _).mono ?_; rintro e w4 ⟨rfl, rfl⟩))
  go_ret
  exact ⟨rfl, (e1.trans e2).trans e3⟩

set_option maxRecDepth 100000 in
set_option maxHeartbeats 1000000 in
theorem fqright_num (s : ByteArray) (a b : Int) (n : Nat) (v : Bool) (w : World) (g : Gd w) (lx : (zs a).size ≤ 1000000) (ly : (zs b).size ≤ 1000000) (hc : ∀ w, Calls Tryz.prog 78 #[.string s] w fun e w' => e = .returned (.tuple #[.string (zs a), .string (zs b)]) ∧ Ext w w')
    (hi : ∀ w, Calls Tryz.prog 108 #[.string s, .int .u8 47] w fun e w' => e = .returned (.int .i64 (n : Int)) ∧ w = w')
    (ha : (Lib.decDigits a.natAbs).length ≤ 200) (hb : (Lib.decDigits b.natAbs).length ≤ 200)
    (hv : (1 < b ∧ a ≠ 0 ∧ Int.gcd a b = 1 → v = true) ∧ (¬ (1 < b ∧ a ≠ 0 ∧ Int.gcd a b = 1) → v = false)) :
    Calls Tryz.prog 59 #[.string s] w (Ret w (.bool v)) := by
  have HA := Lib.hid (IB.of_len ha); have HB := Lib.hid (IB.of_len hb)
  have RA : Hid (RightI (zs a).data.toList) := Lib.hid (by rw [zs_list]; exact right_zl.2 ha)
  have RB : Hid (RightI (zs b).data.toList) := Lib.hid (by rw [zs_list]; exact right_zl.2 hb)
  have one : zs 1 = ⟨#[49]⟩ := zs_one
  have HCC : Hid (∀ w, Gd w → Calls Tryz.prog 109 #[.string (zs b), .string ⟨#[49]⟩] w (Ret w (.int .i64 (icmp b 1)))) := Lib.hid (fun w g => by have := fcompare_c b 1 w g HB.out (m := 1) ⟨by decide⟩ (by decide) (by decide); rw [one] at this; exact this)
  clear one ha hb
  have hn0 : (0 : Int) ≤ n := by omega
  have hn1 : ¬ (n : Int) < 0 := by omega
  obtain ⟨c, hcc⟩ : ∃ c, c = icmp b 1 := ⟨_, rfl⟩
  have HC1 := Lib.hid hcc
  by_cases h1 : 1 < b
  · have hc1 : 0 < c := by rw [hcc, icmp_gt h1]; omega
    by_cases h2 : a = 0
    · have hv2 := hv.2 (fun h => h.2.1 h2)
      have HV := Lib.hid hv2
      have z1 := zs_is0 h2; have z2 := zs_nis0 h2
      clear hv hv2 hcc h1 h2
      go_enter Tryz.func59, Tryz.ntmps59
      go_wp2_with (first
        | (go_at_call 78; refine (hc _).mono ?_; rintro e w1 ⟨rfl, e1⟩)
        | (go_at_call 107; ((with_reducible refine (fright_c (zs a) true w1 lx ⟨fun _ => rfl, fun h => absurd RA.out h⟩).mono ?_); rintro e w2 ⟨rfl, e2⟩))
        | (go_at_call 107; refine (fright_c (zs b) true w2 ly ⟨fun _ => rfl, fun h => absurd RB.out h⟩).mono ?_; rintro e w3 ⟨rfl, e3⟩)
        | (go_at_call 108; refine (hi _).mono ?_; rintro e w4 ⟨rfl, rfl⟩)
        | (go_at_call 109; refine (HCC.out _ (g.ext ((e1.trans e2).trans e3))).mono ?_; rw [← HC1.out]; rintro e w5 ⟨rfl, e5⟩))
      go_ret
      exact ⟨by rw [HV.out]; rfl, ((e1.trans e2).trans e3).trans e5⟩
    · have z1 := zs_not0 h2; have z2 := zs_nnot0 h2
      obtain ⟨G, hG⟩ : ∃ G : Nat, G = Int.gcd a b := ⟨_, rfl⟩
      have HG := Lib.hid hG
      by_cases h3 : (G : Int) = 1
      · have hv2 := hv.1 ⟨h1, h2, by omega⟩
        have HV := Lib.hid hv2
        have z3 := zs_is1 h3; have z4 := zs_nis1 h3
        clear hv hv2 hcc h1 h2 h3 hG
        go_enter Tryz.func59, Tryz.ntmps59
        go_wp2_with (first
          | (go_at_call 78; refine (hc _).mono ?_; rintro e w1 ⟨rfl, e1⟩)
          | (go_at_call 107; ((with_reducible refine (fright_c (zs a) true w1 lx ⟨fun _ => rfl, fun h => absurd RA.out h⟩).mono ?_); rintro e w2 ⟨rfl, e2⟩))
          | (go_at_call 107; refine (fright_c (zs b) true w2 ly ⟨fun _ => rfl, fun h => absurd RB.out h⟩).mono ?_; rintro e w3 ⟨rfl, e3⟩)
          | (go_at_call 108; refine (hi _).mono ?_; rintro e w4 ⟨rfl, rfl⟩)
          | (go_at_call 109; refine (HCC.out _ (g.ext ((e1.trans e2).trans e3))).mono ?_; rw [← HC1.out]; rintro e w5 ⟨rfl, e5⟩)
          | (go_at_call 110; refine (fgcd_c a b _ (g.ext (((e1.trans e2).trans e3).trans e5)) HA.out HB.out (by decide) (by decide)).mono ?_; rw [← HG.out]; rintro e w6 ⟨rfl, e6⟩))
        go_ret
        exact ⟨by rw [HV.out]; rfl, (((e1.trans e2).trans e3).trans e5).trans e6⟩
      · have hv2 := hv.2 (fun h => h3 (by have := h.2.2; omega))
        have HV := Lib.hid hv2
        have z3 := zs_not1 h3; have z4 := zs_nnot1 h3
        clear hv hv2 hcc h1 h2 h3 hG
        go_enter Tryz.func59, Tryz.ntmps59
        go_wp2_with (first
          | (go_at_call 78; refine (hc _).mono ?_; rintro e w1 ⟨rfl, e1⟩)
          | (go_at_call 107; ((with_reducible refine (fright_c (zs a) true w1 lx ⟨fun _ => rfl, fun h => absurd RA.out h⟩).mono ?_); rintro e w2 ⟨rfl, e2⟩))
          | (go_at_call 107; refine (fright_c (zs b) true w2 ly ⟨fun _ => rfl, fun h => absurd RB.out h⟩).mono ?_; rintro e w3 ⟨rfl, e3⟩)
          | (go_at_call 108; refine (hi _).mono ?_; rintro e w4 ⟨rfl, rfl⟩)
          | (go_at_call 109; refine (HCC.out _ (g.ext ((e1.trans e2).trans e3))).mono ?_; rw [← HC1.out]; rintro e w5 ⟨rfl, e5⟩)
          | (go_at_call 110; refine (fgcd_c a b _ (g.ext (((e1.trans e2).trans e3).trans e5)) HA.out HB.out (by decide) (by decide)).mono ?_; rw [← HG.out]; rintro e w6 ⟨rfl, e6⟩))
        go_ret
        exact ⟨by rw [HV.out]; rfl, (((e1.trans e2).trans e3).trans e5).trans e6⟩
  · have hc1 : ¬ 0 < c := by
      rw [hcc]
      by_cases h : b = 1
      · subst h; rw [icmp_eq]; omega
      · rw [icmp_lt (by omega)]; omega
    have hv2 := hv.2 (fun h => h1 h.1)
    have HV := Lib.hid hv2
    clear hv hv2 hcc h1
    go_enter Tryz.func59, Tryz.ntmps59
    go_wp2_with (first
      | (go_at_call 78; refine (hc _).mono ?_; rintro e w1 ⟨rfl, e1⟩)
      | (go_at_call 107; ((with_reducible refine (fright_c (zs a) true w1 lx ⟨fun _ => rfl, fun h => absurd RA.out h⟩).mono ?_); rintro e w2 ⟨rfl, e2⟩))
      | (go_at_call 107; refine (fright_c (zs b) true w2 ly ⟨fun _ => rfl, fun h => absurd RB.out h⟩).mono ?_; rintro e w3 ⟨rfl, e3⟩)
      | (go_at_call 108; refine (hi _).mono ?_; rintro e w4 ⟨rfl, rfl⟩)
      | (go_at_call 109; refine (HCC.out _ (g.ext ((e1.trans e2).trans e3))).mono ?_; rw [← HC1.out]; rintro e w5 ⟨rfl, e5⟩))
    go_ret
    exact ⟨by rw [HV.out]; rfl, ((e1.trans e2).trans e3).trans e5⟩

theorem fqright_c (s : ByteArray) (w : World) (g : Gd w) (v : Bool) (hl : s.size ≤ 1000000) (hv : (RightQ s.data.toList → v = true) ∧ (¬ RightQ s.data.toList → v = false)) :
    Calls Tryz.prog 59 #[.string s] w (Ret w (.bool v)) := by
  have hszl : s.size = s.data.toList.length := by rw [Array.length_toList]; rfl
  rcases slash_cases s.data.toList with hn | ⟨x, y, hs, hx⟩
  · have hc := fun w => fcut_none s w hn
    have r1 : RightI (⟨#[49]⟩ : ByteArray).data.toList := ⟨1, by rw [← zs_one, zs_list], by rw [show (1 : Int).natAbs = 1 from rfl, dec_one]; decide⟩
    by_cases h : RightI s.data.toList
    · rw [hv.1 ((rightQ_none hn).2 h)]
      exact fqright_whole s s ⟨#[49]⟩ w hl (by decide) hc h r1 (fun w => idx_none s w hn)
    · rw [hv.2 (fun e => h ((rightQ_none hn).1 e))]
      exact fqright_bad s s _ w hl (by decide) hc h
  · have hc := fun w => fcut_at s x y w hs hx hl
    have hi := fun w => idx_at s x y w hs hx
    have hq := rightQ_at hs hx
    have hlen : x.length + y.length < s.size := by rw [hszl, hs, List.length_append, List.length_cons]; omega
    have lx : (⟨x.toArray⟩ : ByteArray).size ≤ 1000000 := by rw [size_list]; simp only; omega
    have ly : (⟨y.toArray⟩ : ByteArray).size ≤ 1000000 := by rw [size_list]; simp only; omega
    by_cases h1 : RightI x
    · by_cases h2 : RightI y
      · obtain ⟨a, rfl, ha⟩ := h1
        obtain ⟨b, rfl, hb⟩ := h2
        refine fqright_num s a b _ v w g lx ly hc hi ha hb ⟨fun ⟨k1, k2, k3⟩ => hv.1 (hq.2 ⟨a, b.natAbs, rfl, ?_, ha, hb, by omega, k2, ?_⟩), fun hh => hv.2 (fun e => hh ?_)⟩
        · rw [show ((b.natAbs : Nat) : Int) = b by omega]
        · rw [show ((b.natAbs : Nat) : Int) = b by omega]; exact k3
        · obtain ⟨a', b', e1, e2, _, _, k1, k2, k3⟩ := hq.1 e
          have := zl_inj e1; have := zl_inj e2
          subst_vars
          exact ⟨by omega, k2, k3⟩
      · rw [hv.2 (fun e => by obtain ⟨a, b, e1, e2, _, h4, _⟩ := hq.1 e; exact h2 ⟨b, e2, by simpa using h4⟩)]
        exact fqright_den s ⟨x.toArray⟩ ⟨y.toArray⟩ w lx ly hc (by simpa using h1) (by simpa using h2)
    · rw [hv.2 (fun e => by obtain ⟨a, b, e1, e2, h3, _⟩ := hq.1 e; exact h1 ⟨a, e1, h3⟩)]
      exact fqright_bad s ⟨x.toArray⟩ ⟨y.toArray⟩ w lx ly hc (by simpa using h1)
end Go.Proofs.YtglppcmegocphaaGreatDoor
