/- Part 25 of the proof: N0, N1, N2. -/
import Derived.Test.YtplimbgaoengfaaGreatDoorQA1
import Derived.Test.YtplimbgaoengfaaGreatDoorQA2
import Derived.Test.YtplimbgaoengfaaGreatDoorQA3
import Derived.Test.YtplimbgaoengfaaGreatDoorQA4
import Derived.Test.YtplimbgaoengfaaGreatDoorQA5
import Derived.Test.YtplimbgaoengfaaGreatDoorQA6
import Derived.Test.YtplimbgaoengfaaGreatDoorQA7
import Derived.Test.YtplimbgaoengfaaGreatDoorQA8
import Derived.Test.YtplimbgaoengfaaGreatDoorQA9
import Derived.Test.YtplimbgaoengfaaGreatDoorQA10
import Derived.Test.YtplimbgaoengfaaGreatDoorQA11
import Derived.Test.YtplimbgaoengfaaGreatDoorQA12
import Derived.Test.YtplimbgaoengfaaGreatDoorQA13
import Derived.Test.YtplimbgaoengfaaGreatDoorQA14
import Derived.Test.YtplimbgaoengfaaGreatDoorQA15
import Derived.Test.YtplimbgaoengfaaGreatDoorQA16
import Derived.Test.YtplimbgaoengfaaGreatDoorQA17
import Derived.Test.YtplimbgaoengfaaGreatDoorQA18
import Derived.Test.YtplimbgaoengfaaGreatDoorQA19
import Derived.Test.YtplimbgaoengfaaGreatDoorQA20
import Derived.Test.YtplimbgaoengfaaGreatDoorQA21
import Derived.Test.YtplimbgaoengfaaGreatDoorQA22
import Derived.Test.YtplimbgaoengfaaGreatDoorQA23
import Derived.Test.YtplimbgaoengfaaGreatDoorQA24
namespace Go.Proofs.YtplimbgaoengfaaGreatDoor
theorem n0 : True := by
  /- vCheck_ok vCheckPoint_ok vcheck_c vcheckp_c vPrim_ok vPrim_zero prim_plain fright_yes fright_no rcheck_yes rcheck_not rcheck_c radd_c rsub_c rmul_c rdiv_c rneg_c rsign_c rcompare_c sum3_c numbers_c fqright_c terr rq_true rq_false T3 T2 TS TS2 tv tp vv pv VB PB rq_qs qs_is0 qs_not0 qs_eqL qs_neL z3 region_lin Rn.mem RnL.cons qs_zero qs_one ql_inj rwhole_c whole_c of_c parts_c new_c wp_name keepsH1 elim0 elim1 elim2 elim3 ext0a ext0b ext1a ext1b ext2a ext2b ext3a ext3b VB.mono PB.mono VB.ts PB.ts VB.all PB.all gall_true gall_false cells2 cells3 cells4 sizes2 sizes3 right_q Blk.new' Blk.other QB.inum QB.iden QD QD.div QD.qb small_c isign_c ineg_c tri num_sign_neg num_sign_pos qcmp_sign qcmp_le -/
  trivial
end Go.Proofs.YtplimbgaoengfaaGreatDoor

namespace Go.Proofs.YtplimbgaoengfaaGreatDoor
open Go Go.RowKit
def sz24 (s : ByteArray) : Bool := decide (s.size ≤ 24)
theorem sz24_true {s : ByteArray} : sz24 s = true ↔ s.size ≤ 24 := by unfold sz24; exact decide_eq_true_iff
theorem lright_yes (s : ByteArray) (w : World) (g : Gd w) (hl : s.size ≤ 1000000) (h : rq s = true) : Calls Tryz.prog 55 #[.string s] w (Ret w (.bool true)) := by
  have HG := Lib.hid g
  clear g
  go_enter Tryz.func55, Tryz.ntmps55
  go_wp2_with (go_at_call 87; refine (fright_yes s _ HG.out hl h).mono ?_; rintro e w2 ⟨rfl, e2⟩)
  go_ret
  exact ⟨rfl, e2⟩
theorem lright_no (s : ByteArray) (w : World) (g : Gd w) (hl : s.size ≤ 1000000) (h : rq s = false) : Calls Tryz.prog 55 #[.string s] w (Ret w (.bool false)) := by
  have HG := Lib.hid g
  clear g
  go_enter Tryz.func55, Tryz.ntmps55
  go_wp2_with (go_at_call 87; refine (fright_no s _ HG.out hl h).mono ?_; rintro e w2 ⟨rfl, e2⟩)
  go_ret
  exact ⟨rfl, e2⟩
set_option maxRecDepth 100000 in
set_option maxHeartbeats 1000000 in
theorem short15_c (ss : List ByteArray) (b n cap : Nat) (w : World) (hn : ss.length = n) (hn9 : n ≤ 100) (hc : ∀ (i : Nat) (hi : i < ss.length), ∀ W, Ext w W → W.cell? ⟨b, i, none⟩ = some (.string ss[i])) :
    Calls Tryz.prog 12 #[.slice (some ⟨b, 0, none⟩) n cap] w (Ret w (.bool (ss.all sz24))) := by
  have HC := Lib.hid hc; have HN := Lib.hid hn
  clear hc hn
  go_enter Tryz.func12, Tryz.ntmps12
  go_wp2
  go_loopw [3] (fun x W => ∃ k : Nat, x = .int .i64 k ∧ k ≤ n ∧ Ext w W ∧ Hid (∀ (i : Nat) (_ : i < k) (hi : i < ss.length), sz24 ss[i] = true)) (fun x _ => n - (intOf x).toNat)
  case atStart => exact ⟨0, rfl, by omega, Ext.refl _, Lib.hid (fun i h => by omega)⟩
  case round =>
    obtain ⟨k, rfl, hk, hx, HR⟩ := hrel
    by_cases hkn : k < n
    · have hks : k < ss.length := by have := HN.out; omega
      obtain ⟨s, hs⟩ : ∃ s, s = ss[k] := ⟨_, rfl⟩
      have hcell : ∀ W, Ext w W → W.cell? ⟨b, k, none⟩ = some (.string s) := fun W e => by rw [hs]; exact HC.out k hks W e
      have c1 := hcell _ hx
      have hix := run_index 75 22 rfl Tryz.sizeRat (ad := some ⟨b, 0, none⟩) (n := n) (cap := cap) (fun _ => rfl) k hkn
      have HS := Lib.hid hs
      clear hs hcell
      by_cases hq : s.size ≤ 24
      · have hd : decide ((24 : Int) < (s.size : Int)) = false := decide_eq_false (by omega)
        have HQ := Lib.hid hq
        clear hq
        go_wp2
        go_roundw
        case rel => exact ⟨k + 1, by go_num, by omega, hx, Lib.hid (fun i h hi => by
          by_cases e : i = k
          · subst e; rw [← HS.out]; exact sz24_true.2 HQ.out
          · exact HR.out i (by omega) hi)⟩
        case measure => simp [intOf]; omega
      · have hd : decide ((24 : Int) < (s.size : Int)) = true := decide_eq_true (by omega)
        have HQ := Lib.hid hq
        clear hq
        go_wp2
        go_ret
        exact ⟨by rw [gall_false hks (by rw [← HS.out]; exact decide_eq_false HQ.out)]; rfl, hx⟩
    · obtain rfl : k = n := by omega
      go_wp2
      go_ret
      exact ⟨by rw [gall_true (fun i hi => HR.out i (by have := HN.out; omega) hi)]; rfl, hx⟩
set_option maxRecDepth 100000 in
set_option maxHeartbeats 1000000 in
theorem right15_c (ss : List ByteArray) (b n cap : Nat) (w : World) (g : Gd w) (hn : ss.length = n) (hn9 : n ≤ 100) (hl : ∀ (i : Nat) (hi : i < ss.length), (ss[i]).size ≤ 1000000) (hc : ∀ (i : Nat) (hi : i < ss.length), ∀ W, Ext w W → W.cell? ⟨b, i, none⟩ = some (.string ss[i])) :
    Calls Tryz.prog 19 #[.slice (some ⟨b, 0, none⟩) n cap] w (Ret w (.bool (ss.all rq))) := by
  have HG := Lib.hid g; have HL := Lib.hid hl; have HC := Lib.hid hc; have HN := Lib.hid hn
  clear g hl hc hn
  go_enter Tryz.func19, Tryz.ntmps19
  go_wp2
  go_loopw [3] (fun x W => ∃ k : Nat, x = .int .i64 k ∧ k ≤ n ∧ Ext w W ∧ Hid (∀ (i : Nat) (_ : i < k) (hi : i < ss.length), rq ss[i] = true)) (fun x _ => n - (intOf x).toNat)
  case atStart => exact ⟨0, rfl, by omega, Ext.refl _, Lib.hid (fun i h => by omega)⟩
  case round =>
    obtain ⟨k, rfl, hk, hx, HR⟩ := hrel
    by_cases hkn : k < n
    · have hks : k < ss.length := by have := HN.out; omega
      obtain ⟨s, hs⟩ : ∃ s, s = ss[k] := ⟨_, rfl⟩
      have hsl : s.size ≤ 1000000 := by rw [hs]; exact HL.out k hks
      have hcell : ∀ W, Ext w W → W.cell? ⟨b, k, none⟩ = some (.string s) := fun W e => by rw [hs]; exact HC.out k hks W e
      have c1 := hcell _ hx
      have hix := run_index 75 22 rfl Tryz.sizeRat (ad := some ⟨b, 0, none⟩) (n := n) (cap := cap) (fun _ => rfl) k hkn
      have HS := Lib.hid hs
      clear hs hcell
      cases hq : rq s with
      | true =>
        have HQ := Lib.hid hq
        clear hq
        go_wp2_with (go_at_call 55; refine (lright_yes s _ (HG.out.ext hx) hsl HQ.out).mono ?_; rintro e w2 ⟨rfl, e2⟩)
        go_roundw
        case rel => exact ⟨k + 1, by go_num, by omega, hx.trans e2, Lib.hid (fun i h hi => by
          by_cases e : i = k
          · subst e; rw [← HS.out]; exact HQ.out
          · exact HR.out i (by omega) hi)⟩
        case measure => simp [intOf]; omega
      | false =>
        have HQ := Lib.hid hq
        clear hq
        go_wp2_with (go_at_call 55; refine (lright_no s _ (HG.out.ext hx) hsl HQ.out).mono ?_; rintro e w2 ⟨rfl, e2⟩)
        go_ret
        exact ⟨by rw [all_false hks (by rw [← HS.out]; exact HQ.out)]; rfl, hx.trans e2⟩
    · obtain rfl : k = n := by omega
      go_wp2
      go_ret
      exact ⟨by rw [all_true (fun i hi => HR.out i (by have := HN.out; omega) hi)]; rfl, hx⟩
theorem blk_cells {w : World} {b : Nat} {t : TypeId} (ss : List ByteArray) (h : Blk w b (ss.map Value.string).toArray t) : ∀ (i : Nat) (hi : i < ss.length), ∀ W, Ext w W → W.cell? ⟨b, i, none⟩ = some (.string ss[i]) :=
  fun i hi W e => (h.ext e).cell i (by simp [hi])
theorem short15_b (ss : List ByteArray) (n kb : Nat) {t : TypeId} (v : Bool) (w : World) (hn : ss.length = n) (hn9 : n ≤ 100) (hv : ss.all sz24 = v) (hB : Blk w kb (ss.map Value.string).toArray t) :
    Calls Tryz.prog 12 #[.slice (some ⟨kb, 0, none⟩) n n] w (Ret w (.bool v)) := hv ▸ short15_c ss kb n n w hn hn9 (blk_cells ss hB)
theorem right15_b (ss : List ByteArray) (n kb : Nat) {t : TypeId} (v : Bool) (w : World) (g : Gd w) (hn : ss.length = n) (hn9 : n ≤ 100) (hl : ∀ (i : Nat) (hi : i < ss.length), (ss[i]).size ≤ 1000000) (hv : ss.all rq = v) (hB : Blk w kb (ss.map Value.string).toArray t) :
    Calls Tryz.prog 19 #[.slice (some ⟨kb, 0, none⟩) n n] w (Ret w (.bool v)) := hv ▸ right15_c ss kb n n w g hn hn9 hl (blk_cells ss hB)
theorem whole0_c (w : World) (g : Gd w) : Calls Tryz.prog 68 #[.int .i64 0] w (Ret w (.string ⟨#[48]⟩)) := by
  have h := whole_c 0 (by decide) (by decide) w g
  exact Eq.mp (by kernel_rfl) h

set_option maxRecDepth 100000 in
set_option maxHeartbeats 2000000 in
theorem vof0 (w : World) (g : Gd w) : Calls Tryz.prog 41 #[.int .i64 0, .int .i64 0, .int .i64 0] w (Ret w (.agg #[.string ⟨#[48]⟩, .string ⟨#[48]⟩, .string ⟨#[48]⟩])) := by
  have HG := Lib.hid g
  clear g
  go_enter Tryz.func41, Tryz.ntmps41
  go_wp2_with fail
  refine (whole0_c _ (HG.out.ext ((Ext.refl w).alloc _))).mono ?_; rintro e w1 ⟨rfl, e1⟩
  have HX1 : Hid (Ext w w1) := Lib.hid (((Ext.refl w).alloc _).trans e1)
  have HB0_1 : Hid (Blk w1 (w.heap.size) #[.string ⟨#[]⟩, .string ⟨#[]⟩, .string ⟨#[]⟩] 37) := Lib.hid (Blk.ext (Blk.new' (w := _) (cs := #[.string ⟨#[]⟩, .string ⟨#[]⟩, .string ⟨#[]⟩]) (t := 37) (by first | rfl | (simp only [World.size_alloc]; done) | (simp only [World.size_alloc]; omega) | simp)) e1)
  have HGEB0 : Hid (w.heap.size ≤ w.heap.size) := Lib.hid (by first | omega | (simp only []; omega) | (simp; omega))
  clear e1
  go_wp2_with fail
  refine (whole0_c _ (HG.out.ext HX1.out)).mono ?_; rintro e w2 ⟨rfl, e2⟩
  have HX2 : Hid (Ext w w2) := Lib.hid (HX1.out.trans e2)
  have HB0_2 := Lib.hid (Blk.ext HB0_1.out e2)
  clear e2
  go_wp2_with fail
  refine (whole0_c _ (HG.out.ext HX2.out)).mono ?_; rintro e w3 ⟨rfl, e3⟩
  have HX3 : Hid (Ext w w3) := Lib.hid (HX2.out.trans e3)
  have HB0_3 := Lib.hid (Blk.ext HB0_2.out e3)
  clear e3
  have c0_0 := HB0_3.out.cell 0 rfl
  have f0_0 := HB0_3.out.free 0
  have c0_1 := HB0_3.out.cell 1 rfl
  have f0_1 := HB0_3.out.free 1
  have c0_2 := HB0_3.out.cell 2 rfl
  have f0_2 := HB0_3.out.free 2
  go_wp2_with fail
  refine wp_name (fun W => Ext w W ∧ Blk W (w.heap.size) #[.string ⟨#[48]⟩, .string ⟨#[48]⟩, .string ⟨#[48]⟩] 37) ⟨(((HX3.out.setCell (by have := HGEB0.out; first | omega | (simp only []; omega) | (simp; omega)) _).setCell (by have := HGEB0.out; first | omega | (simp only []; omega) | (simp; omega)) _).setCell (by have := HGEB0.out; first | omega | (simp only []; omega) | (simp; omega)) _), (((HB0_3.out.set 0 (.string ⟨#[48]⟩)).set 1 (.string ⟨#[48]⟩)).set 2 (.string ⟨#[48]⟩))⟩ ?_
  rintro w4 ⟨e4, bB0_4⟩
  have HX4 := Lib.hid e4; have HB0_4 := Lib.hid bB0_4
  clear e4 bB0_4 c0_0 f0_0 c0_1 f0_1 c0_2 f0_2
  have gB0_0 := HB0_4.out.cell 0 rfl
  have gB0_1 := HB0_4.out.cell 1 rfl
  have gB0_2 := HB0_4.out.cell 2 rfl
  refine bodyPost_ret (v := .agg #[.string ⟨#[48]⟩, .string ⟨#[48]⟩, .string ⟨#[48]⟩]) (by simp [results, Tryz.results41, go_sem, gB0_0, gB0_1, gB0_2]) rfl ⟨rfl, HX4.out⟩

set_option maxRecDepth 100000 in
set_option maxHeartbeats 2000000 in
theorem vat0 (w : World) (g : Gd w) : Calls Tryz.prog 42 #[.int .i64 0, .int .i64 0] w (Ret w (.agg #[.string ⟨#[48]⟩, .string ⟨#[48]⟩])) := by
  have HG := Lib.hid g
  clear g
  go_enter Tryz.func42, Tryz.ntmps42
  go_wp2_with fail
  refine (whole0_c _ (HG.out.ext ((Ext.refl w).alloc _))).mono ?_; rintro e w1 ⟨rfl, e1⟩
  have HX1 : Hid (Ext w w1) := Lib.hid (((Ext.refl w).alloc _).trans e1)
  have HB0_1 : Hid (Blk w1 (w.heap.size) #[.string ⟨#[]⟩, .string ⟨#[]⟩] 24) := Lib.hid (Blk.ext (Blk.new' (w := _) (cs := #[.string ⟨#[]⟩, .string ⟨#[]⟩]) (t := 24) (by first | rfl | (simp only [World.size_alloc]; done) | (simp only [World.size_alloc]; omega) | simp)) e1)
  have HGEB0 : Hid (w.heap.size ≤ w.heap.size) := Lib.hid (by first | omega | (simp only []; omega) | (simp; omega))
  clear e1
  go_wp2_with fail
  refine (whole0_c _ (HG.out.ext HX1.out)).mono ?_; rintro e w2 ⟨rfl, e2⟩
  have HX2 : Hid (Ext w w2) := Lib.hid (HX1.out.trans e2)
  have HB0_2 := Lib.hid (Blk.ext HB0_1.out e2)
  clear e2
  have c0_0 := HB0_2.out.cell 0 rfl
  have f0_0 := HB0_2.out.free 0
  have c0_1 := HB0_2.out.cell 1 rfl
  have f0_1 := HB0_2.out.free 1
  go_wp2_with fail
  refine wp_name (fun W => Ext w W ∧ Blk W (w.heap.size) #[.string ⟨#[48]⟩, .string ⟨#[48]⟩] 24) ⟨((HX2.out.setCell (by have := HGEB0.out; first | omega | (simp only []; omega) | (simp; omega)) _).setCell (by have := HGEB0.out; first | omega | (simp only []; omega) | (simp; omega)) _), ((HB0_2.out.set 0 (.string ⟨#[48]⟩)).set 1 (.string ⟨#[48]⟩))⟩ ?_
  rintro w3 ⟨e3, bB0_3⟩
  have HX3 := Lib.hid e3; have HB0_3 := Lib.hid bB0_3
  clear e3 bB0_3 c0_0 f0_0 c0_1 f0_1
  have gB0_0 := HB0_3.out.cell 0 rfl
  have gB0_1 := HB0_3.out.cell 1 rfl
  refine bodyPost_ret (v := .agg #[.string ⟨#[48]⟩, .string ⟨#[48]⟩]) (by simp [results, Tryz.results42, go_sem, gB0_0, gB0_1]) rfl ⟨rfl, HX3.out⟩

set_option maxRecDepth 100000 in
set_option maxHeartbeats 2000000 in
theorem acheck_0 (n : V3) (w : World) (g : Gd w) (hn : VB 200 n) (h0 : n.x ≠ 0) : Calls Tryz.prog 52 #[.agg #[.string (qs n.x), .string (qs n.y), .string (qs n.z)]] w (Ret w (.int .i64 0)) := by
  have HN := Lib.hid hn
  have HG := Lib.hid g
  clear hn g
  have h0_t := qs_not0 h0
  clear h0
  go_enter Tryz.func52, Tryz.ntmps52
  go_wp2_with fail
  refine (vCheck_ok n _ (HG.out.ext ((Ext.refl w).alloc _)) HN.out).mono ?_; rintro e w1 ⟨rfl, e1⟩
  have HX1 : Hid (Ext w w1) := Lib.hid (((Ext.refl w).alloc _).trans e1)
  have HB0_1 : Hid (Blk w1 (w.heap.size) #[.string (qs n.x), .string (qs n.y), .string (qs n.z)] 37) := Lib.hid (Blk.ext (Blk.new' (w := _) (cs := #[.string (qs n.x), .string (qs n.y), .string (qs n.z)]) (t := 37) (by first | rfl | (simp only [World.size_alloc]; done) | (simp only [World.size_alloc]; omega) | simp)) e1)
  have HGEB0 : Hid (w.heap.size ≤ w.heap.size) := Lib.hid (by first | omega | (simp only []; omega) | (simp; omega))
  clear e1
  go_wp2_with fail
  refine wp_name (fun W => Ext w W ∧ Blk W (w.heap.size) #[.string (qs n.x), .string (qs n.y), .string (qs n.z)] 37) ⟨HX1.out, HB0_1.out⟩ ?_
  rintro w2 ⟨e2, bB0_2⟩
  have HX2 := Lib.hid e2; have HB0_2 := Lib.hid bB0_2
  clear e2 bB0_2
  refine region_lin [.val (.agg #[.string (qs n.x), .string (qs n.y), .string (qs n.z)]), .val (.agg #[.string ⟨#[48]⟩, .string ⟨#[48]⟩, .string ⟨#[48]⟩]), .val (.bool false), .val (.bool false)] (by kernel_rfl) (by kernel_rfl) (by kernel_rfl) ?_ (fun g2 w3 hx_ hm_ hne_ => ?_)
  · skip
    refine RnL.cons (fun g2 A_ W_ hs_ => ?_) ?_
    · have q1_ := (hs_.old 1 (by kernel_rfl) : A_.tmps[1]?.getD undef = .pointer (some ⟨w.heap.size, 0, none⟩))
      have cB0_0 := ((HB0_2.out.drew.ext hs_.1)).cell 0 rfl
      have cB0_1 := ((HB0_2.out.drew.ext hs_.1)).cell 1 rfl
      have cB0_2 := ((HB0_2.out.drew.ext hs_.1)).cell 2 rfl
      refine Rn.val fun K_ hK_ => ?_
      go_simp
      exact hK_.out _ (Ext.refl _)
    refine RnL.cons (fun g2 A_ W_ hs_ => ?_) ?_
    · refine Rn.val fun K_ hK_ => ?_
      go_simp
      refine (vof0 _ (HG.out.ext (HX2.out.drew.trans hs_.1))).mono ?_; rintro e W9_ ⟨rfl, e9_⟩; exact hK_.out _ e9_
    refine RnL.cons (fun g2 A_ W_ hs_ => ?_) ?_
    · have q8_ := hs_.val 0 rfl rfl rfl
      have q9_ := hs_.val 1 rfl rfl rfl
      refine Rn.val fun K_ hK_ => ?_
      go_simp
      exact hK_.out _ (Ext.refl _)
    refine RnL.cons (fun g2 A_ W_ hs_ => ?_) ?_
    · have q10_ := hs_.val 2 rfl rfl rfl
      refine Rn.val fun K_ hK_ => ?_
      go_simp
      exact hK_.out _ (Ext.refl _)
    exact RnL.nil
  simp only [fs, Kd.value, puts, Act.put, List.setIfInBounds_toArray, List.set_cons_zero, List.set_cons_succ]
  have HX3 : Hid (Ext w w3) := Lib.hid (HX2.out.drew.trans hx_)
  clear hx_ hm_ hne_
  go_wp2
  go_ret
  exact ⟨rfl, HX3.out⟩

set_option maxRecDepth 100000 in
set_option maxHeartbeats 2000000 in
theorem acheck_1 (n : V3) (w : World) (g : Gd w) (hn : VB 200 n) (h0 : n.x = 0) (h1 : n.y ≠ 0) : Calls Tryz.prog 52 #[.agg #[.string (qs n.x), .string (qs n.y), .string (qs n.z)]] w (Ret w (.int .i64 0)) := by
  have HN := Lib.hid hn
  have HG := Lib.hid g
  clear hn g
  have h0_t := qs_is0 h0
  have h1_t := qs_not0 h1
  clear h0 h1
  go_enter Tryz.func52, Tryz.ntmps52
  go_wp2_with fail
  refine (vCheck_ok n _ (HG.out.ext ((Ext.refl w).alloc _)) HN.out).mono ?_; rintro e w1 ⟨rfl, e1⟩
  have HX1 : Hid (Ext w w1) := Lib.hid (((Ext.refl w).alloc _).trans e1)
  have HB0_1 : Hid (Blk w1 (w.heap.size) #[.string (qs n.x), .string (qs n.y), .string (qs n.z)] 37) := Lib.hid (Blk.ext (Blk.new' (w := _) (cs := #[.string (qs n.x), .string (qs n.y), .string (qs n.z)]) (t := 37) (by first | rfl | (simp only [World.size_alloc]; done) | (simp only [World.size_alloc]; omega) | simp)) e1)
  have HGEB0 : Hid (w.heap.size ≤ w.heap.size) := Lib.hid (by first | omega | (simp only []; omega) | (simp; omega))
  clear e1
  go_wp2_with fail
  refine wp_name (fun W => Ext w W ∧ Blk W (w.heap.size) #[.string (qs n.x), .string (qs n.y), .string (qs n.z)] 37) ⟨HX1.out, HB0_1.out⟩ ?_
  rintro w2 ⟨e2, bB0_2⟩
  have HX2 := Lib.hid e2; have HB0_2 := Lib.hid bB0_2
  clear e2 bB0_2
  refine region_lin [.val (.agg #[.string (qs n.x), .string (qs n.y), .string (qs n.z)]), .val (.agg #[.string ⟨#[48]⟩, .string ⟨#[48]⟩, .string ⟨#[48]⟩]), .val (.bool false), .val (.bool false)] (by kernel_rfl) (by kernel_rfl) (by kernel_rfl) ?_ (fun g2 w3 hx_ hm_ hne_ => ?_)
  · skip
    refine RnL.cons (fun g2 A_ W_ hs_ => ?_) ?_
    · have q1_ := (hs_.old 1 (by kernel_rfl) : A_.tmps[1]?.getD undef = .pointer (some ⟨w.heap.size, 0, none⟩))
      have cB0_0 := ((HB0_2.out.drew.ext hs_.1)).cell 0 rfl
      have cB0_1 := ((HB0_2.out.drew.ext hs_.1)).cell 1 rfl
      have cB0_2 := ((HB0_2.out.drew.ext hs_.1)).cell 2 rfl
      refine Rn.val fun K_ hK_ => ?_
      go_simp
      exact hK_.out _ (Ext.refl _)
    refine RnL.cons (fun g2 A_ W_ hs_ => ?_) ?_
    · refine Rn.val fun K_ hK_ => ?_
      go_simp
      refine (vof0 _ (HG.out.ext (HX2.out.drew.trans hs_.1))).mono ?_; rintro e W9_ ⟨rfl, e9_⟩; exact hK_.out _ e9_
    refine RnL.cons (fun g2 A_ W_ hs_ => ?_) ?_
    · have q8_ := hs_.val 0 rfl rfl rfl
      have q9_ := hs_.val 1 rfl rfl rfl
      refine Rn.val fun K_ hK_ => ?_
      go_simp
      exact hK_.out _ (Ext.refl _)
    refine RnL.cons (fun g2 A_ W_ hs_ => ?_) ?_
    · have q10_ := hs_.val 2 rfl rfl rfl
      refine Rn.val fun K_ hK_ => ?_
      go_simp
      exact hK_.out _ (Ext.refl _)
    exact RnL.nil
  simp only [fs, Kd.value, puts, Act.put, List.setIfInBounds_toArray, List.set_cons_zero, List.set_cons_succ]
  have HX3 : Hid (Ext w w3) := Lib.hid (HX2.out.drew.trans hx_)
  clear hx_ hm_ hne_
  go_wp2
  go_ret
  exact ⟨rfl, HX3.out⟩

set_option maxRecDepth 100000 in
set_option maxHeartbeats 2000000 in
theorem acheck_2 (n : V3) (w : World) (g : Gd w) (hn : VB 200 n) (h0 : n.x = 0) (h1 : n.y = 0) (h2 : n.z ≠ 0) : Calls Tryz.prog 52 #[.agg #[.string (qs n.x), .string (qs n.y), .string (qs n.z)]] w (Ret w (.int .i64 0)) := by
  have HN := Lib.hid hn
  have HG := Lib.hid g
  clear hn g
  have h0_t := qs_is0 h0
  have h1_t := qs_is0 h1
  have h2_t := qs_not0 h2
  clear h0 h1 h2
  go_enter Tryz.func52, Tryz.ntmps52
  go_wp2_with fail
  refine (vCheck_ok n _ (HG.out.ext ((Ext.refl w).alloc _)) HN.out).mono ?_; rintro e w1 ⟨rfl, e1⟩
  have HX1 : Hid (Ext w w1) := Lib.hid (((Ext.refl w).alloc _).trans e1)
  have HB0_1 : Hid (Blk w1 (w.heap.size) #[.string (qs n.x), .string (qs n.y), .string (qs n.z)] 37) := Lib.hid (Blk.ext (Blk.new' (w := _) (cs := #[.string (qs n.x), .string (qs n.y), .string (qs n.z)]) (t := 37) (by first | rfl | (simp only [World.size_alloc]; done) | (simp only [World.size_alloc]; omega) | simp)) e1)
  have HGEB0 : Hid (w.heap.size ≤ w.heap.size) := Lib.hid (by first | omega | (simp only []; omega) | (simp; omega))
  clear e1
  go_wp2_with fail
  refine wp_name (fun W => Ext w W ∧ Blk W (w.heap.size) #[.string (qs n.x), .string (qs n.y), .string (qs n.z)] 37) ⟨HX1.out, HB0_1.out⟩ ?_
  rintro w2 ⟨e2, bB0_2⟩
  have HX2 := Lib.hid e2; have HB0_2 := Lib.hid bB0_2
  clear e2 bB0_2
  refine region_lin [.val (.agg #[.string (qs n.x), .string (qs n.y), .string (qs n.z)]), .val (.agg #[.string ⟨#[48]⟩, .string ⟨#[48]⟩, .string ⟨#[48]⟩]), .val (.bool false), .val (.bool false)] (by kernel_rfl) (by kernel_rfl) (by kernel_rfl) ?_ (fun g2 w3 hx_ hm_ hne_ => ?_)
  · skip
    refine RnL.cons (fun g2 A_ W_ hs_ => ?_) ?_
    · have q1_ := (hs_.old 1 (by kernel_rfl) : A_.tmps[1]?.getD undef = .pointer (some ⟨w.heap.size, 0, none⟩))
      have cB0_0 := ((HB0_2.out.drew.ext hs_.1)).cell 0 rfl
      have cB0_1 := ((HB0_2.out.drew.ext hs_.1)).cell 1 rfl
      have cB0_2 := ((HB0_2.out.drew.ext hs_.1)).cell 2 rfl
      refine Rn.val fun K_ hK_ => ?_
      go_simp
      exact hK_.out _ (Ext.refl _)
    refine RnL.cons (fun g2 A_ W_ hs_ => ?_) ?_
    · refine Rn.val fun K_ hK_ => ?_
      go_simp
      refine (vof0 _ (HG.out.ext (HX2.out.drew.trans hs_.1))).mono ?_; rintro e W9_ ⟨rfl, e9_⟩; exact hK_.out _ e9_
    refine RnL.cons (fun g2 A_ W_ hs_ => ?_) ?_
    · have q8_ := hs_.val 0 rfl rfl rfl
      have q9_ := hs_.val 1 rfl rfl rfl
      refine Rn.val fun K_ hK_ => ?_
      go_simp
      exact hK_.out _ (Ext.refl _)
    refine RnL.cons (fun g2 A_ W_ hs_ => ?_) ?_
    · have q10_ := hs_.val 2 rfl rfl rfl
      refine Rn.val fun K_ hK_ => ?_
      go_simp
      exact hK_.out _ (Ext.refl _)
    exact RnL.nil
  simp only [fs, Kd.value, puts, Act.put, List.setIfInBounds_toArray, List.set_cons_zero, List.set_cons_succ]
  have HX3 : Hid (Ext w w3) := Lib.hid (HX2.out.drew.trans hx_)
  clear hx_ hm_ hne_
  go_wp2
  go_ret
  exact ⟨rfl, HX3.out⟩

set_option maxRecDepth 100000 in
set_option maxHeartbeats 2000000 in
theorem acheck_z (n : V3) (w : World) (g : Gd w) (hn : VB 200 n) (h0 : n.x = 0) (h1 : n.y = 0) (h2 : n.z = 0) : Calls Tryz.prog 52 #[.agg #[.string (qs n.x), .string (qs n.y), .string (qs n.z)]] w (Ret w (.int .i64 17)) := by
  have HN := Lib.hid hn
  have HG := Lib.hid g
  clear hn g
  have h0_t := qs_is0 h0
  have h1_t := qs_is0 h1
  have h2_t := qs_is0 h2
  clear h0 h1 h2
  go_enter Tryz.func52, Tryz.ntmps52
  go_wp2_with fail
  refine (vCheck_ok n _ (HG.out.ext ((Ext.refl w).alloc _)) HN.out).mono ?_; rintro e w1 ⟨rfl, e1⟩
  have HX1 : Hid (Ext w w1) := Lib.hid (((Ext.refl w).alloc _).trans e1)
  have HB0_1 : Hid (Blk w1 (w.heap.size) #[.string (qs n.x), .string (qs n.y), .string (qs n.z)] 37) := Lib.hid (Blk.ext (Blk.new' (w := _) (cs := #[.string (qs n.x), .string (qs n.y), .string (qs n.z)]) (t := 37) (by first | rfl | (simp only [World.size_alloc]; done) | (simp only [World.size_alloc]; omega) | simp)) e1)
  have HGEB0 : Hid (w.heap.size ≤ w.heap.size) := Lib.hid (by first | omega | (simp only []; omega) | (simp; omega))
  clear e1
  go_wp2_with fail
  refine wp_name (fun W => Ext w W ∧ Blk W (w.heap.size) #[.string (qs n.x), .string (qs n.y), .string (qs n.z)] 37) ⟨HX1.out, HB0_1.out⟩ ?_
  rintro w2 ⟨e2, bB0_2⟩
  have HX2 := Lib.hid e2; have HB0_2 := Lib.hid bB0_2
  clear e2 bB0_2
  refine region_lin [.val (.agg #[.string (qs n.x), .string (qs n.y), .string (qs n.z)]), .val (.agg #[.string ⟨#[48]⟩, .string ⟨#[48]⟩, .string ⟨#[48]⟩]), .val (.bool true), .val (.bool true)] (by kernel_rfl) (by kernel_rfl) (by kernel_rfl) ?_ (fun g2 w3 hx_ hm_ hne_ => ?_)
  · skip
    refine RnL.cons (fun g2 A_ W_ hs_ => ?_) ?_
    · have q1_ := (hs_.old 1 (by kernel_rfl) : A_.tmps[1]?.getD undef = .pointer (some ⟨w.heap.size, 0, none⟩))
      have cB0_0 := ((HB0_2.out.drew.ext hs_.1)).cell 0 rfl
      have cB0_1 := ((HB0_2.out.drew.ext hs_.1)).cell 1 rfl
      have cB0_2 := ((HB0_2.out.drew.ext hs_.1)).cell 2 rfl
      refine Rn.val fun K_ hK_ => ?_
      go_simp
      exact hK_.out _ (Ext.refl _)
    refine RnL.cons (fun g2 A_ W_ hs_ => ?_) ?_
    · refine Rn.val fun K_ hK_ => ?_
      go_simp
      refine (vof0 _ (HG.out.ext (HX2.out.drew.trans hs_.1))).mono ?_; rintro e W9_ ⟨rfl, e9_⟩; exact hK_.out _ e9_
    refine RnL.cons (fun g2 A_ W_ hs_ => ?_) ?_
    · have q8_ := hs_.val 0 rfl rfl rfl
      have q9_ := hs_.val 1 rfl rfl rfl
      refine Rn.val fun K_ hK_ => ?_
      go_simp
      exact hK_.out _ (Ext.refl _)
    refine RnL.cons (fun g2 A_ W_ hs_ => ?_) ?_
    · have q10_ := hs_.val 2 rfl rfl rfl
      refine Rn.val fun K_ hK_ => ?_
      go_simp
      exact hK_.out _ (Ext.refl _)
    exact RnL.nil
  simp only [fs, Kd.value, puts, Act.put, List.setIfInBounds_toArray, List.set_cons_zero, List.set_cons_succ]
  have HX3 : Hid (Ext w w3) := Lib.hid (HX2.out.drew.trans hx_)
  clear hx_ hm_ hne_
  go_wp2
  go_ret
  exact ⟨rfl, HX3.out⟩

set_option maxRecDepth 100000 in
set_option maxHeartbeats 2000000 in
theorem ahead_0 (n : P2) (w : World) (g : Gd w) (hn : PB 200 n) (h0 : n.x ≠ 0) : Calls Tryz.prog 44 #[.agg #[.string (qs n.x), .string (qs n.y)]] w (Ret w (.int .i64 0)) := by
  have HN := Lib.hid hn
  have HG := Lib.hid g
  clear hn g
  have h0_t := qs_not0 h0
  clear h0
  go_enter Tryz.func44, Tryz.ntmps44
  go_wp2_with fail
  refine (vCheckPoint_ok n _ (HG.out.ext ((Ext.refl w).alloc _)) HN.out).mono ?_; rintro e w1 ⟨rfl, e1⟩
  have HX1 : Hid (Ext w w1) := Lib.hid (((Ext.refl w).alloc _).trans e1)
  have HB0_1 : Hid (Blk w1 (w.heap.size) #[.string (qs n.x), .string (qs n.y)] 24) := Lib.hid (Blk.ext (Blk.new' (w := _) (cs := #[.string (qs n.x), .string (qs n.y)]) (t := 24) (by first | rfl | (simp only [World.size_alloc]; done) | (simp only [World.size_alloc]; omega) | simp)) e1)
  have HGEB0 : Hid (w.heap.size ≤ w.heap.size) := Lib.hid (by first | omega | (simp only []; omega) | (simp; omega))
  clear e1
  go_wp2_with fail
  refine wp_name (fun W => Ext w W ∧ Blk W (w.heap.size) #[.string (qs n.x), .string (qs n.y)] 24) ⟨HX1.out, HB0_1.out⟩ ?_
  rintro w2 ⟨e2, bB0_2⟩
  have HX2 := Lib.hid e2; have HB0_2 := Lib.hid bB0_2
  clear e2 bB0_2
  refine region_lin [.val (.agg #[.string (qs n.x), .string (qs n.y)]), .val (.agg #[.string ⟨#[48]⟩, .string ⟨#[48]⟩]), .val (.bool false), .val (.bool false)] (by kernel_rfl) (by kernel_rfl) (by kernel_rfl) ?_ (fun g2 w3 hx_ hm_ hne_ => ?_)
  · skip
    refine RnL.cons (fun g2 A_ W_ hs_ => ?_) ?_
    · have q1_ := (hs_.old 1 (by kernel_rfl) : A_.tmps[1]?.getD undef = .pointer (some ⟨w.heap.size, 0, none⟩))
      have cB0_0 := ((HB0_2.out.drew.ext hs_.1)).cell 0 rfl
      have cB0_1 := ((HB0_2.out.drew.ext hs_.1)).cell 1 rfl
      refine Rn.val fun K_ hK_ => ?_
      go_simp
      exact hK_.out _ (Ext.refl _)
    refine RnL.cons (fun g2 A_ W_ hs_ => ?_) ?_
    · refine Rn.val fun K_ hK_ => ?_
      go_simp
      refine (vat0 _ (HG.out.ext (HX2.out.drew.trans hs_.1))).mono ?_; rintro e W9_ ⟨rfl, e9_⟩; exact hK_.out _ e9_
    refine RnL.cons (fun g2 A_ W_ hs_ => ?_) ?_
    · have q8_ := hs_.val 0 rfl rfl rfl
      have q9_ := hs_.val 1 rfl rfl rfl
      refine Rn.val fun K_ hK_ => ?_
      go_simp
      exact hK_.out _ (Ext.refl _)
    refine RnL.cons (fun g2 A_ W_ hs_ => ?_) ?_
    · have q10_ := hs_.val 2 rfl rfl rfl
      refine Rn.val fun K_ hK_ => ?_
      go_simp
      exact hK_.out _ (Ext.refl _)
    exact RnL.nil
  simp only [fs, Kd.value, puts, Act.put, List.setIfInBounds_toArray, List.set_cons_zero, List.set_cons_succ]
  have HX3 : Hid (Ext w w3) := Lib.hid (HX2.out.drew.trans hx_)
  clear hx_ hm_ hne_
  go_wp2
  go_ret
  exact ⟨rfl, HX3.out⟩

set_option maxRecDepth 100000 in
set_option maxHeartbeats 2000000 in
theorem ahead_1 (n : P2) (w : World) (g : Gd w) (hn : PB 200 n) (h0 : n.x = 0) (h1 : n.y ≠ 0) : Calls Tryz.prog 44 #[.agg #[.string (qs n.x), .string (qs n.y)]] w (Ret w (.int .i64 0)) := by
  have HN := Lib.hid hn
  have HG := Lib.hid g
  clear hn g
  have h0_t := qs_is0 h0
  have h1_t := qs_not0 h1
  clear h0 h1
  go_enter Tryz.func44, Tryz.ntmps44
  go_wp2_with fail
  refine (vCheckPoint_ok n _ (HG.out.ext ((Ext.refl w).alloc _)) HN.out).mono ?_; rintro e w1 ⟨rfl, e1⟩
  have HX1 : Hid (Ext w w1) := Lib.hid (((Ext.refl w).alloc _).trans e1)
  have HB0_1 : Hid (Blk w1 (w.heap.size) #[.string (qs n.x), .string (qs n.y)] 24) := Lib.hid (Blk.ext (Blk.new' (w := _) (cs := #[.string (qs n.x), .string (qs n.y)]) (t := 24) (by first | rfl | (simp only [World.size_alloc]; done) | (simp only [World.size_alloc]; omega) | simp)) e1)
  have HGEB0 : Hid (w.heap.size ≤ w.heap.size) := Lib.hid (by first | omega | (simp only []; omega) | (simp; omega))
  clear e1
  go_wp2_with fail
  refine wp_name (fun W => Ext w W ∧ Blk W (w.heap.size) #[.string (qs n.x), .string (qs n.y)] 24) ⟨HX1.out, HB0_1.out⟩ ?_
  rintro w2 ⟨e2, bB0_2⟩
  have HX2 := Lib.hid e2; have HB0_2 := Lib.hid bB0_2
  clear e2 bB0_2
  refine region_lin [.val (.agg #[.string (qs n.x), .string (qs n.y)]), .val (.agg #[.string ⟨#[48]⟩, .string ⟨#[48]⟩]), .val (.bool false), .val (.bool false)] (by kernel_rfl) (by kernel_rfl) (by kernel_rfl) ?_ (fun g2 w3 hx_ hm_ hne_ => ?_)
  · skip
    refine RnL.cons (fun g2 A_ W_ hs_ => ?_) ?_
    · have q1_ := (hs_.old 1 (by kernel_rfl) : A_.tmps[1]?.getD undef = .pointer (some ⟨w.heap.size, 0, none⟩))
      have cB0_0 := ((HB0_2.out.drew.ext hs_.1)).cell 0 rfl
      have cB0_1 := ((HB0_2.out.drew.ext hs_.1)).cell 1 rfl
      refine Rn.val fun K_ hK_ => ?_
      go_simp
      exact hK_.out _ (Ext.refl _)
    refine RnL.cons (fun g2 A_ W_ hs_ => ?_) ?_
    · refine Rn.val fun K_ hK_ => ?_
      go_simp
      refine (vat0 _ (HG.out.ext (HX2.out.drew.trans hs_.1))).mono ?_; rintro e W9_ ⟨rfl, e9_⟩; exact hK_.out _ e9_
    refine RnL.cons (fun g2 A_ W_ hs_ => ?_) ?_
    · have q8_ := hs_.val 0 rfl rfl rfl
      have q9_ := hs_.val 1 rfl rfl rfl
      refine Rn.val fun K_ hK_ => ?_
      go_simp
      exact hK_.out _ (Ext.refl _)
    refine RnL.cons (fun g2 A_ W_ hs_ => ?_) ?_
    · have q10_ := hs_.val 2 rfl rfl rfl
      refine Rn.val fun K_ hK_ => ?_
      go_simp
      exact hK_.out _ (Ext.refl _)
    exact RnL.nil
  simp only [fs, Kd.value, puts, Act.put, List.setIfInBounds_toArray, List.set_cons_zero, List.set_cons_succ]
  have HX3 : Hid (Ext w w3) := Lib.hid (HX2.out.drew.trans hx_)
  clear hx_ hm_ hne_
  go_wp2
  go_ret
  exact ⟨rfl, HX3.out⟩

theorem acheck_ok (n : V3) (w : World) (g : Gd w) (hn : VB 200 n) (h : ¬ (n.x = 0 ∧ n.y = 0 ∧ n.z = 0)) : Calls Tryz.prog 52 #[vv n] w (Ret w (.int .i64 0)) := by
  by_cases h0 : n.x = 0
  · by_cases h1 : n.y = 0
    · exact acheck_2 n w g hn h0 h1 (fun e => h ⟨h0, h1, e⟩)
    · exact acheck_1 n w g hn h0 h1
  · exact acheck_0 n w g hn h0
theorem ahead_ok (n : P2) (w : World) (g : Gd w) (hn : PB 200 n) (h : ¬ (n.x = 0 ∧ n.y = 0)) : Calls Tryz.prog 44 #[pv n] w (Ret w (.int .i64 0)) := by
  by_cases h0 : n.x = 0
  · exact ahead_1 n w g hn h0 (fun e => h ⟨h0, e⟩)
  · exact ahead_0 n w g hn h0

set_option maxRecDepth 100000 in
set_option maxHeartbeats 2000000 in
theorem acheck_e (n : T3) (w : World) (g : Gd w) (hn : TS n) (he : terr n.l = 2) : Calls Tryz.prog 52 #[.agg #[.string n.x, .string n.y, .string n.z]] w (Ret w (.int .i64 2)) := by
  have HN := Lib.hid hn
  have HE := Lib.hid he
  have HG := Lib.hid g
  clear hn he g
  go_enter Tryz.func52, Tryz.ntmps52
  go_wp2_with fail
  refine ((HE.out ▸ vcheck_c n _ (HG.out.ext ((Ext.refl w).alloc _)) HN.out)).mono ?_; rintro e w1 ⟨rfl, e1⟩
  have HX1 : Hid (Ext w w1) := Lib.hid (((Ext.refl w).alloc _).trans e1)
  clear e1
  go_wp2
  go_ret
  exact ⟨rfl, HX1.out⟩

set_option maxRecDepth 100000 in
set_option maxHeartbeats 2000000 in
theorem over_c (a b : Rat) {k m : Nat} (w : World) (g : Gd w) (ha : QB k a) (hb : QB m b) (hk : k ≤ 1400) (hm : m ≤ 1400) (h1 : 1 ≤ m) (h0 : b ≠ 0) : Calls Tryz.prog 46 #[.string (qs a), .string (qs b)] w (Ret w (.string (qs (a / b)))) := by
  have HA := Lib.hid ha
  have HB := Lib.hid hb
  have H0 := Lib.hid h0
  have HG := Lib.hid g
  clear ha hb h0 g
  go_enter Tryz.func46, Tryz.ntmps46
  go_wp2_with fail
  refine (rdiv_c a b _ (HG.out.ext (Ext.refl w)) HA.out HB.out (by omega) (by omega) (by omega) H0.out).mono ?_; rintro e w1 ⟨rfl, e1⟩
  have HX1 : Hid (Ext w w1) := Lib.hid ((Ext.refl w).trans e1)
  clear e1
  go_wp2
  go_ret
  exact ⟨rfl, HX1.out⟩

set_option maxRecDepth 100000 in
set_option maxHeartbeats 2000000 in
theorem anum_ok (x : Rat) (w : World) (g : Gd w) (hx : QB 200 x) : Calls Tryz.prog 45 #[.string (qs x)] w (Ret w (.tuple #[.string (qs x), .int .i64 0])) := by
  have HX0 := Lib.hid hx
  have HG := Lib.hid g
  clear hx g
  go_enter Tryz.func45, Tryz.ntmps45
  go_wp2_with fail
  refine (rcheck_yes (qs x) _ (HG.out.ext (Ext.refl w)) (HX0.out.len (by decide)) (rq_qs HX0.out)).mono ?_; rintro e w1 ⟨rfl, e1⟩
  have HX1 : Hid (Ext w w1) := Lib.hid ((Ext.refl w).trans e1)
  clear e1
  go_wp2
  go_ret2
  exact ⟨rfl, HX1.out⟩

set_option maxRecDepth 100000 in
set_option maxHeartbeats 2000000 in
theorem apoint_ok (n : P2) (w : World) (g : Gd w) (hn : PB 200 n) : Calls Tryz.prog 59 #[.agg #[.string (qs n.x), .string (qs n.y)]] w (Ret w (.tuple #[.agg #[.string (qs n.x), .string (qs n.y)], .int .i64 0])) := by
  have HN := Lib.hid hn
  have HG := Lib.hid g
  clear hn g
  go_enter Tryz.func59, Tryz.ntmps59
  go_wp2_with fail
  refine (vCheckPoint_ok n _ (HG.out.ext (((Ext.refl w).alloc _).alloc _)) HN.out).mono ?_; rintro e w1 ⟨rfl, e1⟩
  have HX1 : Hid (Ext w w1) := Lib.hid ((((Ext.refl w).alloc _).alloc _).trans e1)
  have HB0_1 : Hid (Blk w1 (w.heap.size) #[.string (qs n.x), .string (qs n.y)] 24) := Lib.hid (Blk.ext ((Blk.new' (w := _) (cs := #[.string (qs n.x), .string (qs n.y)]) (t := 24) (by first | rfl | (simp only [World.size_alloc]; done) | (simp only [World.size_alloc]; omega) | simp)).alloc _) e1)
  have HB1_1 : Hid (Blk w1 (w.heap.size + 1) #[.string ⟨#[]⟩, .string ⟨#[]⟩] 24) := Lib.hid (Blk.ext (Blk.new' (w := _) (cs := #[.string ⟨#[]⟩, .string ⟨#[]⟩]) (t := 24) (by first | rfl | (simp only [World.size_alloc]; done) | (simp only [World.size_alloc]; omega) | simp)) e1)
  have HGEB0 : Hid (w.heap.size ≤ w.heap.size) := Lib.hid (by first | omega | (simp only []; omega) | (simp; omega))
  have HGEB1 : Hid (w.heap.size ≤ w.heap.size + 1) := Lib.hid (by first | omega | (simp only []; omega) | (simp; omega))
  clear e1
  have c0_0 := HB0_1.out.cell 0 rfl
  have c0_1 := HB0_1.out.cell 1 rfl
  have c1_0 := HB1_1.out.cell 0 rfl
  have f1_0 := HB1_1.out.free 0
  have c1_1 := HB1_1.out.cell 1 rfl
  have f1_1 := HB1_1.out.free 1
  go_wp2_with fail
  refine wp_name (fun W => Ext w W ∧ Blk W (w.heap.size + 1) #[.string (qs n.x), .string (qs n.y)] 24) ⟨((HX1.out.setCell (by have := HGEB1.out; first | omega | (simp only []; omega) | (simp; omega)) _).setCell (by have := HGEB1.out; first | omega | (simp only []; omega) | (simp; omega)) _), ((HB1_1.out.set 0 (.string (qs n.x))).set 1 (.string (qs n.y)))⟩ ?_
  rintro w2 ⟨e2, bB1_2⟩
  have HX2 := Lib.hid e2; have HB1_2 := Lib.hid bB1_2
  clear e2 bB1_2 c0_0 c0_1 c1_0 f1_0 c1_1 f1_1
  have gB1_0 := HB1_2.out.cell 0 rfl
  have gB1_1 := HB1_2.out.cell 1 rfl
  refine bodyPost_ret (v := .tuple #[.agg #[.string (qs n.x), .string (qs n.y)], .int .i64 0]) (by simp [results, Tryz.results59, go_sem, gB1_0, gB1_1]) rfl ⟨rfl, HX2.out⟩

set_option maxRecDepth 100000 in
set_option maxHeartbeats 2000000 in
theorem atest_ok (n : V3) (v : Bool) (w : World) (g : Gd w) (hn : VB 200 n) (hz : ¬ (n.x = 0 ∧ n.y = 0 ∧ n.z = 0)) : Calls Tryz.prog 58 #[.agg #[.string (qs n.x), .string (qs n.y), .string (qs n.z)], .bool v] w (Ret w (.tuple #[.bool v, .int .i64 0])) := by
  have HN := Lib.hid hn
  have HZ := Lib.hid hz
  have HG := Lib.hid g
  clear hn hz g
  go_enter Tryz.func58, Tryz.ntmps58
  go_wp2_with fail
  refine (acheck_ok n _ (HG.out.ext ((Ext.refl w).alloc _)) HN.out HZ.out).mono ?_; rintro e w1 ⟨rfl, e1⟩
  have HX1 : Hid (Ext w w1) := Lib.hid (((Ext.refl w).alloc _).trans e1)
  clear e1
  go_wp2
  go_ret2
  exact ⟨rfl, HX1.out⟩

set_option maxRecDepth 100000 in
set_option maxHeartbeats 2000000 in
theorem atest_z (n : V3) (v : Bool) (w : World) (g : Gd w) (hn : VB 200 n) (hz : n.x = 0 ∧ n.y = 0 ∧ n.z = 0) : Calls Tryz.prog 58 #[.agg #[.string (qs n.x), .string (qs n.y), .string (qs n.z)], .bool v] w (Ret w (.tuple #[.bool false, .int .i64 17])) := by
  have HN := Lib.hid hn
  have HZ := Lib.hid hz
  have HG := Lib.hid g
  clear hn hz g
  go_enter Tryz.func58, Tryz.ntmps58
  go_wp2_with fail
  refine (acheck_z n _ (HG.out.ext ((Ext.refl w).alloc _)) HN.out HZ.out.1 HZ.out.2.1 HZ.out.2.2).mono ?_; rintro e w1 ⟨rfl, e1⟩
  have HX1 : Hid (Ext w w1) := Lib.hid (((Ext.refl w).alloc _).trans e1)
  clear e1
  go_wp2
  go_ret2
  exact ⟨rfl, HX1.out⟩

set_option maxRecDepth 100000 in
set_option maxHeartbeats 2000000 in
theorem atest_e (n : T3) (v : Bool) (w : World) (g : Gd w) (hn : TS n) (he : terr n.l = 2) : Calls Tryz.prog 58 #[.agg #[.string n.x, .string n.y, .string n.z], .bool v] w (Ret w (.tuple #[.bool false, .int .i64 2])) := by
  have HN := Lib.hid hn
  have HE := Lib.hid he
  have HG := Lib.hid g
  clear hn he g
  go_enter Tryz.func58, Tryz.ntmps58
  go_wp2_with fail
  refine (acheck_e n _ (HG.out.ext ((Ext.refl w).alloc _)) HN.out HE.out).mono ?_; rintro e w1 ⟨rfl, e1⟩
  have HX1 : Hid (Ext w w1) := Lib.hid (((Ext.refl w).alloc _).trans e1)
  clear e1
  go_wp2
  go_ret2
  exact ⟨rfl, HX1.out⟩

set_option maxRecDepth 100000 in
set_option maxHeartbeats 2000000 in
theorem lnorm_e (n : T3) (w : World) (g : Gd w) (hn : TS n) (he : n.l.all rq = false) : Calls Tryz.prog 18 #[.agg #[.string n.x, .string n.y, .string n.z]] w (Ret w (.int .i64 2)) := by
  have HN := Lib.hid hn
  have HE := Lib.hid he
  have HG := Lib.hid g
  clear hn he g
  go_enter Tryz.func18, Tryz.ntmps18
  go_wp2_with fail
  refine (right15_b [n.x, n.y, n.z] 3 (w.heap.size + 1) false _ (HG.out.ext (((Ext.refl w).alloc _).alloc _)) rfl (by decide) (sizes3 HN.out.x HN.out.y HN.out.z) HE.out (Blk.new' (w := _) (cs := #[.string n.x, .string n.y, .string n.z]) (t := 22) (by first | rfl | (simp only [World.size_alloc]; done) | (simp only [World.size_alloc]; omega) | simp))).mono ?_; rintro e w1 ⟨rfl, e1⟩
  have HX1 : Hid (Ext w w1) := Lib.hid ((((Ext.refl w).alloc _).alloc _).trans e1)
  have HB1_1 : Hid (Blk w1 (w.heap.size + 1) #[.string n.x, .string n.y, .string n.z] 22) := Lib.hid (Blk.ext (Blk.new' (w := _) (cs := #[.string n.x, .string n.y, .string n.z]) (t := 22) (by first | rfl | (simp only [World.size_alloc]; done) | (simp only [World.size_alloc]; omega) | simp)) e1)
  have HGEB1 : Hid (w.heap.size ≤ w.heap.size + 1) := Lib.hid (by first | omega | (simp only []; omega) | (simp; omega))
  clear e1
  go_wp2
  go_ret
  exact ⟨rfl, HX1.out⟩

set_option maxRecDepth 100000 in
set_option maxHeartbeats 2000000 in
theorem lnorm_0 (n : V3) (w : World) (g : Gd w) (hn : VB 200 n) (h0 : n.x ≠ 0) : Calls Tryz.prog 18 #[.agg #[.string (qs n.x), .string (qs n.y), .string (qs n.z)]] w (Ret w (.int .i64 0)) := by
  have HN := Lib.hid hn
  have HG := Lib.hid g
  clear hn g
  have h0_t := qs_not0 h0
  clear h0
  go_enter Tryz.func18, Tryz.ntmps18
  go_wp2_with fail
  refine (right15_b [qs n.x, qs n.y, qs n.z] 3 (w.heap.size + 1) true _ (HG.out.ext (((Ext.refl w).alloc _).alloc _)) rfl (by decide) (sizes3 HN.out.ts.x HN.out.ts.y HN.out.ts.z) HN.out.all (Blk.new' (w := _) (cs := #[.string (qs n.x), .string (qs n.y), .string (qs n.z)]) (t := 22) (by first | rfl | (simp only [World.size_alloc]; done) | (simp only [World.size_alloc]; omega) | simp))).mono ?_; rintro e w1 ⟨rfl, e1⟩
  have HX1 : Hid (Ext w w1) := Lib.hid ((((Ext.refl w).alloc _).alloc _).trans e1)
  have HB0_1 : Hid (Blk w1 (w.heap.size) #[.string (qs n.x), .string (qs n.y), .string (qs n.z)] 37) := Lib.hid (Blk.ext ((Blk.new' (w := _) (cs := #[.string (qs n.x), .string (qs n.y), .string (qs n.z)]) (t := 37) (by first | rfl | (simp only [World.size_alloc]; done) | (simp only [World.size_alloc]; omega) | simp)).alloc _) e1)
  have HB1_1 : Hid (Blk w1 (w.heap.size + 1) #[.string (qs n.x), .string (qs n.y), .string (qs n.z)] 22) := Lib.hid (Blk.ext (Blk.new' (w := _) (cs := #[.string (qs n.x), .string (qs n.y), .string (qs n.z)]) (t := 22) (by first | rfl | (simp only [World.size_alloc]; done) | (simp only [World.size_alloc]; omega) | simp)) e1)
  have HGEB0 : Hid (w.heap.size ≤ w.heap.size) := Lib.hid (by first | omega | (simp only []; omega) | (simp; omega))
  have HGEB1 : Hid (w.heap.size ≤ w.heap.size + 1) := Lib.hid (by first | omega | (simp only []; omega) | (simp; omega))
  clear e1
  have c0_0 := HB0_1.out.cell 0 rfl
  go_wp2
  go_ret
  exact ⟨rfl, HX1.out⟩

set_option maxRecDepth 100000 in
set_option maxHeartbeats 2000000 in
theorem lnorm_1 (n : V3) (w : World) (g : Gd w) (hn : VB 200 n) (h0 : n.x = 0) (h1 : n.y ≠ 0) : Calls Tryz.prog 18 #[.agg #[.string (qs n.x), .string (qs n.y), .string (qs n.z)]] w (Ret w (.int .i64 0)) := by
  have HN := Lib.hid hn
  have HG := Lib.hid g
  clear hn g
  have h0_t := qs_is0 h0
  have h1_t := qs_not0 h1
  clear h0 h1
  go_enter Tryz.func18, Tryz.ntmps18
  go_wp2_with fail
  refine (right15_b [qs n.x, qs n.y, qs n.z] 3 (w.heap.size + 1) true _ (HG.out.ext (((Ext.refl w).alloc _).alloc _)) rfl (by decide) (sizes3 HN.out.ts.x HN.out.ts.y HN.out.ts.z) HN.out.all (Blk.new' (w := _) (cs := #[.string (qs n.x), .string (qs n.y), .string (qs n.z)]) (t := 22) (by first | rfl | (simp only [World.size_alloc]; done) | (simp only [World.size_alloc]; omega) | simp))).mono ?_; rintro e w1 ⟨rfl, e1⟩
  have HX1 : Hid (Ext w w1) := Lib.hid ((((Ext.refl w).alloc _).alloc _).trans e1)
  have HB0_1 : Hid (Blk w1 (w.heap.size) #[.string (qs n.x), .string (qs n.y), .string (qs n.z)] 37) := Lib.hid (Blk.ext ((Blk.new' (w := _) (cs := #[.string (qs n.x), .string (qs n.y), .string (qs n.z)]) (t := 37) (by first | rfl | (simp only [World.size_alloc]; done) | (simp only [World.size_alloc]; omega) | simp)).alloc _) e1)
  have HB1_1 : Hid (Blk w1 (w.heap.size + 1) #[.string (qs n.x), .string (qs n.y), .string (qs n.z)] 22) := Lib.hid (Blk.ext (Blk.new' (w := _) (cs := #[.string (qs n.x), .string (qs n.y), .string (qs n.z)]) (t := 22) (by first | rfl | (simp only [World.size_alloc]; done) | (simp only [World.size_alloc]; omega) | simp)) e1)
  have HGEB0 : Hid (w.heap.size ≤ w.heap.size) := Lib.hid (by first | omega | (simp only []; omega) | (simp; omega))
  have HGEB1 : Hid (w.heap.size ≤ w.heap.size + 1) := Lib.hid (by first | omega | (simp only []; omega) | (simp; omega))
  clear e1
  have c0_0 := HB0_1.out.cell 0 rfl
  have c0_1 := HB0_1.out.cell 1 rfl
  go_wp2
  go_ret
  exact ⟨rfl, HX1.out⟩

set_option maxRecDepth 100000 in
set_option maxHeartbeats 2000000 in
theorem lnorm_2 (n : V3) (w : World) (g : Gd w) (hn : VB 200 n) (h0 : n.x = 0) (h1 : n.y = 0) (h2 : n.z ≠ 0) : Calls Tryz.prog 18 #[.agg #[.string (qs n.x), .string (qs n.y), .string (qs n.z)]] w (Ret w (.int .i64 0)) := by
  have HN := Lib.hid hn
  have HG := Lib.hid g
  clear hn g
  have h0_t := qs_is0 h0
  have h1_t := qs_is0 h1
  have h2_t := qs_not0 h2
  clear h0 h1 h2
  go_enter Tryz.func18, Tryz.ntmps18
  go_wp2_with fail
  refine (right15_b [qs n.x, qs n.y, qs n.z] 3 (w.heap.size + 1) true _ (HG.out.ext (((Ext.refl w).alloc _).alloc _)) rfl (by decide) (sizes3 HN.out.ts.x HN.out.ts.y HN.out.ts.z) HN.out.all (Blk.new' (w := _) (cs := #[.string (qs n.x), .string (qs n.y), .string (qs n.z)]) (t := 22) (by first | rfl | (simp only [World.size_alloc]; done) | (simp only [World.size_alloc]; omega) | simp))).mono ?_; rintro e w1 ⟨rfl, e1⟩
  have HX1 : Hid (Ext w w1) := Lib.hid ((((Ext.refl w).alloc _).alloc _).trans e1)
  have HB0_1 : Hid (Blk w1 (w.heap.size) #[.string (qs n.x), .string (qs n.y), .string (qs n.z)] 37) := Lib.hid (Blk.ext ((Blk.new' (w := _) (cs := #[.string (qs n.x), .string (qs n.y), .string (qs n.z)]) (t := 37) (by first | rfl | (simp only [World.size_alloc]; done) | (simp only [World.size_alloc]; omega) | simp)).alloc _) e1)
  have HB1_1 : Hid (Blk w1 (w.heap.size + 1) #[.string (qs n.x), .string (qs n.y), .string (qs n.z)] 22) := Lib.hid (Blk.ext (Blk.new' (w := _) (cs := #[.string (qs n.x), .string (qs n.y), .string (qs n.z)]) (t := 22) (by first | rfl | (simp only [World.size_alloc]; done) | (simp only [World.size_alloc]; omega) | simp)) e1)
  have HGEB0 : Hid (w.heap.size ≤ w.heap.size) := Lib.hid (by first | omega | (simp only []; omega) | (simp; omega))
  have HGEB1 : Hid (w.heap.size ≤ w.heap.size + 1) := Lib.hid (by first | omega | (simp only []; omega) | (simp; omega))
  clear e1
  have c0_0 := HB0_1.out.cell 0 rfl
  have c0_1 := HB0_1.out.cell 1 rfl
  have c0_2 := HB0_1.out.cell 2 rfl
  go_wp2
  go_ret
  exact ⟨rfl, HX1.out⟩

set_option maxRecDepth 100000 in
set_option maxHeartbeats 2000000 in
theorem lnorm_z (n : V3) (w : World) (g : Gd w) (hn : VB 200 n) (h0 : n.x = 0) (h1 : n.y = 0) (h2 : n.z = 0) : Calls Tryz.prog 18 #[.agg #[.string (qs n.x), .string (qs n.y), .string (qs n.z)]] w (Ret w (.int .i64 17)) := by
  have HN := Lib.hid hn
  have HG := Lib.hid g
  clear hn g
  have h0_t := qs_is0 h0
  have h1_t := qs_is0 h1
  have h2_t := qs_is0 h2
  clear h0 h1 h2
  go_enter Tryz.func18, Tryz.ntmps18
  go_wp2_with fail
  refine (right15_b [qs n.x, qs n.y, qs n.z] 3 (w.heap.size + 1) true _ (HG.out.ext (((Ext.refl w).alloc _).alloc _)) rfl (by decide) (sizes3 HN.out.ts.x HN.out.ts.y HN.out.ts.z) HN.out.all (Blk.new' (w := _) (cs := #[.string (qs n.x), .string (qs n.y), .string (qs n.z)]) (t := 22) (by first | rfl | (simp only [World.size_alloc]; done) | (simp only [World.size_alloc]; omega) | simp))).mono ?_; rintro e w1 ⟨rfl, e1⟩
  have HX1 : Hid (Ext w w1) := Lib.hid ((((Ext.refl w).alloc _).alloc _).trans e1)
  have HB0_1 : Hid (Blk w1 (w.heap.size) #[.string (qs n.x), .string (qs n.y), .string (qs n.z)] 37) := Lib.hid (Blk.ext ((Blk.new' (w := _) (cs := #[.string (qs n.x), .string (qs n.y), .string (qs n.z)]) (t := 37) (by first | rfl | (simp only [World.size_alloc]; done) | (simp only [World.size_alloc]; omega) | simp)).alloc _) e1)
  have HB1_1 : Hid (Blk w1 (w.heap.size + 1) #[.string (qs n.x), .string (qs n.y), .string (qs n.z)] 22) := Lib.hid (Blk.ext (Blk.new' (w := _) (cs := #[.string (qs n.x), .string (qs n.y), .string (qs n.z)]) (t := 22) (by first | rfl | (simp only [World.size_alloc]; done) | (simp only [World.size_alloc]; omega) | simp)) e1)
  have HGEB0 : Hid (w.heap.size ≤ w.heap.size) := Lib.hid (by first | omega | (simp only []; omega) | (simp; omega))
  have HGEB1 : Hid (w.heap.size ≤ w.heap.size + 1) := Lib.hid (by first | omega | (simp only []; omega) | (simp; omega))
  clear e1
  have c0_0 := HB0_1.out.cell 0 rfl
  have c0_1 := HB0_1.out.cell 1 rfl
  have c0_2 := HB0_1.out.cell 2 rfl
  go_wp2
  go_ret
  exact ⟨rfl, HX1.out⟩

theorem lnorm_ok (n : V3) (w : World) (g : Gd w) (hn : VB 200 n) (h : ¬ (n.x = 0 ∧ n.y = 0 ∧ n.z = 0)) : Calls Tryz.prog 18 #[vv n] w (Ret w (.int .i64 0)) := by
  by_cases h0 : n.x = 0
  · by_cases h1 : n.y = 0
    · exact lnorm_2 n w g hn h0 h1 (fun e => h ⟨h0, h1, e⟩)
    · exact lnorm_1 n w g hn h0 h1
  · exact lnorm_0 n w g hn h0

end Go.Proofs.YtplimbgaoengfaaGreatDoor

namespace Go.Proofs.YtplimbgaoengfaaGreatDoor
open Go Go.RowKit
set_option maxRecDepth 100000 in
set_option maxHeartbeats 2000000 in
theorem aover_e (n : T3) (w : World) (g : Gd w) (hn : TS n) (he : terr n.l = 2) : Calls Tryz.prog 23 #[.agg #[.string n.x, .string n.y, .string n.z]] w (Ret w (.tuple #[.bool false, .int .i64 2])) := by
  have HN := Lib.hid hn
  have HE := Lib.hid he
  have HG := Lib.hid g
  clear hn he g
  go_enter Tryz.func23, Tryz.ntmps23
  go_wp2_with fail
  refine (acheck_e n _ (HG.out.ext ((Ext.refl w).alloc _)) HN.out HE.out).mono ?_; rintro e w1 ⟨rfl, e1⟩
  have HX1 : Hid (Ext w w1) := Lib.hid (((Ext.refl w).alloc _).trans e1)
  clear e1
  go_wp2
  go_ret2
  exact ⟨rfl, HX1.out⟩

set_option maxRecDepth 100000 in
set_option maxHeartbeats 2000000 in
theorem aover_z (n : V3) (w : World) (g : Gd w) (hn : VB 200 n) (hz : n.x = 0 ∧ n.y = 0 ∧ n.z = 0) : Calls Tryz.prog 23 #[.agg #[.string (qs n.x), .string (qs n.y), .string (qs n.z)]] w (Ret w (.tuple #[.bool false, .int .i64 17])) := by
  have HN := Lib.hid hn
  have HZ := Lib.hid hz
  have HG := Lib.hid g
  clear hn hz g
  go_enter Tryz.func23, Tryz.ntmps23
  go_wp2_with fail
  refine (acheck_z n _ (HG.out.ext ((Ext.refl w).alloc _)) HN.out HZ.out.1 HZ.out.2.1 HZ.out.2.2).mono ?_; rintro e w1 ⟨rfl, e1⟩
  have HX1 : Hid (Ext w w1) := Lib.hid (((Ext.refl w).alloc _).trans e1)
  clear e1
  go_wp2
  go_ret2
  exact ⟨rfl, HX1.out⟩

set_option maxRecDepth 100000 in
set_option maxHeartbeats 2000000 in
theorem aover_ok (n : V3) (sb : Bool) (w : World) (g : Gd w) (hn : VB 200 n) (hz : ¬ (n.x = 0 ∧ n.y = 0 ∧ n.z = 0)) (hs : decide (n.z.num < 0) = sb) : Calls Tryz.prog 23 #[.agg #[.string (qs n.x), .string (qs n.y), .string (qs n.z)]] w (Ret w (.tuple #[.bool sb, .int .i64 0])) := by
  have HN := Lib.hid hn
  have HZ := Lib.hid hz
  have HG := Lib.hid g
  clear hn hz g
  go_enter Tryz.func23, Tryz.ntmps23
  go_wp2_with fail
  refine (acheck_ok n _ (HG.out.ext ((Ext.refl w).alloc _)) HN.out HZ.out).mono ?_; rintro e w1 ⟨rfl, e1⟩
  have HX1 : Hid (Ext w w1) := Lib.hid (((Ext.refl w).alloc _).trans e1)
  have HB0_1 : Hid (Blk w1 (w.heap.size) #[.string (qs n.x), .string (qs n.y), .string (qs n.z)] 37) := Lib.hid (Blk.ext (Blk.new' (w := _) (cs := #[.string (qs n.x), .string (qs n.y), .string (qs n.z)]) (t := 37) (by first | rfl | (simp only [World.size_alloc]; done) | (simp only [World.size_alloc]; omega) | simp)) e1)
  have HGEB0 : Hid (w.heap.size ≤ w.heap.size) := Lib.hid (by first | omega | (simp only []; omega) | (simp; omega))
  clear e1
  have c0_2 := HB0_1.out.cell 2 rfl
  go_wp2_with fail
  refine (rsign_c n.z _).mono ?_; rintro e _ ⟨rfl, rfl⟩
  clear c0_2
  go_wp2
  go_ret2
  exact ⟨rfl, HX1.out⟩

set_option maxRecDepth 100000 in
set_option maxHeartbeats 2000000 in
theorem ahor_e0 (n : T3) (w : World) (g : Gd w) (hn : TS n) (he : terr n.l = 2) (hx : (n.x.toList == [48]) = false) : Calls Tryz.prog 24 #[.agg #[.string n.x, .string n.y, .string n.z]] w (Ret w (.tuple #[.bool false, .int .i64 2])) := by
  have HN := Lib.hid hn
  have HE := Lib.hid he
  have HG := Lib.hid g
  clear hn he g
  go_enter Tryz.func24, Tryz.ntmps24
  go_wp2_with fail
  refine (atest_e n false _ (HG.out.ext ((Ext.refl w).alloc _)) HN.out HE.out).mono ?_; rintro e w1 ⟨rfl, e1⟩
  have HX1 : Hid (Ext w w1) := Lib.hid (((Ext.refl w).alloc _).trans e1)
  clear e1
  go_wp2
  go_ret2
  exact ⟨rfl, HX1.out⟩

set_option maxRecDepth 100000 in
set_option maxHeartbeats 2000000 in
theorem ahor_e1 (n : T3) (yb : Bool) (w : World) (g : Gd w) (hn : TS n) (he : terr n.l = 2) (hx : (n.x.toList == [48]) = true) (hy : (n.y.toList == [48]) = yb) : Calls Tryz.prog 24 #[.agg #[.string n.x, .string n.y, .string n.z]] w (Ret w (.tuple #[.bool false, .int .i64 2])) := by
  have HN := Lib.hid hn
  have HE := Lib.hid he
  have HG := Lib.hid g
  clear hn he g
  go_enter Tryz.func24, Tryz.ntmps24
  go_wp2_with fail
  refine (atest_e n yb _ (HG.out.ext ((Ext.refl w).alloc _)) HN.out HE.out).mono ?_; rintro e w1 ⟨rfl, e1⟩
  have HX1 : Hid (Ext w w1) := Lib.hid (((Ext.refl w).alloc _).trans e1)
  clear e1
  go_wp2
  go_ret2
  exact ⟨rfl, HX1.out⟩

set_option maxRecDepth 100000 in
set_option maxHeartbeats 2000000 in
theorem avert_e (n : T3) (yb : Bool) (w : World) (g : Gd w) (hn : TS n) (he : terr n.l = 2) (hy : (n.z.toList == [48]) = yb) : Calls Tryz.prog 25 #[.agg #[.string n.x, .string n.y, .string n.z]] w (Ret w (.tuple #[.bool false, .int .i64 2])) := by
  have HN := Lib.hid hn
  have HE := Lib.hid he
  have HG := Lib.hid g
  clear hn he g
  go_enter Tryz.func25, Tryz.ntmps25
  go_wp2_with fail
  refine (atest_e n yb _ (HG.out.ext ((Ext.refl w).alloc _)) HN.out HE.out).mono ?_; rintro e w1 ⟨rfl, e1⟩
  have HX1 : Hid (Ext w w1) := Lib.hid (((Ext.refl w).alloc _).trans e1)
  clear e1
  go_wp2
  go_ret2
  exact ⟨rfl, HX1.out⟩

set_option maxRecDepth 100000 in
set_option maxHeartbeats 2000000 in
theorem ahor_z (n : V3) (w : World) (g : Gd w) (hn : VB 200 n) (hz : n.x = 0 ∧ n.y = 0 ∧ n.z = 0) : Calls Tryz.prog 24 #[.agg #[.string (qs n.x), .string (qs n.y), .string (qs n.z)]] w (Ret w (.tuple #[.bool false, .int .i64 17])) := by
  have HN := Lib.hid hn
  have HG := Lib.hid g
  clear hn g
  have h0 := hz.1
  have h0_t := qs_is0 h0
  have h1 := hz.2.1
  have h1_t := qs_is0 h1
  have h2 := hz.2.2
  have h2_t := qs_is0 h2
  clear h0 h1 h2
  have HZ := Lib.hid hz; clear hz
  go_enter Tryz.func24, Tryz.ntmps24
  go_wp2_with fail
  refine (atest_z n true _ (HG.out.ext ((Ext.refl w).alloc _)) HN.out HZ.out).mono ?_; rintro e w1 ⟨rfl, e1⟩
  have HX1 : Hid (Ext w w1) := Lib.hid (((Ext.refl w).alloc _).trans e1)
  clear e1
  go_wp2
  go_ret2
  exact ⟨rfl, HX1.out⟩

set_option maxRecDepth 100000 in
set_option maxHeartbeats 2000000 in
theorem avert_z (n : V3) (w : World) (g : Gd w) (hn : VB 200 n) (hz : n.x = 0 ∧ n.y = 0 ∧ n.z = 0) : Calls Tryz.prog 25 #[.agg #[.string (qs n.x), .string (qs n.y), .string (qs n.z)]] w (Ret w (.tuple #[.bool false, .int .i64 17])) := by
  have HN := Lib.hid hn
  have HG := Lib.hid g
  clear hn g
  have h0 := hz.1
  have h0_t := qs_is0 h0
  have h1 := hz.2.1
  have h1_t := qs_is0 h1
  have h2 := hz.2.2
  have h2_t := qs_is0 h2
  clear h0 h1 h2
  have HZ := Lib.hid hz; clear hz
  go_enter Tryz.func25, Tryz.ntmps25
  go_wp2_with fail
  refine (atest_z n true _ (HG.out.ext ((Ext.refl w).alloc _)) HN.out HZ.out).mono ?_; rintro e w1 ⟨rfl, e1⟩
  have HX1 : Hid (Ext w w1) := Lib.hid (((Ext.refl w).alloc _).trans e1)
  clear e1
  go_wp2
  go_ret2
  exact ⟨rfl, HX1.out⟩

set_option maxRecDepth 100000 in
set_option maxHeartbeats 2000000 in
theorem ahor_ok0 (n : V3) (w : World) (g : Gd w) (hn : VB 200 n) (hz : ¬ (n.x = 0 ∧ n.y = 0 ∧ n.z = 0)) (hx : ((qs n.x).toList == [48]) = false) : Calls Tryz.prog 24 #[.agg #[.string (qs n.x), .string (qs n.y), .string (qs n.z)]] w (Ret w (.tuple #[.bool false, .int .i64 0])) := by
  have HN := Lib.hid hn
  have HZ := Lib.hid hz
  have HG := Lib.hid g
  clear hn hz g
  go_enter Tryz.func24, Tryz.ntmps24
  go_wp2_with fail
  refine (atest_ok n false _ (HG.out.ext ((Ext.refl w).alloc _)) HN.out HZ.out).mono ?_; rintro e w1 ⟨rfl, e1⟩
  have HX1 : Hid (Ext w w1) := Lib.hid (((Ext.refl w).alloc _).trans e1)
  clear e1
  go_wp2
  go_ret2
  exact ⟨rfl, HX1.out⟩

set_option maxRecDepth 100000 in
set_option maxHeartbeats 2000000 in
theorem ahor_ok1 (n : V3) (yb : Bool) (w : World) (g : Gd w) (hn : VB 200 n) (hz : ¬ (n.x = 0 ∧ n.y = 0 ∧ n.z = 0)) (hx : ((qs n.x).toList == [48]) = true) (hy : ((qs n.y).toList == [48]) = yb) : Calls Tryz.prog 24 #[.agg #[.string (qs n.x), .string (qs n.y), .string (qs n.z)]] w (Ret w (.tuple #[.bool yb, .int .i64 0])) := by
  have HN := Lib.hid hn
  have HZ := Lib.hid hz
  have HG := Lib.hid g
  clear hn hz g
  go_enter Tryz.func24, Tryz.ntmps24
  go_wp2_with fail
  refine (atest_ok n yb _ (HG.out.ext ((Ext.refl w).alloc _)) HN.out HZ.out).mono ?_; rintro e w1 ⟨rfl, e1⟩
  have HX1 : Hid (Ext w w1) := Lib.hid (((Ext.refl w).alloc _).trans e1)
  clear e1
  go_wp2
  go_ret2
  exact ⟨rfl, HX1.out⟩

set_option maxRecDepth 100000 in
set_option maxHeartbeats 2000000 in
theorem avert_ok (n : V3) (yb : Bool) (w : World) (g : Gd w) (hn : VB 200 n) (hz : ¬ (n.x = 0 ∧ n.y = 0 ∧ n.z = 0)) (hy : ((qs n.z).toList == [48]) = yb) : Calls Tryz.prog 25 #[.agg #[.string (qs n.x), .string (qs n.y), .string (qs n.z)]] w (Ret w (.tuple #[.bool yb, .int .i64 0])) := by
  have HN := Lib.hid hn
  have HZ := Lib.hid hz
  have HG := Lib.hid g
  clear hn hz g
  go_enter Tryz.func25, Tryz.ntmps25
  go_wp2_with fail
  refine (atest_ok n yb _ (HG.out.ext ((Ext.refl w).alloc _)) HN.out HZ.out).mono ?_; rintro e w1 ⟨rfl, e1⟩
  have HX1 : Hid (Ext w w1) := Lib.hid (((Ext.refl w).alloc _).trans e1)
  clear e1
  go_wp2
  go_ret2
  exact ⟨rfl, HX1.out⟩

end Go.Proofs.YtplimbgaoengfaaGreatDoor
