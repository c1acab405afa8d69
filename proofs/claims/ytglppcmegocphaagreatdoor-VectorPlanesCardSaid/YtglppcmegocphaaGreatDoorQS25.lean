/- Part 25 of the proof: C5, C6, C7, V2, V3. -/
import Derived.Test.YtglppcmegocphaaGreatDoorQS24
namespace Go.Proofs.YtglppcmegocphaaGreatDoor
open Go Go.RowKit
set_option maxRecDepth 100000 in
set_option maxHeartbeats 4000000 in
theorem each_sub (a b : V3) {k m : Nat} (w : World) (g : Gd w) (ha : VB k a) (hb : VB m b) (hk : k ≤ 3000) (hm : m ≤ 3000) : Calls Tryz.prog 88 #[vv a, vv b, .func (.func 93) #[] #[]] w (Ret w (vv ⟨a.x - b.x, a.y - b.y, a.z - b.z⟩)) := by
  have HG := Lib.hid g
  have HA := Lib.hid ha
  have HB := Lib.hid hb
  clear g ha hb
  obtain ⟨r, hr⟩ : ∃ r : V3, r = ⟨a.x - b.x, a.y - b.y, a.z - b.z⟩ := ⟨_, rfl⟩
  have hat : ∀ k : Nat, (v3at a k) - (v3at b k) = v3at r k := by intro k; rw [hr]; unfold v3at; split <;> (try split) <;> rfl
  have HAT := Lib.hid hat; have HR0 := Lib.hid hr
  rw [show (⟨a.x - b.x, a.y - b.y, a.z - b.z⟩ : V3) = r from hr.symm]
  clear hat hr
  go_enter Tryz.func88, Tryz.ntmps88
  go_wp2_with fail
  refine wp_name (fun W => Ext w W ∧ Blk W w.heap.size #[.string (qs a.x), .string (qs a.y), .string (qs a.z)] 30 ∧ Blk W (w.heap.size + 1) #[.string (qs b.x), .string (qs b.y), .string (qs b.z)] 30 ∧ Blk W (w.heap.size + 1 + 1) #[.string ⟨#[]⟩, .string ⟨#[]⟩, .string ⟨#[]⟩] 108) ⟨(((Ext.refl _).alloc _).alloc _).alloc _, ((Blk.new' rfl).alloc _).alloc _, (Blk.new' (by first | rfl | simp)).alloc _, Blk.new' (by first | rfl | simp)⟩ ?_
  rintro W ⟨ew, b0, b1, b2⟩
  have HC := Lib.hid (And.intro (b0.cell 0 rfl) (And.intro (b0.cell 1 rfl) (And.intro (b0.cell 2 rfl) (And.intro (b1.cell 0 rfl) (And.intro (b1.cell 1 rfl) (b1.cell 2 rfl))))))
  have HEW := Lib.hid ew; have HB2 := Lib.hid b2
  clear b0 b1 b2 ew
  go_cut [7, 8] from 10 to 13 (fun p q wx => ∃ i j : Nat, p = .pointer (some ⟨i, 0, none⟩) ∧ q = .pointer (some ⟨j, 0, none⟩) ∧ i ≠ j ∧ W.heap.size ≤ i ∧ W.heap.size ≤ j ∧ Ext W wx ∧ Blk wx i #[.string (qs a.x), .string (qs a.y), .string (qs a.z)] 108 ∧ Blk wx j #[.string (qs b.x), .string (qs b.y), .string (qs b.z)] 108)
  case first =>
    go_region_held3 (fun w' => w'.cell? ⟨w.heap.size, 0, none⟩ = some (.string (qs a.x)) ∧ w'.cell? ⟨w.heap.size, 1, none⟩ = some (.string (qs a.y)) ∧ w'.cell? ⟨w.heap.size, 2, none⟩ = some (.string (qs a.z)) ∧ w'.cell? ⟨w.heap.size + 1, 0, none⟩ = some (.string (qs b.x)) ∧ w'.cell? ⟨w.heap.size + 1, 1, none⟩ = some (.string (qs b.y)) ∧ w'.cell? ⟨w.heap.size + 1, 2, none⟩ = some (.string (qs b.z)))
      (exact keepsH6 (by repeat (first | exact Ext.refl _ | apply Ext.drew | apply Ext.alloc | (refine Ext.setCell ?_ (by simp) _))) HC.out) (first
      | (go_at_call 69; ((with_reducible refine (list_e ⟨qs a.x, qs a.y, qs a.z⟩ _).mono ?_); rintro e w' ⟨rfl, rfl⟩))
      | (go_at_call 69; refine (list_e ⟨qs b.x, qs b.y, qs b.z⟩ _).mono ?_; rintro e w' ⟨rfl, rfl⟩))
    all_goals (go_wp2; go_meet)
    all_goals (refine ⟨_, _, rfl, rfl, by omega, by omega, by omega, by (repeat (first | exact Ext.refl _ | apply Ext.drew | apply Ext.alloc | (refine Ext.setCell ?_ (by simp) _))), ?_, ?_⟩)
    all_goals (repeat (first | (refine Blk.new' ?_; first | rfl | (simp only [World.size_alloc]; done) | (simp only [World.size_alloc]; omega)) | apply Blk.alloc | apply Blk.drew))
  case rest =>
    obtain ⟨i, j, rfl, rfl, hij, hi, hj, hx, B1, B2⟩ := hcut
    have HIJ := Lib.hid hij; have HI := Lib.hid hi; have HJ := Lib.hid hj
    have H1 := Lib.hid B1; have H2 := Lib.hid B2; have HX := Lib.hid hx
    clear B1 B2 hx hij hi hj
    go_wp2_with fail
    go_loopw [14] (fun x wx => ∃ k : Nat, x = .int .i64 k ∧ k ≤ 3 ∧ Hid (Ext W wx ∧ Blk wx i (v3mix r a k) 108 ∧ Blk wx j #[.string (qs b.x), .string (qs b.y), .string (qs b.z)] 108)) (fun x _ => 3 - (intOf x).toNat)
    case atStart => exact ⟨0, rfl, by omega, Lib.hid ⟨HX.out, by rw [v3mix_0]; exact H1.out, H2.out⟩⟩
    case round =>
      rename_i wx
      obtain ⟨k, rfl, hk, HH⟩ := hrel
      by_cases hk3 : k < 3
      · have hix : ∀ (w : World) (b : Nat), (Instr.indexAt 108 (.pointer (some ⟨b, 0, none⟩)) (.int .i64 (k : Int))).run Tryz.prog w = .ok (.pointer (some ⟨b, k, none⟩)) w := fun w b => tri_index w b k hk3
        have c0 := HH.out.2.1.drew.cell k (v3mix_at hk3); have k0 := HH.out.2.2.drew.cell k (v3cells_at hk3)
        go_upto_region 5 with fail
        go_region_with (first
          | (go_at_call 93; refine (rsub_c (v3at a k) (v3at b k) _ (HG.out.ext (HEW.out.trans HH.out.1.drew)) (HA.out.at k) (HB.out.at k) (by omega) (by omega)).mono ?_; rintro e w1 ⟨rfl, e0⟩; have R := HH.out.2.1.drew.ext e0; have d0 := R.cell k (v3mix_at hk3); have f0 := R.free k; have HR := Lib.hid R; clear R))
        all_goals
          have HN : Hid (Ext W (w1.setCell ⟨i, k, none⟩ (.string (qs ((v3at a k) - (v3at b k))))) ∧ Blk (w1.setCell ⟨i, k, none⟩ (.string (qs ((v3at a k) - (v3at b k))))) i (v3mix r a (k + 1)) 108 ∧ Blk (w1.setCell ⟨i, k, none⟩ (.string (qs ((v3at a k) - (v3at b k))))) j #[.string (qs b.x), .string (qs b.y), .string (qs b.z)] 108) :=
            Lib.hid ⟨(HH.out.1.drew.trans e0).setCell (p := ⟨i, k, none⟩) HI.out _, by rw [← v3mix_set hk3 (HAT.out k)]; exact HR.out.set k _, (HH.out.2.2.drew.ext e0).other (a := ⟨i, k, none⟩) _ (fun h => HIJ.out h.symm)⟩
          clear c0 d0 f0 k0 HR
          go_wp2_with fail
          go_roundw
          case rel => exact ⟨k + 1, by go_num, by omega, HN⟩
          case measure => simp [intOf]; omega
      · obtain rfl : k = 3 := by omega
        have h3 := HH.out.2.1
        rw [v3mix_3] at h3
        have c0 := h3.cell 0 rfl; have c1 := h3.cell 1 rfl; have c2 := h3.cell 2 rfl
        have RR := HB2.out.ext HH.out.1
        have r0 := RR.cell 0 rfl; have r1 := RR.cell 1 rfl; have r2 := RR.cell 2 rfl; have q0 := RR.free 0; have q1 := RR.free 1; have q2 := RR.free 2
        have HRR := Lib.hid RR
        clear RR h3 hk3
        go_wp2
        refine wp_name (fun W' => Ext w W' ∧ Blk W' (w.heap.size + 1 + 1) #[.string (qs r.x), .string (qs r.y), .string (qs r.z)] 108) ⟨((((HEW.out.trans HH.out.1).setCell (by simp only []; omega) _).setCell (by simp only []; omega) _).setCell (by simp only []; omega) _), ((HRR.out.set 0 _).set 1 _).set 2 _⟩ ?_
        clear c0 c1 c2 r0 r1 r2 q0 q1 q2
        rintro W' ⟨ex, R3⟩
        have g0 := R3.cell 0 rfl; have g1 := R3.cell 1 rfl; have g2 := R3.cell 2 rfl
        refine bodyPost_ret (v := .agg #[.string (qs r.x), .string (qs r.y), .string (qs r.z)]) (by simp [results, Tryz.results88, go_sem, g0, g1, g2]) rfl ⟨rfl, ex⟩
end Go.Proofs.YtglppcmegocphaaGreatDoor

namespace Go.Proofs.YtglppcmegocphaaGreatDoor
open Go Go.RowKit
set_option maxRecDepth 100000 in
set_option maxHeartbeats 4000000 in
theorem each_mul (a b : V3) {k m : Nat} (w : World) (g : Gd w) (ha : VB k a) (hb : VB m b) (hk : k ≤ 3000) (hm : m ≤ 3000) : Calls Tryz.prog 88 #[vv a, vv b, .func (.func 95) #[] #[]] w (Ret w (vv ⟨a.x * b.x, a.y * b.y, a.z * b.z⟩)) := by
  have HG := Lib.hid g
  have HA := Lib.hid ha
  have HB := Lib.hid hb
  clear g ha hb
  obtain ⟨r, hr⟩ : ∃ r : V3, r = ⟨a.x * b.x, a.y * b.y, a.z * b.z⟩ := ⟨_, rfl⟩
  have hat : ∀ k : Nat, (v3at a k) * (v3at b k) = v3at r k := by intro k; rw [hr]; unfold v3at; split <;> (try split) <;> rfl
  have HAT := Lib.hid hat; have HR0 := Lib.hid hr
  rw [show (⟨a.x * b.x, a.y * b.y, a.z * b.z⟩ : V3) = r from hr.symm]
  clear hat hr
  go_enter Tryz.func88, Tryz.ntmps88
  go_wp2_with fail
  refine wp_name (fun W => Ext w W ∧ Blk W w.heap.size #[.string (qs a.x), .string (qs a.y), .string (qs a.z)] 30 ∧ Blk W (w.heap.size + 1) #[.string (qs b.x), .string (qs b.y), .string (qs b.z)] 30 ∧ Blk W (w.heap.size + 1 + 1) #[.string ⟨#[]⟩, .string ⟨#[]⟩, .string ⟨#[]⟩] 108) ⟨(((Ext.refl _).alloc _).alloc _).alloc _, ((Blk.new' rfl).alloc _).alloc _, (Blk.new' (by first | rfl | simp)).alloc _, Blk.new' (by first | rfl | simp)⟩ ?_
  rintro W ⟨ew, b0, b1, b2⟩
  have HC := Lib.hid (And.intro (b0.cell 0 rfl) (And.intro (b0.cell 1 rfl) (And.intro (b0.cell 2 rfl) (And.intro (b1.cell 0 rfl) (And.intro (b1.cell 1 rfl) (b1.cell 2 rfl))))))
  have HEW := Lib.hid ew; have HB2 := Lib.hid b2
  clear b0 b1 b2 ew
  go_cut [7, 8] from 10 to 13 (fun p q wx => ∃ i j : Nat, p = .pointer (some ⟨i, 0, none⟩) ∧ q = .pointer (some ⟨j, 0, none⟩) ∧ i ≠ j ∧ W.heap.size ≤ i ∧ W.heap.size ≤ j ∧ Ext W wx ∧ Blk wx i #[.string (qs a.x), .string (qs a.y), .string (qs a.z)] 108 ∧ Blk wx j #[.string (qs b.x), .string (qs b.y), .string (qs b.z)] 108)
  case first =>
    go_region_held3 (fun w' => w'.cell? ⟨w.heap.size, 0, none⟩ = some (.string (qs a.x)) ∧ w'.cell? ⟨w.heap.size, 1, none⟩ = some (.string (qs a.y)) ∧ w'.cell? ⟨w.heap.size, 2, none⟩ = some (.string (qs a.z)) ∧ w'.cell? ⟨w.heap.size + 1, 0, none⟩ = some (.string (qs b.x)) ∧ w'.cell? ⟨w.heap.size + 1, 1, none⟩ = some (.string (qs b.y)) ∧ w'.cell? ⟨w.heap.size + 1, 2, none⟩ = some (.string (qs b.z)))
      (exact keepsH6 (by repeat (first | exact Ext.refl _ | apply Ext.drew | apply Ext.alloc | (refine Ext.setCell ?_ (by simp) _))) HC.out) (first
      | (go_at_call 69; ((with_reducible refine (list_e ⟨qs a.x, qs a.y, qs a.z⟩ _).mono ?_); rintro e w' ⟨rfl, rfl⟩))
      | (go_at_call 69; refine (list_e ⟨qs b.x, qs b.y, qs b.z⟩ _).mono ?_; rintro e w' ⟨rfl, rfl⟩))
    all_goals (go_wp2; go_meet)
    all_goals (refine ⟨_, _, rfl, rfl, by omega, by omega, by omega, by (repeat (first | exact Ext.refl _ | apply Ext.drew | apply Ext.alloc | (refine Ext.setCell ?_ (by simp) _))), ?_, ?_⟩)
    all_goals (repeat (first | (refine Blk.new' ?_; first | rfl | (simp only [World.size_alloc]; done) | (simp only [World.size_alloc]; omega)) | apply Blk.alloc | apply Blk.drew))
  case rest =>
    obtain ⟨i, j, rfl, rfl, hij, hi, hj, hx, B1, B2⟩ := hcut
    have HIJ := Lib.hid hij; have HI := Lib.hid hi; have HJ := Lib.hid hj
    have H1 := Lib.hid B1; have H2 := Lib.hid B2; have HX := Lib.hid hx
    clear B1 B2 hx hij hi hj
    go_wp2_with fail
    go_loopw [14] (fun x wx => ∃ k : Nat, x = .int .i64 k ∧ k ≤ 3 ∧ Hid (Ext W wx ∧ Blk wx i (v3mix r a k) 108 ∧ Blk wx j #[.string (qs b.x), .string (qs b.y), .string (qs b.z)] 108)) (fun x _ => 3 - (intOf x).toNat)
    case atStart => exact ⟨0, rfl, by omega, Lib.hid ⟨HX.out, by rw [v3mix_0]; exact H1.out, H2.out⟩⟩
    case round =>
      rename_i wx
      obtain ⟨k, rfl, hk, HH⟩ := hrel
      by_cases hk3 : k < 3
      · have hix : ∀ (w : World) (b : Nat), (Instr.indexAt 108 (.pointer (some ⟨b, 0, none⟩)) (.int .i64 (k : Int))).run Tryz.prog w = .ok (.pointer (some ⟨b, k, none⟩)) w := fun w b => tri_index w b k hk3
        have c0 := HH.out.2.1.drew.cell k (v3mix_at hk3); have k0 := HH.out.2.2.drew.cell k (v3cells_at hk3)
        go_upto_region 5 with fail
        go_region_with (first
          | (go_at_call 95; refine (rmul_c (v3at a k) (v3at b k) _ (HG.out.ext (HEW.out.trans HH.out.1.drew)) (HA.out.at k) (HB.out.at k) (by omega) (by omega)).mono ?_; rintro e w1 ⟨rfl, e0⟩; have R := HH.out.2.1.drew.ext e0; have d0 := R.cell k (v3mix_at hk3); have f0 := R.free k; have HR := Lib.hid R; clear R))
        all_goals
          have HN : Hid (Ext W (w1.setCell ⟨i, k, none⟩ (.string (qs ((v3at a k) * (v3at b k))))) ∧ Blk (w1.setCell ⟨i, k, none⟩ (.string (qs ((v3at a k) * (v3at b k))))) i (v3mix r a (k + 1)) 108 ∧ Blk (w1.setCell ⟨i, k, none⟩ (.string (qs ((v3at a k) * (v3at b k))))) j #[.string (qs b.x), .string (qs b.y), .string (qs b.z)] 108) :=
            Lib.hid ⟨(HH.out.1.drew.trans e0).setCell (p := ⟨i, k, none⟩) HI.out _, by rw [← v3mix_set hk3 (HAT.out k)]; exact HR.out.set k _, (HH.out.2.2.drew.ext e0).other (a := ⟨i, k, none⟩) _ (fun h => HIJ.out h.symm)⟩
          clear c0 d0 f0 k0 HR
          go_wp2_with fail
          go_roundw
          case rel => exact ⟨k + 1, by go_num, by omega, HN⟩
          case measure => simp [intOf]; omega
      · obtain rfl : k = 3 := by omega
        have h3 := HH.out.2.1
        rw [v3mix_3] at h3
        have c0 := h3.cell 0 rfl; have c1 := h3.cell 1 rfl; have c2 := h3.cell 2 rfl
        have RR := HB2.out.ext HH.out.1
        have r0 := RR.cell 0 rfl; have r1 := RR.cell 1 rfl; have r2 := RR.cell 2 rfl; have q0 := RR.free 0; have q1 := RR.free 1; have q2 := RR.free 2
        have HRR := Lib.hid RR
        clear RR h3 hk3
        go_wp2
        refine wp_name (fun W' => Ext w W' ∧ Blk W' (w.heap.size + 1 + 1) #[.string (qs r.x), .string (qs r.y), .string (qs r.z)] 108) ⟨((((HEW.out.trans HH.out.1).setCell (by simp only []; omega) _).setCell (by simp only []; omega) _).setCell (by simp only []; omega) _), ((HRR.out.set 0 _).set 1 _).set 2 _⟩ ?_
        clear c0 c1 c2 r0 r1 r2 q0 q1 q2
        rintro W' ⟨ex, R3⟩
        have g0 := R3.cell 0 rfl; have g1 := R3.cell 1 rfl; have g2 := R3.cell 2 rfl
        refine bodyPost_ret (v := .agg #[.string (qs r.x), .string (qs r.y), .string (qs r.z)]) (by simp [results, Tryz.results88, go_sem, g0, g1, g2]) rfl ⟨rfl, ex⟩
end Go.Proofs.YtglppcmegocphaaGreatDoor

namespace Go.Proofs.YtglppcmegocphaaGreatDoor
open Go Go.RowKit
set_option maxRecDepth 100000 in
set_option maxHeartbeats 2000000 in
theorem scale1_c (x y q : Rat) (cb : Nat) {k m : Nat} (w : World) (g : Gd w) (hx : QB k x) (hq : QB m q) (hcb : Blk w cb #[.string (qs q)] 28) (hk : k ≤ 3000) (hm : m ≤ 3000) : Calls Tryz.prog 122 #[.string (qs x), .string (qs y), .pointer (some ⟨cb, 0, none⟩)] w (Ret w (.string (qs (x * q)))) := by
  have HG := Lib.hid g
  have HX0 := Lib.hid hx
  have HQ := Lib.hid hq
  have HCB := Lib.hid hcb
  clear g hx hq hcb
  go_enter Tryz.func122, Tryz.ntmps122
  have cP_0 := HCB.out.cell 0 rfl
  go_wp2_with fail
  refine (rmul_c x q _ (HG.out.ext (Ext.refl w)) HX0.out HQ.out (by omega) (by omega)).mono ?_; rintro e w1 ⟨rfl, e1⟩
  have HX1 : Hid (Ext w w1) := Lib.hid ((Ext.refl w).trans e1)
  clear e1 cP_0
  go_wp2
  go_ret
  exact ⟨rfl, HX1.out⟩

set_option maxRecDepth 100000 in
set_option maxHeartbeats 4000000 in
theorem each_scale (a b : V3) (q : Rat) (cb : Nat) {k m n : Nat} (w : World) (g : Gd w) (ha : VB k a) (hb : VB m b) (hq : QB n q) (hcb : Blk w cb #[.string (qs q)] 28) (hk : k ≤ 3000) (hn : n ≤ 3000) : Calls Tryz.prog 88 #[vv a, vv b, .func (.func 122) #[] #[.pointer (some ⟨cb, 0, none⟩)]] w (Ret w (vv ⟨a.x * q, a.y * q, a.z * q⟩)) := by
  have HG := Lib.hid g
  have HA := Lib.hid ha
  have HB := Lib.hid hb
  have HQ := Lib.hid hq
  have HCB := Lib.hid hcb
  clear g ha hb hq hcb
  obtain ⟨r, hr⟩ : ∃ r : V3, r = ⟨a.x * q, a.y * q, a.z * q⟩ := ⟨_, rfl⟩
  have hat : ∀ k : Nat, (v3at a k) * q = v3at r k := by intro k; rw [hr]; unfold v3at; split <;> (try split) <;> rfl
  have HAT := Lib.hid hat; have HR0 := Lib.hid hr
  rw [show (⟨a.x * q, a.y * q, a.z * q⟩ : V3) = r from hr.symm]
  clear hat hr
  go_enter Tryz.func88, Tryz.ntmps88
  go_wp2_with fail
  refine wp_name (fun W => Ext w W ∧ Blk W w.heap.size #[.string (qs a.x), .string (qs a.y), .string (qs a.z)] 30 ∧ Blk W (w.heap.size + 1) #[.string (qs b.x), .string (qs b.y), .string (qs b.z)] 30 ∧ Blk W (w.heap.size + 1 + 1) #[.string ⟨#[]⟩, .string ⟨#[]⟩, .string ⟨#[]⟩] 108) ⟨(((Ext.refl _).alloc _).alloc _).alloc _, ((Blk.new' rfl).alloc _).alloc _, (Blk.new' (by first | rfl | simp)).alloc _, Blk.new' (by first | rfl | simp)⟩ ?_
  rintro W ⟨ew, b0, b1, b2⟩
  have HC := Lib.hid (And.intro (b0.cell 0 rfl) (And.intro (b0.cell 1 rfl) (And.intro (b0.cell 2 rfl) (And.intro (b1.cell 0 rfl) (And.intro (b1.cell 1 rfl) (b1.cell 2 rfl))))))
  have HEW := Lib.hid ew; have HB2 := Lib.hid b2
  clear b0 b1 b2 ew
  go_cut [7, 8] from 10 to 13 (fun p q wx => ∃ i j : Nat, p = .pointer (some ⟨i, 0, none⟩) ∧ q = .pointer (some ⟨j, 0, none⟩) ∧ i ≠ j ∧ W.heap.size ≤ i ∧ W.heap.size ≤ j ∧ Ext W wx ∧ Blk wx i #[.string (qs a.x), .string (qs a.y), .string (qs a.z)] 108 ∧ Blk wx j #[.string (qs b.x), .string (qs b.y), .string (qs b.z)] 108)
  case first =>
    go_region_held3 (fun w' => w'.cell? ⟨w.heap.size, 0, none⟩ = some (.string (qs a.x)) ∧ w'.cell? ⟨w.heap.size, 1, none⟩ = some (.string (qs a.y)) ∧ w'.cell? ⟨w.heap.size, 2, none⟩ = some (.string (qs a.z)) ∧ w'.cell? ⟨w.heap.size + 1, 0, none⟩ = some (.string (qs b.x)) ∧ w'.cell? ⟨w.heap.size + 1, 1, none⟩ = some (.string (qs b.y)) ∧ w'.cell? ⟨w.heap.size + 1, 2, none⟩ = some (.string (qs b.z)))
      (exact keepsH6 (by repeat (first | exact Ext.refl _ | apply Ext.drew | apply Ext.alloc | (refine Ext.setCell ?_ (by simp) _))) HC.out) (first
      | (go_at_call 69; ((with_reducible refine (list_e ⟨qs a.x, qs a.y, qs a.z⟩ _).mono ?_); rintro e w' ⟨rfl, rfl⟩))
      | (go_at_call 69; refine (list_e ⟨qs b.x, qs b.y, qs b.z⟩ _).mono ?_; rintro e w' ⟨rfl, rfl⟩))
    all_goals (go_wp2; go_meet)
    all_goals (refine ⟨_, _, rfl, rfl, by omega, by omega, by omega, by (repeat (first | exact Ext.refl _ | apply Ext.drew | apply Ext.alloc | (refine Ext.setCell ?_ (by simp) _))), ?_, ?_⟩)
    all_goals (repeat (first | (refine Blk.new' ?_; first | rfl | (simp only [World.size_alloc]; done) | (simp only [World.size_alloc]; omega)) | apply Blk.alloc | apply Blk.drew))
  case rest =>
    obtain ⟨i, j, rfl, rfl, hij, hi, hj, hx, B1, B2⟩ := hcut
    have HIJ := Lib.hid hij; have HI := Lib.hid hi; have HJ := Lib.hid hj
    have H1 := Lib.hid B1; have H2 := Lib.hid B2; have HX := Lib.hid hx
    clear B1 B2 hx hij hi hj
    go_wp2_with fail
    go_loopw [14] (fun x wx => ∃ k : Nat, x = .int .i64 k ∧ k ≤ 3 ∧ Hid (Ext W wx ∧ Blk wx i (v3mix r a k) 108 ∧ Blk wx j #[.string (qs b.x), .string (qs b.y), .string (qs b.z)] 108)) (fun x _ => 3 - (intOf x).toNat)
    case atStart => exact ⟨0, rfl, by omega, Lib.hid ⟨HX.out, by rw [v3mix_0]; exact H1.out, H2.out⟩⟩
    case round =>
      rename_i wx
      obtain ⟨k, rfl, hk, HH⟩ := hrel
      by_cases hk3 : k < 3
      · have hix : ∀ (w : World) (b : Nat), (Instr.indexAt 108 (.pointer (some ⟨b, 0, none⟩)) (.int .i64 (k : Int))).run Tryz.prog w = .ok (.pointer (some ⟨b, k, none⟩)) w := fun w b => tri_index w b k hk3
        have c0 := HH.out.2.1.drew.cell k (v3mix_at hk3); have k0 := HH.out.2.2.drew.cell k (v3cells_at hk3)
        go_upto_region 5 with fail
        go_region_with (first
          | (go_at_call 122; refine (scale1_c (v3at a k) (v3at b k) q cb _ (HG.out.ext (HEW.out.trans HH.out.1.drew)) (HA.out.at k) HQ.out (HCB.out.ext (HEW.out.trans HH.out.1.drew)) (by omega) (by omega)).mono ?_; rintro e w1 ⟨rfl, e0⟩; have R := HH.out.2.1.drew.ext e0; have d0 := R.cell k (v3mix_at hk3); have f0 := R.free k; have HR := Lib.hid R; clear R))
        all_goals
          have HN : Hid (Ext W (w1.setCell ⟨i, k, none⟩ (.string (qs ((v3at a k) * q)))) ∧ Blk (w1.setCell ⟨i, k, none⟩ (.string (qs ((v3at a k) * q)))) i (v3mix r a (k + 1)) 108 ∧ Blk (w1.setCell ⟨i, k, none⟩ (.string (qs ((v3at a k) * q)))) j #[.string (qs b.x), .string (qs b.y), .string (qs b.z)] 108) :=
            Lib.hid ⟨(HH.out.1.drew.trans e0).setCell (p := ⟨i, k, none⟩) HI.out _, by rw [← v3mix_set hk3 (HAT.out k)]; exact HR.out.set k _, (HH.out.2.2.drew.ext e0).other (a := ⟨i, k, none⟩) _ (fun h => HIJ.out h.symm)⟩
          clear c0 d0 f0 k0 HR
          go_wp2_with fail
          go_roundw
          case rel => exact ⟨k + 1, by go_num, by omega, HN⟩
          case measure => simp [intOf]; omega
      · obtain rfl : k = 3 := by omega
        have h3 := HH.out.2.1
        rw [v3mix_3] at h3
        have c0 := h3.cell 0 rfl; have c1 := h3.cell 1 rfl; have c2 := h3.cell 2 rfl
        have RR := HB2.out.ext HH.out.1
        have r0 := RR.cell 0 rfl; have r1 := RR.cell 1 rfl; have r2 := RR.cell 2 rfl; have q0 := RR.free 0; have q1 := RR.free 1; have q2 := RR.free 2
        have HRR := Lib.hid RR
        clear RR h3 hk3
        go_wp2
        refine wp_name (fun W' => Ext w W' ∧ Blk W' (w.heap.size + 1 + 1) #[.string (qs r.x), .string (qs r.y), .string (qs r.z)] 108) ⟨((((HEW.out.trans HH.out.1).setCell (by simp only []; omega) _).setCell (by simp only []; omega) _).setCell (by simp only []; omega) _), ((HRR.out.set 0 _).set 1 _).set 2 _⟩ ?_
        clear c0 c1 c2 r0 r1 r2 q0 q1 q2
        rintro W' ⟨ex, R3⟩
        have g0 := R3.cell 0 rfl; have g1 := R3.cell 1 rfl; have g2 := R3.cell 2 rfl
        refine bodyPost_ret (v := .agg #[.string (qs r.x), .string (qs r.y), .string (qs r.z)]) (by simp [results, Tryz.results88, go_sem, g0, g1, g2]) rfl ⟨rfl, ex⟩
end Go.Proofs.YtglppcmegocphaaGreatDoor

namespace Go.Proofs.YtglppcmegocphaaGreatDoor
open Go Go.RowKit
theorem vzero_t (v : V3) (w : World) (h : v.x = 0 ∧ v.y = 0 ∧ v.z = 0) : Calls Tryz.prog 68 #[vv v] w (Ret w (.bool true)) := by
  have := vzero_c v w; rwa [decide_eq_true h] at this
theorem vzero_f (v : V3) (w : World) (h : ¬ (v.x = 0 ∧ v.y = 0 ∧ v.z = 0)) : Calls Tryz.prog 68 #[vv v] w (Ret w (.bool false)) := by
  have := vzero_c v w; rwa [decide_eq_false h] at this
theorem szero_t (v : V3) (w : World) (h : v.x = 0 ∧ v.y = 0 ∧ v.z = 0) : Calls Tryz.prog 16 #[vv v] w (Ret w (.bool true)) := by
  have := szero_c v w; rwa [decide_eq_true h] at this
theorem szero_f (v : V3) (w : World) (h : ¬ (v.x = 0 ∧ v.y = 0 ∧ v.z = 0)) : Calls Tryz.prog 16 #[vv v] w (Ret w (.bool false)) := by
  have := szero_c v w; rwa [decide_eq_false h] at this

/-- Are three numbers 0? -/
def z3 (x y z : Rat) : Bool := decide (x = 0 ∧ y = 0 ∧ z = 0)
set_option maxRecDepth 100000 in
set_option maxHeartbeats 2000000 in
theorem vminor_c (a b c d : Rat) {k m n o : Nat} (w : World) (g : Gd w) (ha : QB k a) (hb : QB m b) (hc : QB n c) (hd : QB o d) (hk : k ≤ 1400) (hm : m ≤ 1400) (hn : n ≤ 1400) (ho : o ≤ 1400) : Calls Tryz.prog 85 #[.string (qs a), .string (qs b), .string (qs c), .string (qs d)] w (Ret w (.string (qs (a * d - b * c)))) := by
  have HA := Lib.hid ha
  have HB := Lib.hid hb
  have HC := Lib.hid hc
  have HD := Lib.hid hd
  have HG := Lib.hid g
  clear ha hb hc hd g
  go_enter Tryz.func85, Tryz.ntmps85
  go_wp2_with fail
  refine (rmul_c a d _ (HG.out.ext (Ext.refl w)) HA.out HD.out (by omega) (by omega)).mono ?_; rintro e w1 ⟨rfl, e1⟩
  have HX1 : Hid (Ext w w1) := Lib.hid ((Ext.refl w).trans e1)
  clear e1
  go_wp2_with fail
  refine (rmul_c b c _ (HG.out.ext HX1.out) HB.out HC.out (by omega) (by omega)).mono ?_; rintro e w2 ⟨rfl, e2⟩
  have HX2 : Hid (Ext w w2) := Lib.hid (HX1.out.trans e2)
  clear e2
  go_wp2_with fail
  refine (rsub_c (a * d) (b * c) _ (HG.out.ext HX2.out) (HA.out.mul HD.out) (HB.out.mul HC.out) (by omega) (by omega)).mono ?_; rintro e w3 ⟨rfl, e3⟩
  have HX3 : Hid (Ext w w3) := Lib.hid (HX2.out.trans e3)
  clear e3
  go_wp2
  go_ret
  exact ⟨rfl, HX3.out⟩

set_option maxRecDepth 100000 in
set_option maxHeartbeats 2000000 in
theorem vcross0_c (a b : V3) {k m : Nat} (w : World) (g : Gd w) (ha : VB k a) (hb : VB m b) (hk : k ≤ 900) (hm : m ≤ 900) : Calls Tryz.prog 83 #[.agg #[.string (qs a.x), .string (qs a.y), .string (qs a.z)], .agg #[.string (qs b.x), .string (qs b.y), .string (qs b.z)]] w (Ret w (.agg #[.string (qs (a.y * b.z - a.z * b.y)), .string (qs (a.z * b.x - a.x * b.z)), .string (qs (a.x * b.y - a.y * b.x))])) := by
  have HA := Lib.hid ha
  have HB := Lib.hid hb
  have HG := Lib.hid g
  clear ha hb g
  go_enter Tryz.func83, Tryz.ntmps83
  go_wp2_with fail
  refine wp_name (fun W => Ext w W ∧ Blk W (w.heap.size) #[.string (qs a.x), .string (qs a.y), .string (qs a.z)] 30 ∧ Blk W (w.heap.size + 1) #[.string (qs b.x), .string (qs b.y), .string (qs b.z)] 30 ∧ Blk W (w.heap.size + 1 + 1) #[.string ⟨#[]⟩, .string ⟨#[]⟩, .string ⟨#[]⟩] 30) ⟨((((Ext.refl w).alloc _).alloc _).alloc _), (((Blk.new' (w := _) (cs := #[.string (qs a.x), .string (qs a.y), .string (qs a.z)]) (t := 30) (by first | rfl | (simp only [World.size_alloc]; done) | (simp only [World.size_alloc]; omega) | simp)).alloc _).alloc _), ((Blk.new' (w := _) (cs := #[.string (qs b.x), .string (qs b.y), .string (qs b.z)]) (t := 30) (by first | rfl | (simp only [World.size_alloc]; done) | (simp only [World.size_alloc]; omega) | simp)).alloc _), (Blk.new' (w := _) (cs := #[.string ⟨#[]⟩, .string ⟨#[]⟩, .string ⟨#[]⟩]) (t := 30) (by first | rfl | (simp only [World.size_alloc]; done) | (simp only [World.size_alloc]; omega) | simp))⟩ ?_
  rintro w1 ⟨e1, bB0_1, bB1_1, bB2_1⟩
  have HX1 := Lib.hid e1; have HB0_1 := Lib.hid bB0_1; have HB1_1 := Lib.hid bB1_1; have HB2_1 := Lib.hid bB2_1
  have HGEB0 : Hid (w.heap.size ≤ w.heap.size) := Lib.hid (by first | omega | (simp only []; omega) | (simp; omega))
  have HGEB1 : Hid (w.heap.size ≤ w.heap.size + 1) := Lib.hid (by first | omega | (simp only []; omega) | (simp; omega))
  have HGEB2 : Hid (w.heap.size ≤ w.heap.size + 1 + 1) := Lib.hid (by first | omega | (simp only []; omega) | (simp; omega))
  clear e1 bB0_1 bB1_1 bB2_1
  have hS1 : w1.cell? ⟨w.heap.size, 1, none⟩ = some (.string (qs a.y)) ∧ w1.cell? ⟨w.heap.size, 2, none⟩ = some (.string (qs a.z)) ∧ w1.cell? ⟨w.heap.size + 1, 1, none⟩ = some (.string (qs b.y)) ∧ w1.cell? ⟨w.heap.size + 1, 2, none⟩ = some (.string (qs b.z)) ∧ w1.cell? ⟨w.heap.size, 0, none⟩ = some (.string (qs a.x)) ∧ w1.cell? ⟨w.heap.size + 1, 0, none⟩ = some (.string (qs b.x)) := ⟨HB0_1.out.cell 1 rfl, HB0_1.out.cell 2 rfl, HB1_1.out.cell 1 rfl, HB1_1.out.cell 2 rfl, HB0_1.out.cell 0 rfl, HB1_1.out.cell 0 rfl⟩
  have HS1 := Lib.hid hS1; clear hS1
  go_region_held3 (fun w' => w'.cell? ⟨w.heap.size, 1, none⟩ = some (.string (qs a.y)) ∧ w'.cell? ⟨w.heap.size, 2, none⟩ = some (.string (qs a.z)) ∧ w'.cell? ⟨w.heap.size + 1, 1, none⟩ = some (.string (qs b.y)) ∧ w'.cell? ⟨w.heap.size + 1, 2, none⟩ = some (.string (qs b.z)) ∧ w'.cell? ⟨w.heap.size, 0, none⟩ = some (.string (qs a.x)) ∧ w'.cell? ⟨w.heap.size + 1, 0, none⟩ = some (.string (qs b.x)))
    (((try simp only [cell_set_ne (show w.heap.size ≠ w.heap.size + 1 + 1 from by first | omega | (simp only []; omega) | (simp; omega)), cell_set_ne (show w.heap.size + 1 ≠ w.heap.size + 1 + 1 from by first | omega | (simp only []; omega) | (simp; omega))]); exact keepsH6 (by repeat (first | assumption | exact Ext.refl _ | apply Ext.drew | apply Ext.alloc | (refine Ext.setCell ?_ (by first | omega | (simp only []; omega) | (simp; omega)) _) | (refine Ext.trans ?_ (by assumption)))) HS1.out)) ((first
      | (go_at_call 85; ((with_reducible refine (vminor_c a.y a.z b.y b.z _ (HG.out.ext (HX1.out.trans (by repeat (first | assumption | exact Ext.refl _ | apply Ext.drew | apply Ext.alloc | (refine Ext.setCell ?_ (by first | omega | (simp only []; omega) | (simp; omega)) _) | (refine Ext.trans ?_ (by assumption)))))) HA.out.y HA.out.z HB.out.y HB.out.z (by omega) (by omega) (by omega) (by omega)).mono ?_); rintro e w2 ⟨rfl, e2⟩))
      | (go_at_call 85; ((with_reducible refine (vminor_c a.z a.x b.z b.x _ (HG.out.ext (HX1.out.trans (by repeat (first | assumption | exact Ext.refl _ | apply Ext.drew | apply Ext.alloc | (refine Ext.setCell ?_ (by first | omega | (simp only []; omega) | (simp; omega)) _) | (refine Ext.trans ?_ (by assumption)))))) HA.out.z HA.out.x HB.out.z HB.out.x (by omega) (by omega) (by omega) (by omega)).mono ?_); rintro e w3 ⟨rfl, e3⟩))
      | (go_at_call 85; ((with_reducible refine (vminor_c a.x a.y b.x b.y _ (HG.out.ext (HX1.out.trans (by repeat (first | assumption | exact Ext.refl _ | apply Ext.drew | apply Ext.alloc | (refine Ext.setCell ?_ (by first | omega | (simp only []; omega) | (simp; omega)) _) | (refine Ext.trans ?_ (by assumption)))))) HA.out.x HA.out.y HB.out.x HB.out.y (by omega) (by omega) (by omega) (by omega)).mono ?_); rintro e w4 ⟨rfl, e4⟩; have RB2 := Blk.ext HB2_1.out (w' := w4) (by repeat (first | assumption | exact Ext.refl _ | apply Ext.drew | (refine Ext.trans ?_ (by assumption)))); have cB2_0 := RB2.cell 0 rfl; have fB2_0 := RB2.free 0; have cB2_1 := RB2.cell 1 rfl; have fB2_1 := RB2.free 1; have cB2_2 := RB2.cell 2 rfl; have fB2_2 := RB2.free 2; have HRB2 := Lib.hid RB2; clear RB2))))
  refine wp_name (fun W => Ext w W ∧ Blk W (w.heap.size + 1 + 1) #[.string (qs (a.y * b.z - a.z * b.y)), .string (qs (a.z * b.x - a.x * b.z)), .string (qs (a.x * b.y - a.y * b.x))] 30) ⟨((((HX1.out.trans ((((Ext.refl _).drew.trans e2).trans e3).trans e4)).setCell (by have := HGEB2.out; first | omega | (simp only []; omega) | (simp; omega)) _).setCell (by have := HGEB2.out; first | omega | (simp only []; omega) | (simp; omega)) _).setCell (by have := HGEB2.out; first | omega | (simp only []; omega) | (simp; omega)) _), ((((Blk.ext HB2_1.out ((((Ext.refl _).drew.trans e2).trans e3).trans e4)).set 0 (.string (qs (a.y * b.z - a.z * b.y)))).set 1 (.string (qs (a.z * b.x - a.x * b.z)))).set 2 (.string (qs (a.x * b.y - a.y * b.x))))⟩ ?_
  clear cB2_0 fB2_0 cB2_1 fB2_1 cB2_2 fB2_2
  rintro w5 ⟨e5, bB2_5⟩
  have HX5 := Lib.hid e5; have HB2_5 := Lib.hid bB2_5
  clear e5 bB2_5
  go_wp2_with fail
  have gB2_0 := HB2_5.out.cell 0 rfl
  have gB2_1 := HB2_5.out.cell 1 rfl
  have gB2_2 := HB2_5.out.cell 2 rfl
  refine bodyPost_ret (v := .agg #[.string (qs (a.y * b.z - a.z * b.y)), .string (qs (a.z * b.x - a.x * b.z)), .string (qs (a.x * b.y - a.y * b.x))]) (by simp [results, Tryz.results83, go_sem, gB2_0, gB2_1, gB2_2]) rfl ⟨rfl, HX5.out⟩

set_option maxRecDepth 100000 in
set_option maxHeartbeats 2000000 in
theorem vdot0_c (a b : V3) {k m : Nat} (w : World) (g : Gd w) (ha : VB k a) (hb : VB m b) (hk : k + m ≤ 1490) (hm : m ≤ 1490) : Calls Tryz.prog 87 #[.agg #[.string (qs a.x), .string (qs a.y), .string (qs a.z)], .agg #[.string (qs b.x), .string (qs b.y), .string (qs b.z)]] w (Ret w (.string (qs (a.x * b.x + a.y * b.y + a.z * b.z)))) := by
  have HA := Lib.hid ha
  have HB := Lib.hid hb
  have HG := Lib.hid g
  clear ha hb g
  go_enter Tryz.func87, Tryz.ntmps87
  go_wp2_with fail
  refine (each_mul a b _ (HG.out.ext (((Ext.refl w).alloc _).alloc _)) HA.out HB.out (by omega) (by omega)).mono ?_; rintro e w1 ⟨rfl, e1⟩
  have HX1 : Hid (Ext w w1) := Lib.hid ((((Ext.refl w).alloc _).alloc _).trans e1)
  clear e1
  go_wp2_with fail
  refine (sum3_c (k := k + m) (a.x * b.x) (a.y * b.y) (a.z * b.z) (w1.heap.size) _ (HG.out.ext (HX1.out.alloc _)) (HA.out.x.mul HB.out.x) (HA.out.y.mul HB.out.y) (HA.out.z.mul HB.out.z) (Blk.new' (w := _) (cs := #[.string (qs (a.x * b.x)), .string (qs (a.y * b.y)), .string (qs (a.z * b.z))]) (t := 108) (by first | rfl | (simp only [World.size_alloc]; done) | (simp only [World.size_alloc]; omega) | simp)) (by omega)).mono ?_; rintro e w2 ⟨rfl, e2⟩
  have HX2 : Hid (Ext w w2) := Lib.hid ((HX1.out.alloc _).trans e2)
  have HB2_2 : Hid (Blk w2 (w1.heap.size) #[.string (qs (a.x * b.x)), .string (qs (a.y * b.y)), .string (qs (a.z * b.z))] 108) := Lib.hid (Blk.ext (Blk.new' (w := _) (cs := #[.string (qs (a.x * b.x)), .string (qs (a.y * b.y)), .string (qs (a.z * b.z))]) (t := 108) (by first | rfl | (simp only [World.size_alloc]; done) | (simp only [World.size_alloc]; omega) | simp)) e2)
  have HGEB2 : Hid (w.heap.size ≤ w1.heap.size) := Lib.hid (by have := HX1.out.size; first | omega | (simp only []; omega) | (simp; omega))
  clear e2
  go_wp2
  go_ret
  exact ⟨rfl, HX2.out⟩

set_option maxRecDepth 100000 in
set_option maxHeartbeats 2000000 in
theorem varea0_c (a b c : P2) {k m n : Nat} (w : World) (g : Gd w) (ha : PB k a) (hb : PB m b) (hc : PB n c) (hk : k ≤ 600) (hm : m ≤ 600) (hn : n ≤ 600) : Calls Tryz.prog 92 #[.agg #[.string (qs a.x), .string (qs a.y)], .agg #[.string (qs b.x), .string (qs b.y)], .agg #[.string (qs c.x), .string (qs c.y)]] w (Ret w (.string (qs ((b.x - a.x) * (c.y - a.y) - (b.y - a.y) * (c.x - a.x))))) := by
  have HA := Lib.hid ha
  have HB := Lib.hid hb
  have HC := Lib.hid hc
  have HG := Lib.hid g
  clear ha hb hc g
  go_enter Tryz.func92, Tryz.ntmps92
  go_wp2_with fail
  refine wp_name (fun W => Ext w W ∧ Blk W (w.heap.size) #[.string (qs a.x), .string (qs a.y)] 62 ∧ Blk W (w.heap.size + 1) #[.string (qs b.x), .string (qs b.y)] 62 ∧ Blk W (w.heap.size + 1 + 1) #[.string (qs c.x), .string (qs c.y)] 62) ⟨((((Ext.refl w).alloc _).alloc _).alloc _), (((Blk.new' (w := _) (cs := #[.string (qs a.x), .string (qs a.y)]) (t := 62) (by first | rfl | (simp only [World.size_alloc]; done) | (simp only [World.size_alloc]; omega) | simp)).alloc _).alloc _), ((Blk.new' (w := _) (cs := #[.string (qs b.x), .string (qs b.y)]) (t := 62) (by first | rfl | (simp only [World.size_alloc]; done) | (simp only [World.size_alloc]; omega) | simp)).alloc _), (Blk.new' (w := _) (cs := #[.string (qs c.x), .string (qs c.y)]) (t := 62) (by first | rfl | (simp only [World.size_alloc]; done) | (simp only [World.size_alloc]; omega) | simp))⟩ ?_
  rintro w1 ⟨e1, bB0_1, bB1_1, bB2_1⟩
  have HX1 := Lib.hid e1; have HB0_1 := Lib.hid bB0_1; have HB1_1 := Lib.hid bB1_1; have HB2_1 := Lib.hid bB2_1
  have HGEB0 : Hid (w.heap.size ≤ w.heap.size) := Lib.hid (by first | omega | (simp only []; omega) | (simp; omega))
  have HGEB1 : Hid (w.heap.size ≤ w.heap.size + 1) := Lib.hid (by first | omega | (simp only []; omega) | (simp; omega))
  have HGEB2 : Hid (w.heap.size ≤ w.heap.size + 1 + 1) := Lib.hid (by first | omega | (simp only []; omega) | (simp; omega))
  clear e1 bB0_1 bB1_1 bB2_1
  have hS1 : w1.cell? ⟨w.heap.size + 1, 0, none⟩ = some (.string (qs b.x)) ∧ w1.cell? ⟨w.heap.size, 0, none⟩ = some (.string (qs a.x)) ∧ w1.cell? ⟨w.heap.size + 1, 1, none⟩ = some (.string (qs b.y)) ∧ w1.cell? ⟨w.heap.size, 1, none⟩ = some (.string (qs a.y)) ∧ w1.cell? ⟨w.heap.size + 1 + 1, 0, none⟩ = some (.string (qs c.x)) ∧ w1.cell? ⟨w.heap.size + 1 + 1, 1, none⟩ = some (.string (qs c.y)) := ⟨HB1_1.out.cell 0 rfl, HB0_1.out.cell 0 rfl, HB1_1.out.cell 1 rfl, HB0_1.out.cell 1 rfl, HB2_1.out.cell 0 rfl, HB2_1.out.cell 1 rfl⟩
  have HS1 := Lib.hid hS1; clear hS1
  go_region_held3 (fun w' => w'.cell? ⟨w.heap.size + 1, 0, none⟩ = some (.string (qs b.x)) ∧ w'.cell? ⟨w.heap.size, 0, none⟩ = some (.string (qs a.x)) ∧ w'.cell? ⟨w.heap.size + 1, 1, none⟩ = some (.string (qs b.y)) ∧ w'.cell? ⟨w.heap.size, 1, none⟩ = some (.string (qs a.y)) ∧ w'.cell? ⟨w.heap.size + 1 + 1, 0, none⟩ = some (.string (qs c.x)) ∧ w'.cell? ⟨w.heap.size + 1 + 1, 1, none⟩ = some (.string (qs c.y)))
    ((exact keepsH6 (by repeat (first | assumption | exact Ext.refl _ | apply Ext.drew | apply Ext.alloc | (refine Ext.setCell ?_ (by first | omega | (simp only []; omega) | (simp; omega)) _) | (refine Ext.trans ?_ (by assumption)))) HS1.out)) ((first
      | (go_at_call 93; ((with_reducible refine (rsub_c b.x a.x _ (HG.out.ext (HX1.out.trans (by repeat (first | assumption | exact Ext.refl _ | apply Ext.drew | apply Ext.alloc | (refine Ext.setCell ?_ (by first | omega | (simp only []; omega) | (simp; omega)) _) | (refine Ext.trans ?_ (by assumption)))))) HB.out.x HA.out.x (by omega) (by omega)).mono ?_); rintro e w2 ⟨rfl, e2⟩))
      | (go_at_call 93; ((with_reducible refine (rsub_c b.y a.y _ (HG.out.ext (HX1.out.trans (by repeat (first | assumption | exact Ext.refl _ | apply Ext.drew | apply Ext.alloc | (refine Ext.setCell ?_ (by first | omega | (simp only []; omega) | (simp; omega)) _) | (refine Ext.trans ?_ (by assumption)))))) HB.out.y HA.out.y (by omega) (by omega)).mono ?_); rintro e w3 ⟨rfl, e3⟩))
      | (go_at_call 93; ((with_reducible refine (rsub_c c.x a.x _ (HG.out.ext (HX1.out.trans (by repeat (first | assumption | exact Ext.refl _ | apply Ext.drew | apply Ext.alloc | (refine Ext.setCell ?_ (by first | omega | (simp only []; omega) | (simp; omega)) _) | (refine Ext.trans ?_ (by assumption)))))) HC.out.x HA.out.x (by omega) (by omega)).mono ?_); rintro e w4 ⟨rfl, e4⟩))
      | (go_at_call 93; ((with_reducible refine (rsub_c c.y a.y _ (HG.out.ext (HX1.out.trans (by repeat (first | assumption | exact Ext.refl _ | apply Ext.drew | apply Ext.alloc | (refine Ext.setCell ?_ (by first | omega | (simp only []; omega) | (simp; omega)) _) | (refine Ext.trans ?_ (by assumption)))))) HC.out.y HA.out.y (by omega) (by omega)).mono ?_); rintro e w5 ⟨rfl, e5⟩))
      | (go_at_call 85; ((with_reducible refine (vminor_c (b.x - a.x) (b.y - a.y) (c.x - a.x) (c.y - a.y) _ (HG.out.ext (HX1.out.trans (by repeat (first | assumption | exact Ext.refl _ | apply Ext.drew | apply Ext.alloc | (refine Ext.setCell ?_ (by first | omega | (simp only []; omega) | (simp; omega)) _) | (refine Ext.trans ?_ (by assumption)))))) (HB.out.x.sub HA.out.x) (HB.out.y.sub HA.out.y) (HC.out.x.sub HA.out.x) (HC.out.y.sub HA.out.y) (by omega) (by omega) (by omega) (by omega)).mono ?_); rintro e w6 ⟨rfl, e6⟩))))
  refine wp_name (fun W => Ext w W) (HX1.out.trans ((((((Ext.refl _).drew.trans e2).trans e3).trans e4).trans e5).trans e6)) ?_
  rintro w7 e7
  have HX7 := Lib.hid e7
  clear e7
  go_wp2
  go_ret
  exact ⟨rfl, HX7.out⟩

set_option maxRecDepth 100000 in
set_option maxHeartbeats 2000000 in
theorem vstep_c (a b q : Rat) {k m n : Nat} (w : World) (g : Gd w) (ha : QB k a) (hb : QB m b) (hq : QB n q) (hk : k ≤ 600) (hm : m ≤ 600) (hn : n ≤ 600) : Calls Tryz.prog 112 #[.string (qs a), .string (qs b), .string (qs q)] w (Ret w (.string (qs (a + q * (b - a))))) := by
  have HA := Lib.hid ha
  have HB := Lib.hid hb
  have HQ := Lib.hid hq
  have HG := Lib.hid g
  clear ha hb hq g
  go_enter Tryz.func112, Tryz.ntmps112
  go_wp2_with fail
  refine (rsub_c b a _ (HG.out.ext (Ext.refl w)) HB.out HA.out (by omega) (by omega)).mono ?_; rintro e w1 ⟨rfl, e1⟩
  have HX1 : Hid (Ext w w1) := Lib.hid ((Ext.refl w).trans e1)
  clear e1
  go_wp2_with fail
  refine (rmul_c q (b - a) _ (HG.out.ext HX1.out) HQ.out (HB.out.sub HA.out) (by omega) (by omega)).mono ?_; rintro e w2 ⟨rfl, e2⟩
  have HX2 : Hid (Ext w w2) := Lib.hid (HX1.out.trans e2)
  clear e2
  go_wp2_with fail
  refine (radd_c a (q * (b - a)) _ (HG.out.ext HX2.out) HA.out (HQ.out.mul (HB.out.sub HA.out)) (by omega) (by omega)).mono ?_; rintro e w3 ⟨rfl, e3⟩
  have HX3 : Hid (Ext w w3) := Lib.hid (HX2.out.trans e3)
  clear e3
  go_wp2
  go_ret
  exact ⟨rfl, HX3.out⟩

set_option maxRecDepth 100000 in
set_option maxHeartbeats 2000000 in
theorem vscale0_c (a : V3) (q : Rat) {k m : Nat} (w : World) (g : Gd w) (ha : VB k a) (hq : QB m q) (hk : k ≤ 3000) (hm : m ≤ 3000) : Calls Tryz.prog 74 #[.agg #[.string (qs a.x), .string (qs a.y), .string (qs a.z)], .string (qs q)] w (Ret w (.agg #[.string (qs (a.x * q)), .string (qs (a.y * q)), .string (qs (a.z * q))])) := by
  have HA := Lib.hid ha
  have HQ := Lib.hid hq
  have HG := Lib.hid g
  clear ha hq g
  go_enter Tryz.func74, Tryz.ntmps74
  go_wp2_with fail
  refine (each_scale a a q (w.heap.size + 1) _ (HG.out.ext ((((Ext.refl w).alloc _).alloc _).alloc _)) HA.out HA.out HQ.out ((Blk.new' (w := _) (cs := #[.string (qs q)]) (t := 28) (by first | rfl | (simp only [World.size_alloc]; done) | (simp only [World.size_alloc]; omega) | simp)).alloc _) (by omega) (by omega)).mono ?_; rintro e w1 ⟨rfl, e1⟩
  have HX1 : Hid (Ext w w1) := Lib.hid (((((Ext.refl w).alloc _).alloc _).alloc _).trans e1)
  have HB1_1 : Hid (Blk w1 (w.heap.size + 1) #[.string (qs q)] 28) := Lib.hid (Blk.ext ((Blk.new' (w := _) (cs := #[.string (qs q)]) (t := 28) (by first | rfl | (simp only [World.size_alloc]; done) | (simp only [World.size_alloc]; omega) | simp)).alloc _) e1)
  have HB2_1 : Hid (Blk w1 (w.heap.size + 1 + 1) #[.string ⟨#[]⟩, .string ⟨#[]⟩, .string ⟨#[]⟩] 108) := Lib.hid (Blk.ext (Blk.new' (w := _) (cs := #[.string ⟨#[]⟩, .string ⟨#[]⟩, .string ⟨#[]⟩]) (t := 108) (by first | rfl | (simp only [World.size_alloc]; done) | (simp only [World.size_alloc]; omega) | simp)) e1)
  have HGEB1 : Hid (w.heap.size ≤ w.heap.size + 1) := Lib.hid (by first | omega | (simp only []; omega) | (simp; omega))
  have HGEB2 : Hid (w.heap.size ≤ w.heap.size + 1 + 1) := Lib.hid (by first | omega | (simp only []; omega) | (simp; omega))
  clear e1
  have c2_0 := HB2_1.out.cell 0 rfl
  have f2_0 := HB2_1.out.free 0
  have c2_1 := HB2_1.out.cell 1 rfl
  have f2_1 := HB2_1.out.free 1
  have c2_2 := HB2_1.out.cell 2 rfl
  have f2_2 := HB2_1.out.free 2
  go_wp2_with fail
  refine wp_name (fun W => Ext w W ∧ Blk W (w.heap.size + 1 + 1) #[.string (qs (a.x * q)), .string (qs (a.y * q)), .string (qs (a.z * q))] 108) ⟨(((HX1.out.setCell (by have := HGEB2.out; first | omega | (simp only []; omega) | (simp; omega)) _).setCell (by have := HGEB2.out; first | omega | (simp only []; omega) | (simp; omega)) _).setCell (by have := HGEB2.out; first | omega | (simp only []; omega) | (simp; omega)) _), (((HB2_1.out.set 0 (.string (qs (a.x * q)))).set 1 (.string (qs (a.y * q)))).set 2 (.string (qs (a.z * q))))⟩ ?_
  rintro w2 ⟨e2, bB2_2⟩
  have HX2 := Lib.hid e2; have HB2_2 := Lib.hid bB2_2
  clear e2 bB2_2 c2_0 f2_0 c2_1 f2_1 c2_2 f2_2
  have gB2_0 := HB2_2.out.cell 0 rfl
  have gB2_1 := HB2_2.out.cell 1 rfl
  have gB2_2 := HB2_2.out.cell 2 rfl
  refine bodyPost_ret (v := .agg #[.string (qs (a.x * q)), .string (qs (a.y * q)), .string (qs (a.z * q))]) (by simp [results, Tryz.results74, go_sem, gB2_0, gB2_1, gB2_2]) rfl ⟨rfl, HX2.out⟩

set_option maxRecDepth 100000 in
set_option maxHeartbeats 2000000 in
theorem vpoint_ok (x y : Rat) (w : World) (h0 : QB 200 x) (h1 : QB 200 y) : Calls Tryz.prog 99 #[.string (qs x), .string (qs y)] w (Ret w (.tuple #[.agg #[.string (qs x), .string (qs y)], .int .i64 0])) := by
  have H0 := Lib.hid h0
  have H1 := Lib.hid h1
  clear h0 h1
  go_enter Tryz.func99, Tryz.ntmps99
  go_wp2_with fail
  refine (long_no x _ H0.out).mono ?_; rintro e w1 ⟨rfl, e1⟩
  have HX1 : Hid (Ext w w1) := Lib.hid (((Ext.refl w).alloc _).trans e1)
  have HB0_1 : Hid (Blk w1 (w.heap.size) #[.string ⟨#[]⟩, .string ⟨#[]⟩] 62) := Lib.hid (Blk.ext (Blk.new' (w := _) (cs := #[.string ⟨#[]⟩, .string ⟨#[]⟩]) (t := 62) (by first | rfl | (simp only [World.size_alloc]; done) | (simp only [World.size_alloc]; omega) | simp)) e1)
  have HGEB0 : Hid (w.heap.size ≤ w.heap.size) := Lib.hid (by first | omega | (simp only []; omega) | (simp; omega))
  clear e1
  go_wp2_with fail
  refine (long_no y _ H1.out).mono ?_; rintro e w2 ⟨rfl, e2⟩
  have HX2 : Hid (Ext w w2) := Lib.hid (HX1.out.trans e2)
  have HB0_2 : Hid (Blk w2 (w.heap.size) #[.string ⟨#[]⟩, .string ⟨#[]⟩] 62) := Lib.hid (Blk.ext HB0_1.out e2)
  clear e2
  have c0_0 := HB0_2.out.cell 0 rfl
  have f0_0 := HB0_2.out.free 0
  have c0_1 := HB0_2.out.cell 1 rfl
  have f0_1 := HB0_2.out.free 1
  go_wp2_with fail
  refine wp_name (fun W => Ext w W ∧ Blk W (w.heap.size) #[.string (qs x), .string (qs y)] 62) ⟨((HX2.out.setCell (by have := HGEB0.out; first | omega | (simp only []; omega) | (simp; omega)) _).setCell (by have := HGEB0.out; first | omega | (simp only []; omega) | (simp; omega)) _), ((HB0_2.out.set 0 (.string (qs x))).set 1 (.string (qs y)))⟩ ?_
  rintro w3 ⟨e3, bB0_3⟩
  have HX3 := Lib.hid e3; have HB0_3 := Lib.hid bB0_3
  clear e3 bB0_3 c0_0 f0_0 c0_1 f0_1
  have gB0_0 := HB0_3.out.cell 0 rfl
  have gB0_1 := HB0_3.out.cell 1 rfl
  refine bodyPost_ret (v := .tuple #[.agg #[.string (qs x), .string (qs y)], .int .i64 0]) (by simp [results, Tryz.results99, go_sem, gB0_0, gB0_1]) rfl ⟨rfl, HX3.out⟩

/-- Is a number between two others? -/
def win (a b x : Rat) : Bool := decide (qcmp (qmin a b) x ≤ 0) && decide (qcmp x (qmax a b) ≤ 0)

set_option maxRecDepth 100000 in
set_option maxHeartbeats 2000000 in
theorem within_0 (a b x : Rat) {k : Nat} (w : World) (g : Gd w) (ha : QB k a) (hb : QB k b) (hx : QB k x) (hk : k ≤ 1000) (h1 : 0 < qcmp (qmin a b) x) : Calls Tryz.prog 111 #[.string (qs a), .string (qs b), .string (qs x)] w (Ret w (.bool false)) := by
  have HA := Lib.hid ha
  have HB := Lib.hid hb
  have HX0 := Lib.hid hx
  have HG := Lib.hid g
  clear ha hb hx g
  have HMI : Hid (QB k (qmin a b)) := Lib.hid (by unfold qmin; split; exact HB.out; exact HA.out)
  have HMA : Hid (QB k (qmax a b)) := Lib.hid (by unfold qmax; split; exact HB.out; exact HA.out)
  go_enter Tryz.func111, Tryz.ntmps111
  go_wp2_with fail
  refine (rmin_c a b _ (HG.out.ext (Ext.refl w)) HA.out HB.out (by omega) (by omega)).mono ?_; rintro e w1 ⟨rfl, e1⟩
  have HX1 : Hid (Ext w w1) := Lib.hid ((Ext.refl w).trans e1)
  clear e1
  go_wp2_with fail
  refine (rcompare_c (qmin a b) x _ (HG.out.ext HX1.out) HMI.out HX0.out (by omega) (by omega)).mono ?_; rintro e w2 ⟨rfl, e2⟩
  have HX2 : Hid (Ext w w2) := Lib.hid (HX1.out.trans e2)
  clear e2
  go_wp2
  go_ret
  exact ⟨rfl, HX2.out⟩

set_option maxRecDepth 100000 in
set_option maxHeartbeats 2000000 in
theorem within_1 (a b x : Rat) {k : Nat} (w : World) (g : Gd w) (ha : QB k a) (hb : QB k b) (hx : QB k x) (hk : k ≤ 1000) (h1 : qcmp (qmin a b) x ≤ 0) (h2 : 0 < qcmp x (qmax a b)) : Calls Tryz.prog 111 #[.string (qs a), .string (qs b), .string (qs x)] w (Ret w (.bool false)) := by
  have HA := Lib.hid ha
  have HB := Lib.hid hb
  have HX0 := Lib.hid hx
  have HG := Lib.hid g
  clear ha hb hx g
  have HMI : Hid (QB k (qmin a b)) := Lib.hid (by unfold qmin; split; exact HB.out; exact HA.out)
  have HMA : Hid (QB k (qmax a b)) := Lib.hid (by unfold qmax; split; exact HB.out; exact HA.out)
  go_enter Tryz.func111, Tryz.ntmps111
  go_wp2_with fail
  refine (rmin_c a b _ (HG.out.ext (Ext.refl w)) HA.out HB.out (by omega) (by omega)).mono ?_; rintro e w1 ⟨rfl, e1⟩
  have HX1 : Hid (Ext w w1) := Lib.hid ((Ext.refl w).trans e1)
  clear e1
  go_wp2_with fail
  refine (rcompare_c (qmin a b) x _ (HG.out.ext HX1.out) HMI.out HX0.out (by omega) (by omega)).mono ?_; rintro e w2 ⟨rfl, e2⟩
  have HX2 : Hid (Ext w w2) := Lib.hid (HX1.out.trans e2)
  clear e2
  go_wp2_with fail
  refine (rmax_c a b _ (HG.out.ext HX2.out) HA.out HB.out (by omega) (by omega)).mono ?_; rintro e w3 ⟨rfl, e3⟩
  have HX3 : Hid (Ext w w3) := Lib.hid (HX2.out.trans e3)
  clear e3
  go_wp2_with fail
  refine (rcompare_c x (qmax a b) _ (HG.out.ext HX3.out) HX0.out HMA.out (by omega) (by omega)).mono ?_; rintro e w4 ⟨rfl, e4⟩
  have HX4 : Hid (Ext w w4) := Lib.hid (HX3.out.trans e4)
  clear e4
  go_wp2
  go_ret
  exact ⟨by show Ending.returned (.bool (decide (qcmp x (qmax a b) ≤ 0))) = _; rw [decide_eq_false (by omega)], HX4.out⟩

set_option maxRecDepth 100000 in
set_option maxHeartbeats 2000000 in
theorem within_2 (a b x : Rat) {k : Nat} (w : World) (g : Gd w) (ha : QB k a) (hb : QB k b) (hx : QB k x) (hk : k ≤ 1000) (h1 : qcmp (qmin a b) x ≤ 0) (h2 : qcmp x (qmax a b) ≤ 0) : Calls Tryz.prog 111 #[.string (qs a), .string (qs b), .string (qs x)] w (Ret w (.bool true)) := by
  have HA := Lib.hid ha
  have HB := Lib.hid hb
  have HX0 := Lib.hid hx
  have HG := Lib.hid g
  clear ha hb hx g
  have HMI : Hid (QB k (qmin a b)) := Lib.hid (by unfold qmin; split; exact HB.out; exact HA.out)
  have HMA : Hid (QB k (qmax a b)) := Lib.hid (by unfold qmax; split; exact HB.out; exact HA.out)
  go_enter Tryz.func111, Tryz.ntmps111
  go_wp2_with fail
  refine (rmin_c a b _ (HG.out.ext (Ext.refl w)) HA.out HB.out (by omega) (by omega)).mono ?_; rintro e w1 ⟨rfl, e1⟩
  have HX1 : Hid (Ext w w1) := Lib.hid ((Ext.refl w).trans e1)
  clear e1
  go_wp2_with fail
  refine (rcompare_c (qmin a b) x _ (HG.out.ext HX1.out) HMI.out HX0.out (by omega) (by omega)).mono ?_; rintro e w2 ⟨rfl, e2⟩
  have HX2 : Hid (Ext w w2) := Lib.hid (HX1.out.trans e2)
  clear e2
  go_wp2_with fail
  refine (rmax_c a b _ (HG.out.ext HX2.out) HA.out HB.out (by omega) (by omega)).mono ?_; rintro e w3 ⟨rfl, e3⟩
  have HX3 : Hid (Ext w w3) := Lib.hid (HX2.out.trans e3)
  clear e3
  go_wp2_with fail
  refine (rcompare_c x (qmax a b) _ (HG.out.ext HX3.out) HX0.out HMA.out (by omega) (by omega)).mono ?_; rintro e w4 ⟨rfl, e4⟩
  have HX4 : Hid (Ext w w4) := Lib.hid (HX3.out.trans e4)
  clear e4
  go_wp2
  go_ret
  exact ⟨by first | rfl | (show Ending.returned (.bool (decide (qcmp x (qmax a b) ≤ 0))) = _; rw [decide_eq_true h2]), HX4.out⟩

theorem within_c (a b x : Rat) {k : Nat} (w : World) (g : Gd w) (ha : QB k a) (hb : QB k b) (hx : QB k x) (hk : k ≤ 1000) : Calls Tryz.prog 111 #[.string (qs a), .string (qs b), .string (qs x)] w (Ret w (.bool (win a b x))) := by
  by_cases h1 : qcmp (qmin a b) x ≤ 0
  · by_cases h2 : qcmp x (qmax a b) ≤ 0
    · rw [show win a b x = true by simp [win, h1, h2]]; exact within_2 a b x w g ha hb hx hk h1 h2
    · rw [show win a b x = false by simp [win, h2]]; exact within_1 a b x w g ha hb hx hk h1 (by omega)
  · rw [show win a b x = false by simp [win, h1]]; exact within_0 a b x w g ha hb hx hk (by omega)
end Go.Proofs.YtglppcmegocphaaGreatDoor

namespace Go.Proofs.YtglppcmegocphaaGreatDoor
open Go Go.RowKit
set_option maxRecDepth 100000 in
set_option maxHeartbeats 2000000 in
theorem vAdd_ok (a b : V3) (w : World) (g : Gd w) (ha : VB 200 a) (hb : VB 200 b) (hr : VB 200 ⟨a.x + b.x, a.y + b.y, a.z + b.z⟩) : Calls Tryz.prog 31 #[.agg #[.string (qs a.x), .string (qs a.y), .string (qs a.z)], .agg #[.string (qs b.x), .string (qs b.y), .string (qs b.z)]] w (Ret w (.tuple #[.agg #[.string (qs (a.x + b.x)), .string (qs (a.y + b.y)), .string (qs (a.z + b.z))], .int .i64 0])) := by
  have HA := Lib.hid ha
  have HB := Lib.hid hb
  have HR := Lib.hid hr
  have HG := Lib.hid g
  clear ha hb hr g
  go_enter Tryz.func31, Tryz.ntmps31
  go_wp2_with fail
  refine (vectors2_ok a b (w.heap.size + 1 + 1 + 1) _ (HG.out.ext (((((Ext.refl w).alloc _).alloc _).alloc _).alloc _)) (HA.out.mono (by omega)) (HB.out.mono (by omega)) (Blk.new' (w := _) (cs := #[.string (qs a.x), .string (qs a.y), .string (qs a.z), .string (qs b.x), .string (qs b.y), .string (qs b.z)]) (t := 30) (by first | rfl | (simp only [World.size_alloc]; done) | (simp only [World.size_alloc]; omega) | simp))).mono ?_; rintro e w1 ⟨rfl, e1⟩
  have HX1 : Hid (Ext w w1) := Lib.hid ((((((Ext.refl w).alloc _).alloc _).alloc _).alloc _).trans e1)
  have HB0_1 : Hid (Blk w1 (w.heap.size) #[.string (qs a.x), .string (qs a.y), .string (qs a.z)] 30) := Lib.hid (Blk.ext ((((Blk.new' (w := _) (cs := #[.string (qs a.x), .string (qs a.y), .string (qs a.z)]) (t := 30) (by first | rfl | (simp only [World.size_alloc]; done) | (simp only [World.size_alloc]; omega) | simp)).alloc _).alloc _).alloc _) e1)
  have HB1_1 : Hid (Blk w1 (w.heap.size + 1) #[.string (qs b.x), .string (qs b.y), .string (qs b.z)] 30) := Lib.hid (Blk.ext (((Blk.new' (w := _) (cs := #[.string (qs b.x), .string (qs b.y), .string (qs b.z)]) (t := 30) (by first | rfl | (simp only [World.size_alloc]; done) | (simp only [World.size_alloc]; omega) | simp)).alloc _).alloc _) e1)
  have HB2_1 : Hid (Blk w1 (w.heap.size + 1 + 1) #[.string ⟨#[]⟩, .string ⟨#[]⟩, .string ⟨#[]⟩] 30) := Lib.hid (Blk.ext ((Blk.new' (w := _) (cs := #[.string ⟨#[]⟩, .string ⟨#[]⟩, .string ⟨#[]⟩]) (t := 30) (by first | rfl | (simp only [World.size_alloc]; done) | (simp only [World.size_alloc]; omega) | simp)).alloc _) e1)
  have HB3_1 : Hid (Blk w1 (w.heap.size + 1 + 1 + 1) #[.string (qs a.x), .string (qs a.y), .string (qs a.z), .string (qs b.x), .string (qs b.y), .string (qs b.z)] 30) := Lib.hid (Blk.ext (Blk.new' (w := _) (cs := #[.string (qs a.x), .string (qs a.y), .string (qs a.z), .string (qs b.x), .string (qs b.y), .string (qs b.z)]) (t := 30) (by first | rfl | (simp only [World.size_alloc]; done) | (simp only [World.size_alloc]; omega) | simp)) e1)
  have HGEB0 : Hid (w.heap.size ≤ w.heap.size) := Lib.hid (by first | omega | (simp only []; omega) | (simp; omega))
  have HGEB1 : Hid (w.heap.size ≤ w.heap.size + 1) := Lib.hid (by first | omega | (simp only []; omega) | (simp; omega))
  have HGEB2 : Hid (w.heap.size ≤ w.heap.size + 1 + 1) := Lib.hid (by first | omega | (simp only []; omega) | (simp; omega))
  have HGEB3 : Hid (w.heap.size ≤ w.heap.size + 1 + 1 + 1) := Lib.hid (by first | omega | (simp only []; omega) | (simp; omega))
  clear e1
  have c0_0 := HB0_1.out.cell 0 rfl
  have c0_1 := HB0_1.out.cell 1 rfl
  have c0_2 := HB0_1.out.cell 2 rfl
  have c1_0 := HB1_1.out.cell 0 rfl
  have c1_1 := HB1_1.out.cell 1 rfl
  have c1_2 := HB1_1.out.cell 2 rfl
  go_wp2_with fail
  refine (each_add a b _ (HG.out.ext HX1.out) HA.out HB.out (by omega) (by omega)).mono ?_; rintro e w2 ⟨rfl, e2⟩
  have HX2 : Hid (Ext w w2) := Lib.hid (HX1.out.trans e2)
  have HB2_2 : Hid (Blk w2 (w.heap.size + 1 + 1) #[.string ⟨#[]⟩, .string ⟨#[]⟩, .string ⟨#[]⟩] 30) := Lib.hid (Blk.ext HB2_1.out e2)
  clear e2 c0_0 c0_1 c0_2 c1_0 c1_1 c1_2
  go_wp2_with fail
  refine (result_3 (a.x + b.x) (a.y + b.y) (a.z + b.z) _ HR.out.x HR.out.y HR.out.z).mono ?_; rintro e w3 ⟨rfl, e3⟩
  have HX3 : Hid (Ext w w3) := Lib.hid (HX2.out.trans e3)
  have HB2_3 : Hid (Blk w3 (w.heap.size + 1 + 1) #[.string ⟨#[]⟩, .string ⟨#[]⟩, .string ⟨#[]⟩] 30) := Lib.hid (Blk.ext HB2_2.out e3)
  clear e3
  have c2_0 := HB2_3.out.cell 0 rfl
  have f2_0 := HB2_3.out.free 0
  have c2_1 := HB2_3.out.cell 1 rfl
  have f2_1 := HB2_3.out.free 1
  have c2_2 := HB2_3.out.cell 2 rfl
  have f2_2 := HB2_3.out.free 2
  go_wp2_with fail
  refine wp_name (fun W => Ext w W ∧ Blk W (w.heap.size + 1 + 1) #[.string (qs (a.x + b.x)), .string (qs (a.y + b.y)), .string (qs (a.z + b.z))] 30) ⟨(((HX3.out.setCell (by have := HGEB2.out; first | omega | (simp only []; omega) | (simp; omega)) _).setCell (by have := HGEB2.out; first | omega | (simp only []; omega) | (simp; omega)) _).setCell (by have := HGEB2.out; first | omega | (simp only []; omega) | (simp; omega)) _), (((HB2_3.out.set 0 (.string (qs (a.x + b.x)))).set 1 (.string (qs (a.y + b.y)))).set 2 (.string (qs (a.z + b.z))))⟩ ?_
  rintro w4 ⟨e4, bB2_4⟩
  have HX4 := Lib.hid e4; have HB2_4 := Lib.hid bB2_4
  clear e4 bB2_4 c2_0 f2_0 c2_1 f2_1 c2_2 f2_2
  have gB2_0 := HB2_4.out.cell 0 rfl
  have gB2_1 := HB2_4.out.cell 1 rfl
  have gB2_2 := HB2_4.out.cell 2 rfl
  refine bodyPost_ret (v := .tuple #[.agg #[.string (qs (a.x + b.x)), .string (qs (a.y + b.y)), .string (qs (a.z + b.z))], .int .i64 0]) (by simp [results, Tryz.results31, go_sem, gB2_0, gB2_1, gB2_2]) rfl ⟨rfl, HX4.out⟩

set_option maxRecDepth 100000 in
set_option maxHeartbeats 2000000 in
theorem vCross_ok (a b : V3) (w : World) (g : Gd w) (ha : VB 200 a) (hb : VB 200 b) (hr : VB 200 ⟨a.y * b.z - a.z * b.y, a.z * b.x - a.x * b.z, a.x * b.y - a.y * b.x⟩) : Calls Tryz.prog 29 #[.agg #[.string (qs a.x), .string (qs a.y), .string (qs a.z)], .agg #[.string (qs b.x), .string (qs b.y), .string (qs b.z)]] w (Ret w (.tuple #[.agg #[.string (qs (a.y * b.z - a.z * b.y)), .string (qs (a.z * b.x - a.x * b.z)), .string (qs (a.x * b.y - a.y * b.x))], .int .i64 0])) := by
  have HA := Lib.hid ha
  have HB := Lib.hid hb
  have HR := Lib.hid hr
  have HG := Lib.hid g
  clear ha hb hr g
  go_enter Tryz.func29, Tryz.ntmps29
  go_wp2_with fail
  refine (vectors2_ok a b (w.heap.size + 1 + 1 + 1) _ (HG.out.ext (((((Ext.refl w).alloc _).alloc _).alloc _).alloc _)) (HA.out.mono (by omega)) (HB.out.mono (by omega)) (Blk.new' (w := _) (cs := #[.string (qs a.x), .string (qs a.y), .string (qs a.z), .string (qs b.x), .string (qs b.y), .string (qs b.z)]) (t := 30) (by first | rfl | (simp only [World.size_alloc]; done) | (simp only [World.size_alloc]; omega) | simp))).mono ?_; rintro e w1 ⟨rfl, e1⟩
  have HX1 : Hid (Ext w w1) := Lib.hid ((((((Ext.refl w).alloc _).alloc _).alloc _).alloc _).trans e1)
  have HB0_1 : Hid (Blk w1 (w.heap.size) #[.string (qs a.x), .string (qs a.y), .string (qs a.z)] 30) := Lib.hid (Blk.ext ((((Blk.new' (w := _) (cs := #[.string (qs a.x), .string (qs a.y), .string (qs a.z)]) (t := 30) (by first | rfl | (simp only [World.size_alloc]; done) | (simp only [World.size_alloc]; omega) | simp)).alloc _).alloc _).alloc _) e1)
  have HB1_1 : Hid (Blk w1 (w.heap.size + 1) #[.string (qs b.x), .string (qs b.y), .string (qs b.z)] 30) := Lib.hid (Blk.ext (((Blk.new' (w := _) (cs := #[.string (qs b.x), .string (qs b.y), .string (qs b.z)]) (t := 30) (by first | rfl | (simp only [World.size_alloc]; done) | (simp only [World.size_alloc]; omega) | simp)).alloc _).alloc _) e1)
  have HB2_1 : Hid (Blk w1 (w.heap.size + 1 + 1) #[.string ⟨#[]⟩, .string ⟨#[]⟩, .string ⟨#[]⟩] 30) := Lib.hid (Blk.ext ((Blk.new' (w := _) (cs := #[.string ⟨#[]⟩, .string ⟨#[]⟩, .string ⟨#[]⟩]) (t := 30) (by first | rfl | (simp only [World.size_alloc]; done) | (simp only [World.size_alloc]; omega) | simp)).alloc _) e1)
  have HB3_1 : Hid (Blk w1 (w.heap.size + 1 + 1 + 1) #[.string (qs a.x), .string (qs a.y), .string (qs a.z), .string (qs b.x), .string (qs b.y), .string (qs b.z)] 30) := Lib.hid (Blk.ext (Blk.new' (w := _) (cs := #[.string (qs a.x), .string (qs a.y), .string (qs a.z), .string (qs b.x), .string (qs b.y), .string (qs b.z)]) (t := 30) (by first | rfl | (simp only [World.size_alloc]; done) | (simp only [World.size_alloc]; omega) | simp)) e1)
  have HGEB0 : Hid (w.heap.size ≤ w.heap.size) := Lib.hid (by first | omega | (simp only []; omega) | (simp; omega))
  have HGEB1 : Hid (w.heap.size ≤ w.heap.size + 1) := Lib.hid (by first | omega | (simp only []; omega) | (simp; omega))
  have HGEB2 : Hid (w.heap.size ≤ w.heap.size + 1 + 1) := Lib.hid (by first | omega | (simp only []; omega) | (simp; omega))
  have HGEB3 : Hid (w.heap.size ≤ w.heap.size + 1 + 1 + 1) := Lib.hid (by first | omega | (simp only []; omega) | (simp; omega))
  clear e1
  have c0_0 := HB0_1.out.cell 0 rfl
  have c0_1 := HB0_1.out.cell 1 rfl
  have c0_2 := HB0_1.out.cell 2 rfl
  have c1_0 := HB1_1.out.cell 0 rfl
  have c1_1 := HB1_1.out.cell 1 rfl
  have c1_2 := HB1_1.out.cell 2 rfl
  go_wp2_with fail
  refine (vcross0_c a b _ (HG.out.ext HX1.out) HA.out HB.out (by omega) (by omega)).mono ?_; rintro e w2 ⟨rfl, e2⟩
  have HX2 : Hid (Ext w w2) := Lib.hid (HX1.out.trans e2)
  have HB2_2 : Hid (Blk w2 (w.heap.size + 1 + 1) #[.string ⟨#[]⟩, .string ⟨#[]⟩, .string ⟨#[]⟩] 30) := Lib.hid (Blk.ext HB2_1.out e2)
  clear e2 c0_0 c0_1 c0_2 c1_0 c1_1 c1_2
  go_wp2_with fail
  refine (list_c ⟨qs (a.y * b.z - a.z * b.y), qs (a.z * b.x - a.x * b.z), qs (a.x * b.y - a.y * b.x)⟩ _).mono ?_; rintro e w3 ⟨rfl, e3⟩
  have HX3 : Hid (Ext w w3) := Lib.hid (HX2.out.trans e3)
  have HB2_3 : Hid (Blk w3 (w.heap.size + 1 + 1) #[.string ⟨#[]⟩, .string ⟨#[]⟩, .string ⟨#[]⟩] 30) := Lib.hid (Blk.ext HB2_2.out e3)
  clear e3
  go_wp2_with fail
  refine (result_3 (a.y * b.z - a.z * b.y) (a.z * b.x - a.x * b.z) (a.x * b.y - a.y * b.x) _ HR.out.x HR.out.y HR.out.z).mono ?_; rintro e w4 ⟨rfl, e4⟩
  have HX4 : Hid (Ext w w4) := Lib.hid (HX3.out.trans e4)
  have HB2_4 : Hid (Blk w4 (w.heap.size + 1 + 1) #[.string ⟨#[]⟩, .string ⟨#[]⟩, .string ⟨#[]⟩] 30) := Lib.hid (Blk.ext HB2_3.out e4)
  clear e4
  have c2_0 := HB2_4.out.cell 0 rfl
  have f2_0 := HB2_4.out.free 0
  have c2_1 := HB2_4.out.cell 1 rfl
  have f2_1 := HB2_4.out.free 1
  have c2_2 := HB2_4.out.cell 2 rfl
  have f2_2 := HB2_4.out.free 2
  go_wp2_with fail
  refine wp_name (fun W => Ext w W ∧ Blk W (w.heap.size + 1 + 1) #[.string (qs (a.y * b.z - a.z * b.y)), .string (qs (a.z * b.x - a.x * b.z)), .string (qs (a.x * b.y - a.y * b.x))] 30) ⟨(((HX4.out.setCell (by have := HGEB2.out; first | omega | (simp only []; omega) | (simp; omega)) _).setCell (by have := HGEB2.out; first | omega | (simp only []; omega) | (simp; omega)) _).setCell (by have := HGEB2.out; first | omega | (simp only []; omega) | (simp; omega)) _), (((HB2_4.out.set 0 (.string (qs (a.y * b.z - a.z * b.y)))).set 1 (.string (qs (a.z * b.x - a.x * b.z)))).set 2 (.string (qs (a.x * b.y - a.y * b.x))))⟩ ?_
  rintro w5 ⟨e5, bB2_5⟩
  have HX5 := Lib.hid e5; have HB2_5 := Lib.hid bB2_5
  clear e5 bB2_5 c2_0 f2_0 c2_1 f2_1 c2_2 f2_2
  have gB2_0 := HB2_5.out.cell 0 rfl
  have gB2_1 := HB2_5.out.cell 1 rfl
  have gB2_2 := HB2_5.out.cell 2 rfl
  refine bodyPost_ret (v := .tuple #[.agg #[.string (qs (a.y * b.z - a.z * b.y)), .string (qs (a.z * b.x - a.x * b.z)), .string (qs (a.x * b.y - a.y * b.x))], .int .i64 0]) (by simp [results, Tryz.results29, go_sem, gB2_0, gB2_1, gB2_2]) rfl ⟨rfl, HX5.out⟩

set_option maxRecDepth 100000 in
set_option maxHeartbeats 2000000 in
theorem vTurn_ok (a b c : P2) (w : World) (g : Gd w) (ha : PB 200 a) (hb : PB 200 b) (hc : PB 200 c) : Calls Tryz.prog 34 #[.agg #[.string (qs a.x), .string (qs a.y)], .agg #[.string (qs b.x), .string (qs b.y)], .agg #[.string (qs c.x), .string (qs c.y)]] w (Ret w (.tuple #[.int .i64 (((b.x - a.x) * (c.y - a.y) - (b.y - a.y) * (c.x - a.x)).num.sign), .int .i64 0])) := by
  have HA := Lib.hid ha
  have HB := Lib.hid hb
  have HC := Lib.hid hc
  have HG := Lib.hid g
  clear ha hb hc g
  go_enter Tryz.func34, Tryz.ntmps34
  go_wp2_with fail
  refine (points3_ok a b c (w.heap.size + 1 + 1 + 1) _ (HG.out.ext (((((Ext.refl w).alloc _).alloc _).alloc _).alloc _)) (HA.out.mono (by omega)) (HB.out.mono (by omega)) (HC.out.mono (by omega)) (Blk.new' (w := _) (cs := #[.string (qs a.x), .string (qs a.y), .string (qs b.x), .string (qs b.y), .string (qs c.x), .string (qs c.y)]) (t := 62) (by first | rfl | (simp only [World.size_alloc]; done) | (simp only [World.size_alloc]; omega) | simp))).mono ?_; rintro e w1 ⟨rfl, e1⟩
  have HX1 : Hid (Ext w w1) := Lib.hid ((((((Ext.refl w).alloc _).alloc _).alloc _).alloc _).trans e1)
  have HB0_1 : Hid (Blk w1 (w.heap.size) #[.string (qs a.x), .string (qs a.y)] 62) := Lib.hid (Blk.ext ((((Blk.new' (w := _) (cs := #[.string (qs a.x), .string (qs a.y)]) (t := 62) (by first | rfl | (simp only [World.size_alloc]; done) | (simp only [World.size_alloc]; omega) | simp)).alloc _).alloc _).alloc _) e1)
  have HB1_1 : Hid (Blk w1 (w.heap.size + 1) #[.string (qs b.x), .string (qs b.y)] 62) := Lib.hid (Blk.ext (((Blk.new' (w := _) (cs := #[.string (qs b.x), .string (qs b.y)]) (t := 62) (by first | rfl | (simp only [World.size_alloc]; done) | (simp only [World.size_alloc]; omega) | simp)).alloc _).alloc _) e1)
  have HB2_1 : Hid (Blk w1 (w.heap.size + 1 + 1) #[.string (qs c.x), .string (qs c.y)] 62) := Lib.hid (Blk.ext ((Blk.new' (w := _) (cs := #[.string (qs c.x), .string (qs c.y)]) (t := 62) (by first | rfl | (simp only [World.size_alloc]; done) | (simp only [World.size_alloc]; omega) | simp)).alloc _) e1)
  have HB3_1 : Hid (Blk w1 (w.heap.size + 1 + 1 + 1) #[.string (qs a.x), .string (qs a.y), .string (qs b.x), .string (qs b.y), .string (qs c.x), .string (qs c.y)] 62) := Lib.hid (Blk.ext (Blk.new' (w := _) (cs := #[.string (qs a.x), .string (qs a.y), .string (qs b.x), .string (qs b.y), .string (qs c.x), .string (qs c.y)]) (t := 62) (by first | rfl | (simp only [World.size_alloc]; done) | (simp only [World.size_alloc]; omega) | simp)) e1)
  have HGEB0 : Hid (w.heap.size ≤ w.heap.size) := Lib.hid (by first | omega | (simp only []; omega) | (simp; omega))
  have HGEB1 : Hid (w.heap.size ≤ w.heap.size + 1) := Lib.hid (by first | omega | (simp only []; omega) | (simp; omega))
  have HGEB2 : Hid (w.heap.size ≤ w.heap.size + 1 + 1) := Lib.hid (by first | omega | (simp only []; omega) | (simp; omega))
  have HGEB3 : Hid (w.heap.size ≤ w.heap.size + 1 + 1 + 1) := Lib.hid (by first | omega | (simp only []; omega) | (simp; omega))
  clear e1
  have c0_0 := HB0_1.out.cell 0 rfl
  have c0_1 := HB0_1.out.cell 1 rfl
  have c1_0 := HB1_1.out.cell 0 rfl
  have c1_1 := HB1_1.out.cell 1 rfl
  have c2_0 := HB2_1.out.cell 0 rfl
  have c2_1 := HB2_1.out.cell 1 rfl
  go_wp2_with fail
  refine (varea0_c a b c _ (HG.out.ext HX1.out) HA.out HB.out HC.out (by omega) (by omega) (by omega)).mono ?_; rintro e w2 ⟨rfl, e2⟩
  have HX2 : Hid (Ext w w2) := Lib.hid (HX1.out.trans e2)
  clear e2 c0_0 c0_1 c1_0 c1_1 c2_0 c2_1
  go_wp2_with fail
  refine (rsign_c ((b.x - a.x) * (c.y - a.y) - (b.y - a.y) * (c.x - a.x)) _).mono ?_; rintro e _ ⟨rfl, rfl⟩
  go_wp2
  go_ret2
  exact ⟨rfl, HX2.out⟩

set_option maxRecDepth 100000 in
set_option maxHeartbeats 2000000 in
theorem vArea_ok (a b c : P2) (w : World) (g : Gd w) (ha : PB 200 a) (hb : PB 200 b) (hc : PB 200 c) (hr : QB 200 ((b.x - a.x) * (c.y - a.y) - (b.y - a.y) * (c.x - a.x))) : Calls Tryz.prog 60 #[.agg #[.string (qs a.x), .string (qs a.y)], .agg #[.string (qs b.x), .string (qs b.y)], .agg #[.string (qs c.x), .string (qs c.y)]] w (Ret w (.tuple #[.string (qs ((b.x - a.x) * (c.y - a.y) - (b.y - a.y) * (c.x - a.x))), .int .i64 0])) := by
  have HA := Lib.hid ha
  have HB := Lib.hid hb
  have HC := Lib.hid hc
  have HG := Lib.hid g
  have HR := Lib.hid hr
  clear ha hb hc g hr
  go_enter Tryz.func60, Tryz.ntmps60
  go_wp2_with fail
  refine (points3_ok a b c (w.heap.size + 1 + 1 + 1) _ (HG.out.ext (((((Ext.refl w).alloc _).alloc _).alloc _).alloc _)) (HA.out.mono (by omega)) (HB.out.mono (by omega)) (HC.out.mono (by omega)) (Blk.new' (w := _) (cs := #[.string (qs a.x), .string (qs a.y), .string (qs b.x), .string (qs b.y), .string (qs c.x), .string (qs c.y)]) (t := 62) (by first | rfl | (simp only [World.size_alloc]; done) | (simp only [World.size_alloc]; omega) | simp))).mono ?_; rintro e w1 ⟨rfl, e1⟩
  have HX1 : Hid (Ext w w1) := Lib.hid ((((((Ext.refl w).alloc _).alloc _).alloc _).alloc _).trans e1)
  have HB0_1 : Hid (Blk w1 (w.heap.size) #[.string (qs a.x), .string (qs a.y)] 62) := Lib.hid (Blk.ext ((((Blk.new' (w := _) (cs := #[.string (qs a.x), .string (qs a.y)]) (t := 62) (by first | rfl | (simp only [World.size_alloc]; done) | (simp only [World.size_alloc]; omega) | simp)).alloc _).alloc _).alloc _) e1)
  have HB1_1 : Hid (Blk w1 (w.heap.size + 1) #[.string (qs b.x), .string (qs b.y)] 62) := Lib.hid (Blk.ext (((Blk.new' (w := _) (cs := #[.string (qs b.x), .string (qs b.y)]) (t := 62) (by first | rfl | (simp only [World.size_alloc]; done) | (simp only [World.size_alloc]; omega) | simp)).alloc _).alloc _) e1)
  have HB2_1 : Hid (Blk w1 (w.heap.size + 1 + 1) #[.string (qs c.x), .string (qs c.y)] 62) := Lib.hid (Blk.ext ((Blk.new' (w := _) (cs := #[.string (qs c.x), .string (qs c.y)]) (t := 62) (by first | rfl | (simp only [World.size_alloc]; done) | (simp only [World.size_alloc]; omega) | simp)).alloc _) e1)
  have HB3_1 : Hid (Blk w1 (w.heap.size + 1 + 1 + 1) #[.string (qs a.x), .string (qs a.y), .string (qs b.x), .string (qs b.y), .string (qs c.x), .string (qs c.y)] 62) := Lib.hid (Blk.ext (Blk.new' (w := _) (cs := #[.string (qs a.x), .string (qs a.y), .string (qs b.x), .string (qs b.y), .string (qs c.x), .string (qs c.y)]) (t := 62) (by first | rfl | (simp only [World.size_alloc]; done) | (simp only [World.size_alloc]; omega) | simp)) e1)
  have HGEB0 : Hid (w.heap.size ≤ w.heap.size) := Lib.hid (by first | omega | (simp only []; omega) | (simp; omega))
  have HGEB1 : Hid (w.heap.size ≤ w.heap.size + 1) := Lib.hid (by first | omega | (simp only []; omega) | (simp; omega))
  have HGEB2 : Hid (w.heap.size ≤ w.heap.size + 1 + 1) := Lib.hid (by first | omega | (simp only []; omega) | (simp; omega))
  have HGEB3 : Hid (w.heap.size ≤ w.heap.size + 1 + 1 + 1) := Lib.hid (by first | omega | (simp only []; omega) | (simp; omega))
  clear e1
  have c0_0 := HB0_1.out.cell 0 rfl
  have c0_1 := HB0_1.out.cell 1 rfl
  have c1_0 := HB1_1.out.cell 0 rfl
  have c1_1 := HB1_1.out.cell 1 rfl
  have c2_0 := HB2_1.out.cell 0 rfl
  have c2_1 := HB2_1.out.cell 1 rfl
  go_wp2_with fail
  refine (varea0_c a b c _ (HG.out.ext HX1.out) HA.out HB.out HC.out (by omega) (by omega) (by omega)).mono ?_; rintro e w2 ⟨rfl, e2⟩
  have HX2 : Hid (Ext w w2) := Lib.hid (HX1.out.trans e2)
  clear e2 c0_0 c0_1 c1_0 c1_1 c2_0 c2_1
  go_wp2_with fail
  refine (number_no ((b.x - a.x) * (c.y - a.y) - (b.y - a.y) * (c.x - a.x)) _ HR.out).mono ?_; rintro e w3 ⟨rfl, e3⟩
  have HX3 : Hid (Ext w w3) := Lib.hid (HX2.out.trans e3)
  clear e3
  go_wp2
  go_ret2
  exact ⟨rfl, HX3.out⟩

/-- Is a point on a segment? -/
def vbtw (a b c : P2) : Bool := decide ((b.x - a.x) * (c.y - a.y) - (b.y - a.y) * (c.x - a.x) = 0) && (win a.x b.x c.x && win a.y b.y c.y)

set_option maxRecDepth 100000 in
set_option maxHeartbeats 2000000 in
theorem vBetween_0 (a b c : P2) (w : World) (g : Gd w) (ha : PB 200 a) (hb : PB 200 b) (hc : PB 200 c) (h0 : (b.x - a.x) * (c.y - a.y) - (b.y - a.y) * (c.x - a.x) ≠ 0) : Calls Tryz.prog 61 #[.agg #[.string (qs a.x), .string (qs a.y)], .agg #[.string (qs b.x), .string (qs b.y)], .agg #[.string (qs c.x), .string (qs c.y)]] w (Ret w (.tuple #[.bool false, .int .i64 0])) := by
  have HA := Lib.hid ha
  have HB := Lib.hid hb
  have HC := Lib.hid hc
  have HG := Lib.hid g
  clear ha hb hc g
  have h0_t := qs_not0 h0
  go_enter Tryz.func61, Tryz.ntmps61
  go_wp2_with fail
  refine (points3_ok a b c (w.heap.size + 1 + 1 + 1) _ (HG.out.ext (((((Ext.refl w).alloc _).alloc _).alloc _).alloc _)) (HA.out.mono (by omega)) (HB.out.mono (by omega)) (HC.out.mono (by omega)) (Blk.new' (w := _) (cs := #[.string (qs a.x), .string (qs a.y), .string (qs b.x), .string (qs b.y), .string (qs c.x), .string (qs c.y)]) (t := 62) (by first | rfl | (simp only [World.size_alloc]; done) | (simp only [World.size_alloc]; omega) | simp))).mono ?_; rintro e w1 ⟨rfl, e1⟩
  have HX1 : Hid (Ext w w1) := Lib.hid ((((((Ext.refl w).alloc _).alloc _).alloc _).alloc _).trans e1)
  have HB0_1 : Hid (Blk w1 (w.heap.size) #[.string (qs a.x), .string (qs a.y)] 62) := Lib.hid (Blk.ext ((((Blk.new' (w := _) (cs := #[.string (qs a.x), .string (qs a.y)]) (t := 62) (by first | rfl | (simp only [World.size_alloc]; done) | (simp only [World.size_alloc]; omega) | simp)).alloc _).alloc _).alloc _) e1)
  have HB1_1 : Hid (Blk w1 (w.heap.size + 1) #[.string (qs b.x), .string (qs b.y)] 62) := Lib.hid (Blk.ext (((Blk.new' (w := _) (cs := #[.string (qs b.x), .string (qs b.y)]) (t := 62) (by first | rfl | (simp only [World.size_alloc]; done) | (simp only [World.size_alloc]; omega) | simp)).alloc _).alloc _) e1)
  have HB2_1 : Hid (Blk w1 (w.heap.size + 1 + 1) #[.string (qs c.x), .string (qs c.y)] 62) := Lib.hid (Blk.ext ((Blk.new' (w := _) (cs := #[.string (qs c.x), .string (qs c.y)]) (t := 62) (by first | rfl | (simp only [World.size_alloc]; done) | (simp only [World.size_alloc]; omega) | simp)).alloc _) e1)
  have HB3_1 : Hid (Blk w1 (w.heap.size + 1 + 1 + 1) #[.string (qs a.x), .string (qs a.y), .string (qs b.x), .string (qs b.y), .string (qs c.x), .string (qs c.y)] 62) := Lib.hid (Blk.ext (Blk.new' (w := _) (cs := #[.string (qs a.x), .string (qs a.y), .string (qs b.x), .string (qs b.y), .string (qs c.x), .string (qs c.y)]) (t := 62) (by first | rfl | (simp only [World.size_alloc]; done) | (simp only [World.size_alloc]; omega) | simp)) e1)
  have HGEB0 : Hid (w.heap.size ≤ w.heap.size) := Lib.hid (by first | omega | (simp only []; omega) | (simp; omega))
  have HGEB1 : Hid (w.heap.size ≤ w.heap.size + 1) := Lib.hid (by first | omega | (simp only []; omega) | (simp; omega))
  have HGEB2 : Hid (w.heap.size ≤ w.heap.size + 1 + 1) := Lib.hid (by first | omega | (simp only []; omega) | (simp; omega))
  have HGEB3 : Hid (w.heap.size ≤ w.heap.size + 1 + 1 + 1) := Lib.hid (by first | omega | (simp only []; omega) | (simp; omega))
  clear e1
  have c0_0 := HB0_1.out.cell 0 rfl
  have c0_1 := HB0_1.out.cell 1 rfl
  have c1_0 := HB1_1.out.cell 0 rfl
  have c1_1 := HB1_1.out.cell 1 rfl
  have c2_0 := HB2_1.out.cell 0 rfl
  have c2_1 := HB2_1.out.cell 1 rfl
  go_wp2_with fail
  refine (varea0_c a b c _ (HG.out.ext HX1.out) HA.out HB.out HC.out (by omega) (by omega) (by omega)).mono ?_; rintro e w2 ⟨rfl, e2⟩
  have HX2 : Hid (Ext w w2) := Lib.hid (HX1.out.trans e2)
  clear e2 c0_0 c0_1 c1_0 c1_1 c2_0 c2_1
  go_wp2
  go_ret2
  exact ⟨rfl, HX2.out⟩

set_option maxRecDepth 100000 in
set_option maxHeartbeats 2000000 in
theorem vBetween_1 (a b c : P2) (w : World) (g : Gd w) (ha : PB 200 a) (hb : PB 200 b) (hc : PB 200 c) (h0 : (b.x - a.x) * (c.y - a.y) - (b.y - a.y) * (c.x - a.x) = 0) (h1 : win a.x b.x c.x = false) : Calls Tryz.prog 61 #[.agg #[.string (qs a.x), .string (qs a.y)], .agg #[.string (qs b.x), .string (qs b.y)], .agg #[.string (qs c.x), .string (qs c.y)]] w (Ret w (.tuple #[.bool false, .int .i64 0])) := by
  have HA := Lib.hid ha
  have HB := Lib.hid hb
  have HC := Lib.hid hc
  have HG := Lib.hid g
  have H1 := Lib.hid h1
  clear ha hb hc g h1
  have h0_t := qs_is0 h0
  clear h0
  go_enter Tryz.func61, Tryz.ntmps61
  go_wp2_with fail
  refine (points3_ok a b c (w.heap.size + 1 + 1 + 1) _ (HG.out.ext (((((Ext.refl w).alloc _).alloc _).alloc _).alloc _)) (HA.out.mono (by omega)) (HB.out.mono (by omega)) (HC.out.mono (by omega)) (Blk.new' (w := _) (cs := #[.string (qs a.x), .string (qs a.y), .string (qs b.x), .string (qs b.y), .string (qs c.x), .string (qs c.y)]) (t := 62) (by first | rfl | (simp only [World.size_alloc]; done) | (simp only [World.size_alloc]; omega) | simp))).mono ?_; rintro e w1 ⟨rfl, e1⟩
  have HX1 : Hid (Ext w w1) := Lib.hid ((((((Ext.refl w).alloc _).alloc _).alloc _).alloc _).trans e1)
  have HB0_1 : Hid (Blk w1 (w.heap.size) #[.string (qs a.x), .string (qs a.y)] 62) := Lib.hid (Blk.ext ((((Blk.new' (w := _) (cs := #[.string (qs a.x), .string (qs a.y)]) (t := 62) (by first | rfl | (simp only [World.size_alloc]; done) | (simp only [World.size_alloc]; omega) | simp)).alloc _).alloc _).alloc _) e1)
  have HB1_1 : Hid (Blk w1 (w.heap.size + 1) #[.string (qs b.x), .string (qs b.y)] 62) := Lib.hid (Blk.ext (((Blk.new' (w := _) (cs := #[.string (qs b.x), .string (qs b.y)]) (t := 62) (by first | rfl | (simp only [World.size_alloc]; done) | (simp only [World.size_alloc]; omega) | simp)).alloc _).alloc _) e1)
  have HB2_1 : Hid (Blk w1 (w.heap.size + 1 + 1) #[.string (qs c.x), .string (qs c.y)] 62) := Lib.hid (Blk.ext ((Blk.new' (w := _) (cs := #[.string (qs c.x), .string (qs c.y)]) (t := 62) (by first | rfl | (simp only [World.size_alloc]; done) | (simp only [World.size_alloc]; omega) | simp)).alloc _) e1)
  have HB3_1 : Hid (Blk w1 (w.heap.size + 1 + 1 + 1) #[.string (qs a.x), .string (qs a.y), .string (qs b.x), .string (qs b.y), .string (qs c.x), .string (qs c.y)] 62) := Lib.hid (Blk.ext (Blk.new' (w := _) (cs := #[.string (qs a.x), .string (qs a.y), .string (qs b.x), .string (qs b.y), .string (qs c.x), .string (qs c.y)]) (t := 62) (by first | rfl | (simp only [World.size_alloc]; done) | (simp only [World.size_alloc]; omega) | simp)) e1)
  have HGEB0 : Hid (w.heap.size ≤ w.heap.size) := Lib.hid (by first | omega | (simp only []; omega) | (simp; omega))
  have HGEB1 : Hid (w.heap.size ≤ w.heap.size + 1) := Lib.hid (by first | omega | (simp only []; omega) | (simp; omega))
  have HGEB2 : Hid (w.heap.size ≤ w.heap.size + 1 + 1) := Lib.hid (by first | omega | (simp only []; omega) | (simp; omega))
  have HGEB3 : Hid (w.heap.size ≤ w.heap.size + 1 + 1 + 1) := Lib.hid (by first | omega | (simp only []; omega) | (simp; omega))
  clear e1
  have c0_0 := HB0_1.out.cell 0 rfl
  have c0_1 := HB0_1.out.cell 1 rfl
  have c1_0 := HB1_1.out.cell 0 rfl
  have c1_1 := HB1_1.out.cell 1 rfl
  have c2_0 := HB2_1.out.cell 0 rfl
  have c2_1 := HB2_1.out.cell 1 rfl
  go_wp2_with fail
  refine (varea0_c a b c _ (HG.out.ext HX1.out) HA.out HB.out HC.out (by omega) (by omega) (by omega)).mono ?_; rintro e w2 ⟨rfl, e2⟩
  have HX2 : Hid (Ext w w2) := Lib.hid (HX1.out.trans e2)
  have HB0_2 : Hid (Blk w2 (w.heap.size) #[.string (qs a.x), .string (qs a.y)] 62) := Lib.hid (Blk.ext HB0_1.out e2)
  have HB1_2 : Hid (Blk w2 (w.heap.size + 1) #[.string (qs b.x), .string (qs b.y)] 62) := Lib.hid (Blk.ext HB1_1.out e2)
  have HB2_2 : Hid (Blk w2 (w.heap.size + 1 + 1) #[.string (qs c.x), .string (qs c.y)] 62) := Lib.hid (Blk.ext HB2_1.out e2)
  clear e2 c0_0 c0_1 c1_0 c1_1 c2_0 c2_1
  have c0_0 := HB0_2.out.cell 0 rfl
  have c1_0 := HB1_2.out.cell 0 rfl
  have c2_0 := HB2_2.out.cell 0 rfl
  go_wp2_with fail
  refine ((H1.out ▸ within_c a.x b.x c.x _ (HG.out.ext HX2.out) HA.out.x HB.out.x HC.out.x (by omega))).mono ?_; rintro e w3 ⟨rfl, e3⟩
  have HX3 : Hid (Ext w w3) := Lib.hid (HX2.out.trans e3)
  clear e3 c0_0 c1_0 c2_0
  go_wp2
  go_ret2
  exact ⟨rfl, HX3.out⟩

set_option maxRecDepth 100000 in
set_option maxHeartbeats 2000000 in
theorem vBetween_2 (a b c : P2) (w : World) (g : Gd w) (ha : PB 200 a) (hb : PB 200 b) (hc : PB 200 c) (h0 : (b.x - a.x) * (c.y - a.y) - (b.y - a.y) * (c.x - a.x) = 0) (h1 : win a.x b.x c.x = true) (h2 : win a.y b.y c.y = false) : Calls Tryz.prog 61 #[.agg #[.string (qs a.x), .string (qs a.y)], .agg #[.string (qs b.x), .string (qs b.y)], .agg #[.string (qs c.x), .string (qs c.y)]] w (Ret w (.tuple #[.bool false, .int .i64 0])) := by
  have HA := Lib.hid ha
  have HB := Lib.hid hb
  have HC := Lib.hid hc
  have HG := Lib.hid g
  have H1 := Lib.hid h1
  have H2 := Lib.hid h2
  clear ha hb hc g h1 h2
  have h0_t := qs_is0 h0
  clear h0
  go_enter Tryz.func61, Tryz.ntmps61
  go_wp2_with fail
  refine (points3_ok a b c (w.heap.size + 1 + 1 + 1) _ (HG.out.ext (((((Ext.refl w).alloc _).alloc _).alloc _).alloc _)) (HA.out.mono (by omega)) (HB.out.mono (by omega)) (HC.out.mono (by omega)) (Blk.new' (w := _) (cs := #[.string (qs a.x), .string (qs a.y), .string (qs b.x), .string (qs b.y), .string (qs c.x), .string (qs c.y)]) (t := 62) (by first | rfl | (simp only [World.size_alloc]; done) | (simp only [World.size_alloc]; omega) | simp))).mono ?_; rintro e w1 ⟨rfl, e1⟩
  have HX1 : Hid (Ext w w1) := Lib.hid ((((((Ext.refl w).alloc _).alloc _).alloc _).alloc _).trans e1)
  have HB0_1 : Hid (Blk w1 (w.heap.size) #[.string (qs a.x), .string (qs a.y)] 62) := Lib.hid (Blk.ext ((((Blk.new' (w := _) (cs := #[.string (qs a.x), .string (qs a.y)]) (t := 62) (by first | rfl | (simp only [World.size_alloc]; done) | (simp only [World.size_alloc]; omega) | simp)).alloc _).alloc _).alloc _) e1)
  have HB1_1 : Hid (Blk w1 (w.heap.size + 1) #[.string (qs b.x), .string (qs b.y)] 62) := Lib.hid (Blk.ext (((Blk.new' (w := _) (cs := #[.string (qs b.x), .string (qs b.y)]) (t := 62) (by first | rfl | (simp only [World.size_alloc]; done) | (simp only [World.size_alloc]; omega) | simp)).alloc _).alloc _) e1)
  have HB2_1 : Hid (Blk w1 (w.heap.size + 1 + 1) #[.string (qs c.x), .string (qs c.y)] 62) := Lib.hid (Blk.ext ((Blk.new' (w := _) (cs := #[.string (qs c.x), .string (qs c.y)]) (t := 62) (by first | rfl | (simp only [World.size_alloc]; done) | (simp only [World.size_alloc]; omega) | simp)).alloc _) e1)
  have HB3_1 : Hid (Blk w1 (w.heap.size + 1 + 1 + 1) #[.string (qs a.x), .string (qs a.y), .string (qs b.x), .string (qs b.y), .string (qs c.x), .string (qs c.y)] 62) := Lib.hid (Blk.ext (Blk.new' (w := _) (cs := #[.string (qs a.x), .string (qs a.y), .string (qs b.x), .string (qs b.y), .string (qs c.x), .string (qs c.y)]) (t := 62) (by first | rfl | (simp only [World.size_alloc]; done) | (simp only [World.size_alloc]; omega) | simp)) e1)
  have HGEB0 : Hid (w.heap.size ≤ w.heap.size) := Lib.hid (by first | omega | (simp only []; omega) | (simp; omega))
  have HGEB1 : Hid (w.heap.size ≤ w.heap.size + 1) := Lib.hid (by first | omega | (simp only []; omega) | (simp; omega))
  have HGEB2 : Hid (w.heap.size ≤ w.heap.size + 1 + 1) := Lib.hid (by first | omega | (simp only []; omega) | (simp; omega))
  have HGEB3 : Hid (w.heap.size ≤ w.heap.size + 1 + 1 + 1) := Lib.hid (by first | omega | (simp only []; omega) | (simp; omega))
  clear e1
  have c0_0 := HB0_1.out.cell 0 rfl
  have c0_1 := HB0_1.out.cell 1 rfl
  have c1_0 := HB1_1.out.cell 0 rfl
  have c1_1 := HB1_1.out.cell 1 rfl
  have c2_0 := HB2_1.out.cell 0 rfl
  have c2_1 := HB2_1.out.cell 1 rfl
  go_wp2_with fail
  refine (varea0_c a b c _ (HG.out.ext HX1.out) HA.out HB.out HC.out (by omega) (by omega) (by omega)).mono ?_; rintro e w2 ⟨rfl, e2⟩
  have HX2 : Hid (Ext w w2) := Lib.hid (HX1.out.trans e2)
  have HB0_2 : Hid (Blk w2 (w.heap.size) #[.string (qs a.x), .string (qs a.y)] 62) := Lib.hid (Blk.ext HB0_1.out e2)
  have HB1_2 : Hid (Blk w2 (w.heap.size + 1) #[.string (qs b.x), .string (qs b.y)] 62) := Lib.hid (Blk.ext HB1_1.out e2)
  have HB2_2 : Hid (Blk w2 (w.heap.size + 1 + 1) #[.string (qs c.x), .string (qs c.y)] 62) := Lib.hid (Blk.ext HB2_1.out e2)
  clear e2 c0_0 c0_1 c1_0 c1_1 c2_0 c2_1
  have c0_0 := HB0_2.out.cell 0 rfl
  have c1_0 := HB1_2.out.cell 0 rfl
  have c2_0 := HB2_2.out.cell 0 rfl
  go_wp2_with fail
  refine ((H1.out ▸ within_c a.x b.x c.x _ (HG.out.ext HX2.out) HA.out.x HB.out.x HC.out.x (by omega))).mono ?_; rintro e w3 ⟨rfl, e3⟩
  have HX3 : Hid (Ext w w3) := Lib.hid (HX2.out.trans e3)
  have HB0_3 : Hid (Blk w3 (w.heap.size) #[.string (qs a.x), .string (qs a.y)] 62) := Lib.hid (Blk.ext HB0_2.out e3)
  have HB1_3 : Hid (Blk w3 (w.heap.size + 1) #[.string (qs b.x), .string (qs b.y)] 62) := Lib.hid (Blk.ext HB1_2.out e3)
  have HB2_3 : Hid (Blk w3 (w.heap.size + 1 + 1) #[.string (qs c.x), .string (qs c.y)] 62) := Lib.hid (Blk.ext HB2_2.out e3)
  clear e3 c0_0 c1_0 c2_0
  have c0_1 := HB0_3.out.cell 1 rfl
  have c1_1 := HB1_3.out.cell 1 rfl
  have c2_1 := HB2_3.out.cell 1 rfl
  go_wp2_with fail
  refine ((H2.out ▸ within_c a.y b.y c.y _ (HG.out.ext HX3.out) HA.out.y HB.out.y HC.out.y (by omega))).mono ?_; rintro e w4 ⟨rfl, e4⟩
  have HX4 : Hid (Ext w w4) := Lib.hid (HX3.out.trans e4)
  clear e4 c0_1 c1_1 c2_1
  go_wp2
  go_ret2
  exact ⟨rfl, HX4.out⟩

set_option maxRecDepth 100000 in
set_option maxHeartbeats 2000000 in
theorem vBetween_3 (a b c : P2) (w : World) (g : Gd w) (ha : PB 200 a) (hb : PB 200 b) (hc : PB 200 c) (h0 : (b.x - a.x) * (c.y - a.y) - (b.y - a.y) * (c.x - a.x) = 0) (h1 : win a.x b.x c.x = true) (h2 : win a.y b.y c.y = true) : Calls Tryz.prog 61 #[.agg #[.string (qs a.x), .string (qs a.y)], .agg #[.string (qs b.x), .string (qs b.y)], .agg #[.string (qs c.x), .string (qs c.y)]] w (Ret w (.tuple #[.bool true, .int .i64 0])) := by
  have HA := Lib.hid ha
  have HB := Lib.hid hb
  have HC := Lib.hid hc
  have HG := Lib.hid g
  have H1 := Lib.hid h1
  have H2 := Lib.hid h2
  clear ha hb hc g h1 h2
  have h0_t := qs_is0 h0
  clear h0
  go_enter Tryz.func61, Tryz.ntmps61
  go_wp2_with fail
  refine (points3_ok a b c (w.heap.size + 1 + 1 + 1) _ (HG.out.ext (((((Ext.refl w).alloc _).alloc _).alloc _).alloc _)) (HA.out.mono (by omega)) (HB.out.mono (by omega)) (HC.out.mono (by omega)) (Blk.new' (w := _) (cs := #[.string (qs a.x), .string (qs a.y), .string (qs b.x), .string (qs b.y), .string (qs c.x), .string (qs c.y)]) (t := 62) (by first | rfl | (simp only [World.size_alloc]; done) | (simp only [World.size_alloc]; omega) | simp))).mono ?_; rintro e w1 ⟨rfl, e1⟩
  have HX1 : Hid (Ext w w1) := Lib.hid ((((((Ext.refl w).alloc _).alloc _).alloc _).alloc _).trans e1)
  have HB0_1 : Hid (Blk w1 (w.heap.size) #[.string (qs a.x), .string (qs a.y)] 62) := Lib.hid (Blk.ext ((((Blk.new' (w := _) (cs := #[.string (qs a.x), .string (qs a.y)]) (t := 62) (by first | rfl | (simp only [World.size_alloc]; done) | (simp only [World.size_alloc]; omega) | simp)).alloc _).alloc _).alloc _) e1)
  have HB1_1 : Hid (Blk w1 (w.heap.size + 1) #[.string (qs b.x), .string (qs b.y)] 62) := Lib.hid (Blk.ext (((Blk.new' (w := _) (cs := #[.string (qs b.x), .string (qs b.y)]) (t := 62) (by first | rfl | (simp only [World.size_alloc]; done) | (simp only [World.size_alloc]; omega) | simp)).alloc _).alloc _) e1)
  have HB2_1 : Hid (Blk w1 (w.heap.size + 1 + 1) #[.string (qs c.x), .string (qs c.y)] 62) := Lib.hid (Blk.ext ((Blk.new' (w := _) (cs := #[.string (qs c.x), .string (qs c.y)]) (t := 62) (by first | rfl | (simp only [World.size_alloc]; done) | (simp only [World.size_alloc]; omega) | simp)).alloc _) e1)
  have HB3_1 : Hid (Blk w1 (w.heap.size + 1 + 1 + 1) #[.string (qs a.x), .string (qs a.y), .string (qs b.x), .string (qs b.y), .string (qs c.x), .string (qs c.y)] 62) := Lib.hid (Blk.ext (Blk.new' (w := _) (cs := #[.string (qs a.x), .string (qs a.y), .string (qs b.x), .string (qs b.y), .string (qs c.x), .string (qs c.y)]) (t := 62) (by first | rfl | (simp only [World.size_alloc]; done) | (simp only [World.size_alloc]; omega) | simp)) e1)
  have HGEB0 : Hid (w.heap.size ≤ w.heap.size) := Lib.hid (by first | omega | (simp only []; omega) | (simp; omega))
  have HGEB1 : Hid (w.heap.size ≤ w.heap.size + 1) := Lib.hid (by first | omega | (simp only []; omega) | (simp; omega))
  have HGEB2 : Hid (w.heap.size ≤ w.heap.size + 1 + 1) := Lib.hid (by first | omega | (simp only []; omega) | (simp; omega))
  have HGEB3 : Hid (w.heap.size ≤ w.heap.size + 1 + 1 + 1) := Lib.hid (by first | omega | (simp only []; omega) | (simp; omega))
  clear e1
  have c0_0 := HB0_1.out.cell 0 rfl
  have c0_1 := HB0_1.out.cell 1 rfl
  have c1_0 := HB1_1.out.cell 0 rfl
  have c1_1 := HB1_1.out.cell 1 rfl
  have c2_0 := HB2_1.out.cell 0 rfl
  have c2_1 := HB2_1.out.cell 1 rfl
  go_wp2_with fail
  refine (varea0_c a b c _ (HG.out.ext HX1.out) HA.out HB.out HC.out (by omega) (by omega) (by omega)).mono ?_; rintro e w2 ⟨rfl, e2⟩
  have HX2 : Hid (Ext w w2) := Lib.hid (HX1.out.trans e2)
  have HB0_2 : Hid (Blk w2 (w.heap.size) #[.string (qs a.x), .string (qs a.y)] 62) := Lib.hid (Blk.ext HB0_1.out e2)
  have HB1_2 : Hid (Blk w2 (w.heap.size + 1) #[.string (qs b.x), .string (qs b.y)] 62) := Lib.hid (Blk.ext HB1_1.out e2)
  have HB2_2 : Hid (Blk w2 (w.heap.size + 1 + 1) #[.string (qs c.x), .string (qs c.y)] 62) := Lib.hid (Blk.ext HB2_1.out e2)
  clear e2 c0_0 c0_1 c1_0 c1_1 c2_0 c2_1
  have c0_0 := HB0_2.out.cell 0 rfl
  have c1_0 := HB1_2.out.cell 0 rfl
  have c2_0 := HB2_2.out.cell 0 rfl
  go_wp2_with fail
  refine ((H1.out ▸ within_c a.x b.x c.x _ (HG.out.ext HX2.out) HA.out.x HB.out.x HC.out.x (by omega))).mono ?_; rintro e w3 ⟨rfl, e3⟩
  have HX3 : Hid (Ext w w3) := Lib.hid (HX2.out.trans e3)
  have HB0_3 : Hid (Blk w3 (w.heap.size) #[.string (qs a.x), .string (qs a.y)] 62) := Lib.hid (Blk.ext HB0_2.out e3)
  have HB1_3 : Hid (Blk w3 (w.heap.size + 1) #[.string (qs b.x), .string (qs b.y)] 62) := Lib.hid (Blk.ext HB1_2.out e3)
  have HB2_3 : Hid (Blk w3 (w.heap.size + 1 + 1) #[.string (qs c.x), .string (qs c.y)] 62) := Lib.hid (Blk.ext HB2_2.out e3)
  clear e3 c0_0 c1_0 c2_0
  have c0_1 := HB0_3.out.cell 1 rfl
  have c1_1 := HB1_3.out.cell 1 rfl
  have c2_1 := HB2_3.out.cell 1 rfl
  go_wp2_with fail
  refine ((H2.out ▸ within_c a.y b.y c.y _ (HG.out.ext HX3.out) HA.out.y HB.out.y HC.out.y (by omega))).mono ?_; rintro e w4 ⟨rfl, e4⟩
  have HX4 : Hid (Ext w w4) := Lib.hid (HX3.out.trans e4)
  clear e4 c0_1 c1_1 c2_1
  go_wp2
  go_ret2
  exact ⟨rfl, HX4.out⟩

theorem vBetween_ok (a b c : P2) (w : World) (g : Gd w) (ha : PB 200 a) (hb : PB 200 b) (hc : PB 200 c) : Calls Tryz.prog 61 #[pv a, pv b, pv c] w (Ret w (.tuple #[.bool (vbtw a b c), .int .i64 0])) := by
  by_cases h0 : (b.x - a.x) * (c.y - a.y) - (b.y - a.y) * (c.x - a.x) = 0
  · cases h1 : win a.x b.x c.x with
    | false => rw [show vbtw a b c = false by simp [vbtw, h1]]; exact vBetween_1 a b c w g ha hb hc h0 h1
    | true =>
      cases h2 : win a.y b.y c.y with
      | false => rw [show vbtw a b c = false by simp [vbtw, h2]]; exact vBetween_2 a b c w g ha hb hc h0 h1 h2
      | true => rw [show vbtw a b c = true by simp [vbtw, h0, h1, h2]]; exact vBetween_3 a b c w g ha hb hc h0 h1 h2
  · rw [show vbtw a b c = false by simp [vbtw, h0]]; exact vBetween_0 a b c w g ha hb hc h0

set_option maxRecDepth 100000 in
set_option maxHeartbeats 2000000 in
theorem vToward_ok (a b : P2) (q : Rat) (w : World) (g : Gd w) (ha : PB 200 a) (hb : PB 200 b) (hq : QB 200 q) (hr : PB 200 ⟨a.x + q * (b.x - a.x), a.y + q * (b.y - a.y)⟩) : Calls Tryz.prog 62 #[.agg #[.string (qs a.x), .string (qs a.y)], .agg #[.string (qs b.x), .string (qs b.y)], .string (qs q)] w (Ret w (.tuple #[.agg #[.string (qs (a.x + q * (b.x - a.x))), .string (qs (a.y + q * (b.y - a.y)))], .int .i64 0])) := by
  have HA := Lib.hid ha
  have HB := Lib.hid hb
  have HQ := Lib.hid hq
  have HR := Lib.hid hr
  have HG := Lib.hid g
  clear ha hb hq hr g
  go_enter Tryz.func62, Tryz.ntmps62
  go_wp2_with fail
  refine (points2_ok a b (w.heap.size + 1 + 1 + 1) _ (HG.out.ext (((((Ext.refl w).alloc _).alloc _).alloc _).alloc _)) (HA.out.mono (by omega)) (HB.out.mono (by omega)) (Blk.new' (w := _) (cs := #[.string (qs a.x), .string (qs a.y), .string (qs b.x), .string (qs b.y)]) (t := 62) (by first | rfl | (simp only [World.size_alloc]; done) | (simp only [World.size_alloc]; omega) | simp))).mono ?_; rintro e w1 ⟨rfl, e1⟩
  have HX1 : Hid (Ext w w1) := Lib.hid ((((((Ext.refl w).alloc _).alloc _).alloc _).alloc _).trans e1)
  have HB0_1 : Hid (Blk w1 (w.heap.size) #[.string (qs a.x), .string (qs a.y)] 62) := Lib.hid (Blk.ext ((((Blk.new' (w := _) (cs := #[.string (qs a.x), .string (qs a.y)]) (t := 62) (by first | rfl | (simp only [World.size_alloc]; done) | (simp only [World.size_alloc]; omega) | simp)).alloc _).alloc _).alloc _) e1)
  have HB1_1 : Hid (Blk w1 (w.heap.size + 1) #[.string (qs b.x), .string (qs b.y)] 62) := Lib.hid (Blk.ext (((Blk.new' (w := _) (cs := #[.string (qs b.x), .string (qs b.y)]) (t := 62) (by first | rfl | (simp only [World.size_alloc]; done) | (simp only [World.size_alloc]; omega) | simp)).alloc _).alloc _) e1)
  have HB2_1 : Hid (Blk w1 (w.heap.size + 1 + 1) #[.string ⟨#[]⟩, .string ⟨#[]⟩] 62) := Lib.hid (Blk.ext ((Blk.new' (w := _) (cs := #[.string ⟨#[]⟩, .string ⟨#[]⟩]) (t := 62) (by first | rfl | (simp only [World.size_alloc]; done) | (simp only [World.size_alloc]; omega) | simp)).alloc _) e1)
  have HB3_1 : Hid (Blk w1 (w.heap.size + 1 + 1 + 1) #[.string (qs a.x), .string (qs a.y), .string (qs b.x), .string (qs b.y)] 62) := Lib.hid (Blk.ext (Blk.new' (w := _) (cs := #[.string (qs a.x), .string (qs a.y), .string (qs b.x), .string (qs b.y)]) (t := 62) (by first | rfl | (simp only [World.size_alloc]; done) | (simp only [World.size_alloc]; omega) | simp)) e1)
  have HGEB0 : Hid (w.heap.size ≤ w.heap.size) := Lib.hid (by first | omega | (simp only []; omega) | (simp; omega))
  have HGEB1 : Hid (w.heap.size ≤ w.heap.size + 1) := Lib.hid (by first | omega | (simp only []; omega) | (simp; omega))
  have HGEB2 : Hid (w.heap.size ≤ w.heap.size + 1 + 1) := Lib.hid (by first | omega | (simp only []; omega) | (simp; omega))
  have HGEB3 : Hid (w.heap.size ≤ w.heap.size + 1 + 1 + 1) := Lib.hid (by first | omega | (simp only []; omega) | (simp; omega))
  clear e1
  go_wp2_with fail
  refine (numbers1_ok q (w1.heap.size) _ (HG.out.ext (HX1.out.alloc _)) HQ.out (Blk.new' (w := _) (cs := #[.string (qs q)]) (t := 28) (by first | rfl | (simp only [World.size_alloc]; done) | (simp only [World.size_alloc]; omega) | simp))).mono ?_; rintro e w2 ⟨rfl, e2⟩
  have HX2 : Hid (Ext w w2) := Lib.hid ((HX1.out.alloc _).trans e2)
  have HB0_2 : Hid (Blk w2 (w.heap.size) #[.string (qs a.x), .string (qs a.y)] 62) := Lib.hid (Blk.ext (HB0_1.out.alloc _) e2)
  have HB1_2 : Hid (Blk w2 (w.heap.size + 1) #[.string (qs b.x), .string (qs b.y)] 62) := Lib.hid (Blk.ext (HB1_1.out.alloc _) e2)
  have HB2_2 : Hid (Blk w2 (w.heap.size + 1 + 1) #[.string ⟨#[]⟩, .string ⟨#[]⟩] 62) := Lib.hid (Blk.ext (HB2_1.out.alloc _) e2)
  have HB4_2 : Hid (Blk w2 (w1.heap.size) #[.string (qs q)] 28) := Lib.hid (Blk.ext (Blk.new' (w := _) (cs := #[.string (qs q)]) (t := 28) (by first | rfl | (simp only [World.size_alloc]; done) | (simp only [World.size_alloc]; omega) | simp)) e2)
  have HGEB4 : Hid (w.heap.size ≤ w1.heap.size) := Lib.hid (by have := HX1.out.size; first | omega | (simp only []; omega) | (simp; omega))
  clear e2
  go_wp2_with fail
  refine wp_name (fun W => Ext w W ∧ Blk W (w.heap.size) #[.string (qs a.x), .string (qs a.y)] 62 ∧ Blk W (w.heap.size + 1) #[.string (qs b.x), .string (qs b.y)] 62 ∧ Blk W (w.heap.size + 1 + 1) #[.string ⟨#[]⟩, .string ⟨#[]⟩] 62) ⟨HX2.out, HB0_2.out, HB1_2.out, HB2_2.out⟩ ?_
  rintro w3 ⟨e3, bB0_3, bB1_3, bB2_3⟩
  have HX3 := Lib.hid e3; have HB0_3 := Lib.hid bB0_3; have HB1_3 := Lib.hid bB1_3; have HB2_3 := Lib.hid bB2_3
  clear e3 bB0_3 bB1_3 bB2_3
  have hS3 : w3.cell? ⟨w.heap.size, 0, none⟩ = some (.string (qs a.x)) ∧ w3.cell? ⟨w.heap.size + 1, 0, none⟩ = some (.string (qs b.x)) ∧ w3.cell? ⟨w.heap.size, 1, none⟩ = some (.string (qs a.y)) ∧ w3.cell? ⟨w.heap.size + 1, 1, none⟩ = some (.string (qs b.y)) := ⟨HB0_3.out.cell 0 rfl, HB1_3.out.cell 0 rfl, HB0_3.out.cell 1 rfl, HB1_3.out.cell 1 rfl⟩
  have HS3 := Lib.hid hS3; clear hS3
  go_region_held3 (fun w' => w'.cell? ⟨w.heap.size, 0, none⟩ = some (.string (qs a.x)) ∧ w'.cell? ⟨w.heap.size + 1, 0, none⟩ = some (.string (qs b.x)) ∧ w'.cell? ⟨w.heap.size, 1, none⟩ = some (.string (qs a.y)) ∧ w'.cell? ⟨w.heap.size + 1, 1, none⟩ = some (.string (qs b.y)))
    (((try simp only [cell_set_ne (show w.heap.size ≠ w.heap.size + 1 + 1 from by first | omega | (simp only []; omega) | (simp; omega)), cell_set_ne (show w.heap.size + 1 ≠ w.heap.size + 1 + 1 from by first | omega | (simp only []; omega) | (simp; omega))]); exact keepsH4 (by repeat (first | assumption | exact Ext.refl _ | apply Ext.drew | apply Ext.alloc | (refine Ext.setCell ?_ (by first | omega | (simp only []; omega) | (simp; omega)) _) | (refine Ext.trans ?_ (by assumption)))) HS3.out)) ((first
      | (go_at_call 112; ((with_reducible refine (vstep_c a.x b.x q _ (HG.out.ext (HX3.out.trans (by repeat (first | assumption | exact Ext.refl _ | apply Ext.drew | apply Ext.alloc | (refine Ext.setCell ?_ (by first | omega | (simp only []; omega) | (simp; omega)) _) | (refine Ext.trans ?_ (by assumption)))))) HA.out.x HB.out.x HQ.out (by omega) (by omega) (by omega)).mono ?_); rintro e w4 ⟨rfl, e4⟩))
      | (go_at_call 112; ((with_reducible refine (vstep_c a.y b.y q _ (HG.out.ext (HX3.out.trans (by repeat (first | assumption | exact Ext.refl _ | apply Ext.drew | apply Ext.alloc | (refine Ext.setCell ?_ (by first | omega | (simp only []; omega) | (simp; omega)) _) | (refine Ext.trans ?_ (by assumption)))))) HA.out.y HB.out.y HQ.out (by omega) (by omega) (by omega)).mono ?_); rintro e w5 ⟨rfl, e5⟩))
      | (go_at_call 99; ((with_reducible refine (vpoint_ok (a.x + q * (b.x - a.x)) (a.y + q * (b.y - a.y)) _ HR.out.x HR.out.y).mono ?_); rintro e w6 ⟨rfl, e6⟩; have RB2 := Blk.ext HB2_3.out (w' := w6) (by repeat (first | assumption | exact Ext.refl _ | apply Ext.drew | (refine Ext.trans ?_ (by assumption)))); have cB2_0 := RB2.cell 0 rfl; have fB2_0 := RB2.free 0; have cB2_1 := RB2.cell 1 rfl; have fB2_1 := RB2.free 1; have HRB2 := Lib.hid RB2; clear RB2))))
  refine wp_name (fun W => Ext w W ∧ Blk W (w.heap.size + 1 + 1) #[.string (qs (a.x + q * (b.x - a.x))), .string (qs (a.y + q * (b.y - a.y)))] 62) ⟨(((HX3.out.trans ((((Ext.refl _).drew.trans e4).trans e5).trans e6)).setCell (by have := HGEB2.out; first | omega | (simp only []; omega) | (simp; omega)) _).setCell (by have := HGEB2.out; first | omega | (simp only []; omega) | (simp; omega)) _), (((Blk.ext HB2_3.out ((((Ext.refl _).drew.trans e4).trans e5).trans e6)).set 0 (.string (qs (a.x + q * (b.x - a.x))))).set 1 (.string (qs (a.y + q * (b.y - a.y)))))⟩ ?_
  clear cB2_0 fB2_0 cB2_1 fB2_1
  rintro w7 ⟨e7, bB2_7⟩
  have HX7 := Lib.hid e7; have HB2_7 := Lib.hid bB2_7
  clear e7 bB2_7
  go_wp2_with fail
  have gB2_0 := HB2_7.out.cell 0 rfl
  have gB2_1 := HB2_7.out.cell 1 rfl
  refine bodyPost_ret (v := .tuple #[.agg #[.string (qs (a.x + q * (b.x - a.x))), .string (qs (a.y + q * (b.y - a.y)))], .int .i64 0]) (by simp [results, Tryz.results62, go_sem, gB2_0, gB2_1]) rfl ⟨rfl, HX7.out⟩
end Go.Proofs.YtglppcmegocphaaGreatDoor
