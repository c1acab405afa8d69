/- Part 26 of the proof: L2, L4, V8, V9. -/
import Derived.Test.YtglppcmegocphaaGreatDoorQE1
import Derived.Test.YtglppcmegocphaaGreatDoorQE2
import Derived.Test.YtglppcmegocphaaGreatDoorQE3
import Derived.Test.YtglppcmegocphaaGreatDoorQE4
import Derived.Test.YtglppcmegocphaaGreatDoorQE5
import Derived.Test.YtglppcmegocphaaGreatDoorQE6
import Derived.Test.YtglppcmegocphaaGreatDoorQE7
import Derived.Test.YtglppcmegocphaaGreatDoorQE8
import Derived.Test.YtglppcmegocphaaGreatDoorQE9
import Derived.Test.YtglppcmegocphaaGreatDoorQE10
import Derived.Test.YtglppcmegocphaaGreatDoorQE11
import Derived.Test.YtglppcmegocphaaGreatDoorQE12
import Derived.Test.YtglppcmegocphaaGreatDoorQE13
import Derived.Test.YtglppcmegocphaaGreatDoorQE14
import Derived.Test.YtglppcmegocphaaGreatDoorQE15
import Derived.Test.YtglppcmegocphaaGreatDoorQE16
import Derived.Test.YtglppcmegocphaaGreatDoorQE17
import Derived.Test.YtglppcmegocphaaGreatDoorQE18
import Derived.Test.YtglppcmegocphaaGreatDoorQE19
import Derived.Test.YtglppcmegocphaaGreatDoorQE20
import Derived.Test.YtglppcmegocphaaGreatDoorQE21
import Derived.Test.YtglppcmegocphaaGreatDoorQE22
import Derived.Test.YtglppcmegocphaaGreatDoorQE23
import Derived.Test.YtglppcmegocphaaGreatDoorQE24
import Derived.Test.YtglppcmegocphaaGreatDoorQE25
namespace Go.Proofs.YtglppcmegocphaaGreatDoor
open Go Go.RowKit
def sm (n : Int) (d : Nat) : Rat := mkRat n (1 + d)
theorem sm_qb {n : Int} {d : Nat} (h0 : -32768 ≤ n) (h1 : n ≤ 32767) (h2 : d ≤ 255) : QB 5 (sm n d) := QB.mk' (by omega) (by omega) (by omega)
structure Pla where
  n0 : Int
  d0 : Nat
  n1 : Int
  d1 : Nat
  n2 : Int
  d2 : Nat
structure PlaOk (p : Pla) : Prop where
  a0 : -32768 ≤ p.n0
  b0 : p.n0 ≤ 32767
  c0 : p.d0 ≤ 255
  a1 : -32768 ≤ p.n1
  b1 : p.n1 ≤ 32767
  c1 : p.d1 ≤ 255
  a2 : -32768 ≤ p.n2
  b2 : p.n2 ≤ 32767
  c2 : p.d2 ≤ 255
def pvec (p : Pla) : V3 := ⟨sm p.n0 p.d0, sm p.n1 p.d1, sm p.n2 p.d2⟩
def ppt (p : Pla) : P2 := ⟨sm p.n0 p.d0, sm p.n1 p.d1⟩
theorem PlaOk.v {p : Pla} (h : PlaOk p) : VB 5 (pvec p) := ⟨sm_qb h.a0 h.b0 h.c0, sm_qb h.a1 h.b1 h.c1, sm_qb h.a2 h.b2 h.c2⟩
theorem PlaOk.p {p : Pla} (h : PlaOk p) : PB 5 (ppt p) := ⟨sm_qb h.a0 h.b0 h.c0, sm_qb h.a1 h.b1 h.c1⟩

def ferr : List Int → Int
  | [] => 0
  | x :: l => if x = 0 then ferr l else x
theorem ferr_zero {l : List Int} (h : ∀ (i : Nat) (hi : i < l.length), l[i] = 0) : ferr l = 0 := by
  induction l with
  | nil => rfl
  | cons x l ih =>
    have e : x = 0 := h 0 (by simp)
    unfold ferr; rw [if_pos e]; exact ih (fun i hi => h (i + 1) (by simpa using hi))
theorem ferr_at {l : List Int} {k : Nat} (hk : k < l.length) (h : ∀ (i : Nat) (_ : i < k) (hi : i < l.length), l[i] = 0) (hne : l[k] ≠ 0) : ferr l = l[k] := by
  induction l generalizing k with
  | nil => simp at hk
  | cons x l ih =>
    cases k with
    | zero =>
      have e : x ≠ 0 := hne
      unfold ferr; rw [if_neg e]; rfl
    | succ k =>
      have e : x = 0 := h 0 (by omega) (by simp)
      unfold ferr; rw [if_pos e]
      exact ih (by simpa using hk) (fun i hi hl => h (i + 1) (by omega) (by simpa using hl)) hne
theorem Tryz.sizeErrno (w : World) : (sizeOf 32).run Tryz.prog w = .ok 1 w := by kernel_rfl
set_option maxRecDepth 100000 in
set_option maxHeartbeats 1000000 in
theorem first_c (l : List Int) (b n cap : Nat) (w : World) (hn : l.length = n) (hn9 : n ≤ 100) (hc : ∀ (i : Nat) (hi : i < l.length), w.cell? ⟨b, i, none⟩ = some (.int .i64 l[i])) :
    Calls Tryz.prog 26 #[.slice (some ⟨b, 0, none⟩) n cap] w fun e w' => e = .returned (.int .i64 (ferr l)) ∧ w = w' := by
  have HC := Lib.hid hc; have HN := Lib.hid hn
  clear hc hn
  go_enter Tryz.func26, Tryz.ntmps26
  go_wp2
  go_loop [3] (fun x => ∃ k : Nat, x = .int .i64 k ∧ k ≤ n ∧ Hid (∀ (i : Nat) (_ : i < k) (hi : i < l.length), l[i] = 0)) (fun x => n - (intOf x).toNat)
  case atStart => exact ⟨0, rfl, by omega, Lib.hid (fun i h => by omega)⟩
  case round =>
    obtain ⟨k, rfl, hk, HR⟩ := hrel
    by_cases hkn : k < n
    · have hks : k < l.length := by have := HN.out; omega
      obtain ⟨v, hv⟩ : ∃ v, v = l[k] := ⟨_, rfl⟩
      have c1 : w.cell? ⟨b, k, none⟩ = some (.int .i64 v) := by rw [hv]; exact HC.out k hks
      have hix := run_index 53 32 rfl Tryz.sizeErrno (ad := some ⟨b, 0, none⟩) (n := n) (cap := cap) (fun _ => rfl) k hkn
      have HV := Lib.hid hv
      clear hv
      by_cases h0 : v = 0
      · have HV0 : Hid (l[k] = 0) := Lib.hid (by rw [← HV.out]; exact h0)
        have t1 : (v != 0) = false := by simp [h0]
        clear h0
        go_wp2
        go_round
        case rel => exact ⟨k + 1, by go_num, by omega, Lib.hid (fun i h hi => by
          by_cases e : i = k
          · subst e; exact HV0.out
          · exact HR.out i (by omega) hi)⟩
        case measure => simp [intOf]; omega
      · have HV0 : Hid (l[k] ≠ 0) := Lib.hid (by rw [← HV.out]; exact h0)
        have t1 : (v != 0) = true := by simp [h0]
        go_wp2
        go_ret
        exact ⟨by rw [ferr_at hks (fun i h hi => HR.out i h hi) HV0.out, ← HV.out]; rfl, rfl⟩
    · obtain rfl : k = n := by omega
      go_wp2
      go_ret
      exact ⟨by rw [ferr_zero (fun i hi => HR.out i (by have := HN.out; omega) hi)]; rfl, rfl⟩
theorem first2_c (x0 x1 : Int) (kb : Nat) (w : World) (hB : Blk w kb #[.int .i64 x0, .int .i64 x1] 32) : Calls Tryz.prog 26 #[.slice (some ⟨kb, 0, none⟩) 2 2] w fun e w' => e = .returned (.int .i64 (ferr [x0, x1])) ∧ w = w' :=
  first_c [x0, x1] kb 2 2 w rfl (by decide) (fun i hi => match i, hi with | 0, _ => hB.cell 0 rfl | 1, _ => hB.cell 1 rfl)
end Go.Proofs.YtglppcmegocphaaGreatDoor

namespace Go.Proofs.YtglppcmegocphaaGreatDoor
open Go Go.RowKit
theorem sright_v (v : V3) (w : World) (g : Gd w) (hv : VB 200 v) : Calls Tryz.prog 17 #[.agg #[.string (qs v.x), .string (qs v.y), .string (qs v.z)]] w (Ret w (.bool true)) :=
  sright_3 ⟨qs v.x, qs v.y, qs v.z⟩ w g hv.ts (rq_qs hv.x) (rq_qs hv.y) (rq_qs hv.z)
end Go.Proofs.YtglppcmegocphaaGreatDoor

namespace Go.Proofs.YtglppcmegocphaaGreatDoor
open Go Go.RowKit
set_option maxRecDepth 100000 in
set_option maxHeartbeats 16000000 in
theorem vCommon_par (p q : Pl) (w : World) (g : Gd w) (hp : VB 200 p.n) (hpc : QB 200 p.c) (hq : VB 200 q.n) (hqc : QB 200 q.c) (hz : ¬ (p.n.x = 0 ∧ p.n.y = 0 ∧ p.n.z = 0)) (hy : ¬ (q.n.x = 0 ∧ q.n.y = 0 ∧ q.n.z = 0)) (h0 : p.n.y * q.n.z - p.n.z * q.n.y = 0) (h1 : p.n.z * q.n.x - p.n.x * q.n.z = 0) (h2 : p.n.x * q.n.y - p.n.y * q.n.x = 0) : Calls Tryz.prog 25 #[.agg #[.string (qs p.n.x), .string (qs p.n.y), .string (qs p.n.z), .string (qs p.c)], .agg #[.string (qs q.n.x), .string (qs q.n.y), .string (qs q.n.z), .string (qs q.c)]] w (Ret w (.tuple #[.agg #[.string ⟨#[]⟩, .string ⟨#[]⟩, .string ⟨#[]⟩], .agg #[.string ⟨#[]⟩, .string ⟨#[]⟩, .string ⟨#[]⟩], .int .i64 19])) := by
  have HP := Lib.hid hp
  have HPC := Lib.hid hpc
  have HQ := Lib.hid hq
  have HQC := Lib.hid hqc
  have HZ := Lib.hid hz
  have HY := Lib.hid hy
  have HG := Lib.hid g
  clear hp hpc hq hqc hz hy g
  have h0_t := qs_is0 h0
  have h1_t := qs_is0 h1
  have h2_t := qs_is0 h2
  clear h0 h1 h2
  have ix0 : ∀ W, (Instr.index 122 (.agg #[.string (qs p.n.x), .string (qs p.n.y), .string (qs p.n.z), .string (qs p.c), .string (qs q.n.x), .string (qs q.n.y), .string (qs q.n.z), .string (qs q.c)]) (.int .i64 0)).run Tryz.prog W = .ok (.agg #[.string (qs p.n.x), .string (qs p.n.y), .string (qs p.n.z), .string (qs p.c)]) W := fun W => by kernel_rfl
  have ix1 : ∀ W, (Instr.index 122 (.agg #[.string (qs p.n.x), .string (qs p.n.y), .string (qs p.n.z), .string (qs p.c), .string (qs q.n.x), .string (qs q.n.y), .string (qs q.n.z), .string (qs q.c)]) (.int .i64 1)).run Tryz.prog W = .ok (.agg #[.string (qs q.n.x), .string (qs q.n.y), .string (qs q.n.z), .string (qs q.c)]) W := fun W => by kernel_rfl
  go_enter Tryz.func25, Tryz.ntmps25
  go_wp2_with fail
  refine wp_loop_rounds 3 ?_
  rw [rounds_succ]
  go_wp2_with fail
  refine (vPlane_ok p _ (HG.out.ext ((((((Ext.refl w).alloc _).alloc _).alloc _).alloc _).alloc _)) HP.out HPC.out HZ.out).mono ?_; rintro e w1 ⟨rfl, e1⟩
  have HX1 : Hid (Ext w w1) := Lib.hid (((((((Ext.refl w).alloc _).alloc _).alloc _).alloc _).alloc _).trans e1)
  have HB0_1 : Hid (Blk w1 (w.heap.size) #[.string (qs p.n.x), .string (qs p.n.y), .string (qs p.n.z), .string (qs p.c)] 48) := Lib.hid (Blk.ext (((((Blk.new' (w := _) (cs := #[.string (qs p.n.x), .string (qs p.n.y), .string (qs p.n.z), .string (qs p.c)]) (t := 48) (by first | rfl | (simp only [World.size_alloc]; done) | (simp only [World.size_alloc]; omega) | simp)).alloc _).alloc _).alloc _).alloc _) e1)
  have HB1_1 : Hid (Blk w1 (w.heap.size + 1) #[.string (qs q.n.x), .string (qs q.n.y), .string (qs q.n.z), .string (qs q.c)] 48) := Lib.hid (Blk.ext ((((Blk.new' (w := _) (cs := #[.string (qs q.n.x), .string (qs q.n.y), .string (qs q.n.z), .string (qs q.c)]) (t := 48) (by first | rfl | (simp only [World.size_alloc]; done) | (simp only [World.size_alloc]; omega) | simp)).alloc _).alloc _).alloc _) e1)
  have HB2_1 : Hid (Blk w1 (w.heap.size + 1 + 1) #[.string ⟨#[]⟩, .string ⟨#[]⟩, .string ⟨#[]⟩] 30) := Lib.hid (Blk.ext (((Blk.new' (w := _) (cs := #[.string ⟨#[]⟩, .string ⟨#[]⟩, .string ⟨#[]⟩]) (t := 30) (by first | rfl | (simp only [World.size_alloc]; done) | (simp only [World.size_alloc]; omega) | simp)).alloc _).alloc _) e1)
  have HB3_1 : Hid (Blk w1 (w.heap.size + 1 + 1 + 1) #[.string ⟨#[]⟩, .string ⟨#[]⟩, .string ⟨#[]⟩] 30) := Lib.hid (Blk.ext ((Blk.new' (w := _) (cs := #[.string ⟨#[]⟩, .string ⟨#[]⟩, .string ⟨#[]⟩]) (t := 30) (by first | rfl | (simp only [World.size_alloc]; done) | (simp only [World.size_alloc]; omega) | simp)).alloc _) e1)
  have HGEB0 : Hid (w.heap.size ≤ w.heap.size) := Lib.hid (by first | omega | (simp only []; omega) | (simp; omega))
  have HGEB1 : Hid (w.heap.size ≤ w.heap.size + 1) := Lib.hid (by first | omega | (simp only []; omega) | (simp; omega))
  have HGEB2 : Hid (w.heap.size ≤ w.heap.size + 1 + 1) := Lib.hid (by first | omega | (simp only []; omega) | (simp; omega))
  have HGEB3 : Hid (w.heap.size ≤ w.heap.size + 1 + 1 + 1) := Lib.hid (by first | omega | (simp only []; omega) | (simp; omega))
  clear e1
  go_wp2_with fail
  rw [rounds_succ]
  go_upto_region 4 with fail
  refine wp_name (fun W => Ext w W ∧ Blk W (w.heap.size) #[.string (qs p.n.x), .string (qs p.n.y), .string (qs p.n.z), .string (qs p.c)] 48 ∧ Blk W (w.heap.size + 1) #[.string (qs q.n.x), .string (qs q.n.y), .string (qs q.n.z), .string (qs q.c)] 48 ∧ Blk W (w.heap.size + 1 + 1) #[.string ⟨#[]⟩, .string ⟨#[]⟩, .string ⟨#[]⟩] 30 ∧ Blk W (w.heap.size + 1 + 1 + 1) #[.string ⟨#[]⟩, .string ⟨#[]⟩, .string ⟨#[]⟩] 30 ∧ Blk W (w1.heap.size) #[.string (qs q.n.x), .string (qs q.n.y), .string (qs q.n.z), .string (qs q.c)] 48) ⟨(HX1.out.alloc _), (HB0_1.out.alloc _), (HB1_1.out.alloc _), (HB2_1.out.alloc _), (HB3_1.out.alloc _), (Blk.new' (w := _) (cs := #[.string (qs q.n.x), .string (qs q.n.y), .string (qs q.n.z), .string (qs q.c)]) (t := 48) (by first | rfl | (simp only [World.size_alloc]; done) | (simp only [World.size_alloc]; omega) | simp))⟩ ?_
  rintro w2 ⟨e2, bB0_2, bB1_2, bB2_2, bB3_2, bB5_2⟩
  have HX2 := Lib.hid e2; have HB0_2 := Lib.hid bB0_2; have HB1_2 := Lib.hid bB1_2; have HB2_2 := Lib.hid bB2_2; have HB3_2 := Lib.hid bB3_2; have HB5_2 := Lib.hid bB5_2
  have HGEB5 : Hid (w.heap.size ≤ w1.heap.size) := Lib.hid (by have := HX1.out.size; first | omega | (simp only []; omega) | (simp; omega))
  clear e2 bB0_2 bB1_2 bB2_2 bB3_2 bB5_2
  have c5_0 := HB5_2.out.cell 0 rfl
  have c5_1 := HB5_2.out.cell 1 rfl
  have c5_2 := HB5_2.out.cell 2 rfl
  have c5_3 := HB5_2.out.cell 3 rfl
  go_wp2_with fail
  refine (vPlane_ok q _ (HG.out.ext HX2.out) HQ.out HQC.out HY.out).mono ?_; rintro e w3 ⟨rfl, e3⟩
  have HX3 : Hid (Ext w w3) := Lib.hid (HX2.out.trans e3)
  have HB0_3 := Lib.hid (Blk.ext HB0_2.out e3)
  have HB1_3 := Lib.hid (Blk.ext HB1_2.out e3)
  have HB2_3 := Lib.hid (Blk.ext HB2_2.out e3)
  have HB3_3 := Lib.hid (Blk.ext HB3_2.out e3)
  clear e3 c5_0 c5_1 c5_2 c5_3
  go_wp2_with fail
  rw [rounds_succ]
  have c0_0 := HB0_3.out.cell 0 rfl
  have c0_1 := HB0_3.out.cell 1 rfl
  have c0_2 := HB0_3.out.cell 2 rfl
  have c1_0 := HB1_3.out.cell 0 rfl
  have c1_1 := HB1_3.out.cell 1 rfl
  have c1_2 := HB1_3.out.cell 2 rfl
  go_wp2_with fail
  refine (vcross0_c p.n q.n _ (HG.out.ext HX3.out) HP.out HQ.out (by omega) (by omega)).mono ?_; rintro e w4 ⟨rfl, e4⟩
  have HX4 : Hid (Ext w w4) := Lib.hid (HX3.out.trans e4)
  have HB2_4 := Lib.hid (Blk.ext HB2_3.out e4)
  have HB3_4 := Lib.hid (Blk.ext HB3_3.out e4)
  clear e4 c0_0 c0_1 c0_2 c1_0 c1_1 c1_2
  go_wp2_with fail
  refine ((list_e ⟨qs (p.n.y * q.n.z - p.n.z * q.n.y), qs (p.n.z * q.n.x - p.n.x * q.n.z), qs (p.n.x * q.n.y - p.n.y * q.n.x)⟩ _).mono (fun _ _ h => (⟨h.1, h.2 ▸ ((Ext.refl _).alloc _).alloc _⟩ : Ret _ _ _ _))).mono ?_; rintro e w5 ⟨rfl, e5⟩
  have HX5 : Hid (Ext w w5) := Lib.hid (HX4.out.trans e5)
  have HB2_5 := Lib.hid (Blk.ext HB2_4.out e5)
  have HB3_5 := Lib.hid (Blk.ext HB3_4.out e5)
  clear e5
  go_wp2_with fail
  refine wp_loop_rounds 5 ?_
  rw [rounds_succ]
  go_upto_region 10 with fail
  refine wp_name (fun W => Ext w W ∧ Blk W (w.heap.size + 1 + 1) #[.string ⟨#[]⟩, .string ⟨#[]⟩, .string ⟨#[]⟩] 30 ∧ Blk W (w.heap.size + 1 + 1 + 1) #[.string ⟨#[]⟩, .string ⟨#[]⟩, .string ⟨#[]⟩] 30 ∧ Blk W (w5.heap.size) #[.string (qs (p.n.y * q.n.z - p.n.z * q.n.y)), .string (qs (p.n.z * q.n.x - p.n.x * q.n.z)), .string (qs (p.n.x * q.n.y - p.n.y * q.n.x))] 108) ⟨(HX5.out.alloc _), (HB2_5.out.alloc _), (HB3_5.out.alloc _), (Blk.new' (w := _) (cs := #[.string (qs (p.n.y * q.n.z - p.n.z * q.n.y)), .string (qs (p.n.z * q.n.x - p.n.x * q.n.z)), .string (qs (p.n.x * q.n.y - p.n.y * q.n.x))]) (t := 108) (by first | rfl | (simp only [World.size_alloc]; done) | (simp only [World.size_alloc]; omega) | simp))⟩ ?_
  rintro w6 ⟨e6, bB2_6, bB3_6, bB6_6⟩
  have HX6 := Lib.hid e6; have HB2_6 := Lib.hid bB2_6; have HB3_6 := Lib.hid bB3_6; have HB6_6 := Lib.hid bB6_6
  have HGEB6 : Hid (w.heap.size ≤ w5.heap.size) := Lib.hid (by have := HX5.out.size; first | omega | (simp only []; omega) | (simp; omega))
  clear e6 bB2_6 bB3_6 bB6_6
  have c6_0 := HB6_6.out.cell 0 rfl
  go_wp2_with fail
  rw [rounds_succ]
  clear c6_0
  have c6_1 := HB6_6.out.cell 1 rfl
  go_wp2_with fail
  rw [rounds_succ]
  clear c6_1
  have c6_2 := HB6_6.out.cell 2 rfl
  go_wp2_with fail
  rw [rounds_succ]
  clear c6_2
  have c2_0 := HB2_6.out.cell 0 rfl
  have f2_0 := HB2_6.out.free 0
  have c2_1 := HB2_6.out.cell 1 rfl
  have f2_1 := HB2_6.out.free 1
  have c2_2 := HB2_6.out.cell 2 rfl
  have f2_2 := HB2_6.out.free 2
  have c3_0 := HB3_6.out.cell 0 rfl
  have f3_0 := HB3_6.out.free 0
  have c3_1 := HB3_6.out.cell 1 rfl
  have f3_1 := HB3_6.out.free 1
  have c3_2 := HB3_6.out.cell 2 rfl
  have f3_2 := HB3_6.out.free 2
  go_wp2_with fail
  refine wp_name (fun W => Ext w W ∧ Blk W (w.heap.size + 1 + 1) #[.string ⟨#[]⟩, .string ⟨#[]⟩, .string ⟨#[]⟩] 30 ∧ Blk W (w.heap.size + 1 + 1 + 1) #[.string ⟨#[]⟩, .string ⟨#[]⟩, .string ⟨#[]⟩] 30) ⟨((((((HX6.out.setCell (by have := HGEB2.out; first | omega | (simp only []; omega) | (simp; omega)) _).setCell (by have := HGEB2.out; first | omega | (simp only []; omega) | (simp; omega)) _).setCell (by have := HGEB2.out; first | omega | (simp only []; omega) | (simp; omega)) _).setCell (by have := HGEB3.out; first | omega | (simp only []; omega) | (simp; omega)) _).setCell (by have := HGEB3.out; first | omega | (simp only []; omega) | (simp; omega)) _).setCell (by have := HGEB3.out; first | omega | (simp only []; omega) | (simp; omega)) _), ((((((HB2_6.out.set 0 (.string ⟨#[]⟩)).set 1 (.string ⟨#[]⟩)).set 2 (.string ⟨#[]⟩)).other (a := ⟨w.heap.size + 1 + 1 + 1, 0, none⟩) _ (by first | omega | (simp only []; omega) | (simp; omega))).other (a := ⟨w.heap.size + 1 + 1 + 1, 1, none⟩) _ (by first | omega | (simp only []; omega) | (simp; omega))).other (a := ⟨w.heap.size + 1 + 1 + 1, 2, none⟩) _ (by first | omega | (simp only []; omega) | (simp; omega))), ((((((HB3_6.out.other (a := ⟨w.heap.size + 1 + 1, 0, none⟩) _ (by first | omega | (simp only []; omega) | (simp; omega))).other (a := ⟨w.heap.size + 1 + 1, 1, none⟩) _ (by first | omega | (simp only []; omega) | (simp; omega))).other (a := ⟨w.heap.size + 1 + 1, 2, none⟩) _ (by first | omega | (simp only []; omega) | (simp; omega))).set 0 (.string ⟨#[]⟩)).set 1 (.string ⟨#[]⟩)).set 2 (.string ⟨#[]⟩))⟩ ?_
  rintro w7 ⟨e7, bB2_7, bB3_7⟩
  have HX7 := Lib.hid e7; have HB2_7 := Lib.hid bB2_7; have HB3_7 := Lib.hid bB3_7
  clear e7 bB2_7 bB3_7 c2_0 f2_0 c2_1 f2_1 c2_2 f2_2 c3_0 f3_0 c3_1 f3_1 c3_2 f3_2
  have gB2_0 := HB2_7.out.cell 0 rfl
  have gB2_1 := HB2_7.out.cell 1 rfl
  have gB2_2 := HB2_7.out.cell 2 rfl
  have gB3_0 := HB3_7.out.cell 0 rfl
  have gB3_1 := HB3_7.out.cell 1 rfl
  have gB3_2 := HB3_7.out.cell 2 rfl
  refine bodyPost_ret (v := .tuple #[.agg #[.string ⟨#[]⟩, .string ⟨#[]⟩, .string ⟨#[]⟩], .agg #[.string ⟨#[]⟩, .string ⟨#[]⟩, .string ⟨#[]⟩], .int .i64 19]) (by simp [results, Tryz.results25, go_sem, gB2_0, gB2_1, gB2_2, gB3_0, gB3_1, gB3_2]) rfl ⟨rfl, HX7.out⟩

set_option maxRecDepth 100000 in
set_option maxHeartbeats 4000000 in
theorem scp_z (p : Pl) (w : World) (g : Gd w) (hp : VB 200 p.n) (hpc : QB 200 p.c) (hz : p.n.x = 0 ∧ p.n.y = 0 ∧ p.n.z = 0) : Calls Tryz.prog 27 #[.agg #[.string (qs p.n.x), .string (qs p.n.y), .string (qs p.n.z), .string (qs p.c)]] w (Ret w (.int .i64 17)) := by
  have HP := Lib.hid hp
  have HPC := Lib.hid hpc
  have HZ := Lib.hid hz
  have HG := Lib.hid g
  clear hp hpc hz g
  go_enter Tryz.func27, Tryz.ntmps27
  go_wp2_with fail
  refine (sright_v p.n _ (HG.out.ext ((Ext.refl w).alloc _)) HP.out).mono ?_; rintro e w1 ⟨rfl, e1⟩
  have HX1 : Hid (Ext w w1) := Lib.hid (((Ext.refl w).alloc _).trans e1)
  have HB0_1 : Hid (Blk w1 (w.heap.size) #[.string (qs p.n.x), .string (qs p.n.y), .string (qs p.n.z), .string (qs p.c)] 48) := Lib.hid (Blk.ext (Blk.new' (w := _) (cs := #[.string (qs p.n.x), .string (qs p.n.y), .string (qs p.n.z), .string (qs p.c)]) (t := 48) (by first | rfl | (simp only [World.size_alloc]; done) | (simp only [World.size_alloc]; omega) | simp)) e1)
  have HGEB0 : Hid (w.heap.size ≤ w.heap.size) := Lib.hid (by first | omega | (simp only []; omega) | (simp; omega))
  clear e1
  have c0_3 := HB0_1.out.cell 3 rfl
  go_wp2_with fail
  refine (fright_yes (qs p.c) _ (HG.out.ext HX1.out) (HPC.out.len (by decide)) (rq_qs HPC.out)).mono ?_; rintro e w2 ⟨rfl, e2⟩
  have HX2 : Hid (Ext w w2) := Lib.hid (HX1.out.trans e2)
  have HB0_2 := Lib.hid (Blk.ext HB0_1.out e2)
  clear e2 c0_3
  have c0_0 := HB0_2.out.cell 0 rfl
  have c0_1 := HB0_2.out.cell 1 rfl
  have c0_2 := HB0_2.out.cell 2 rfl
  go_wp2_with fail
  refine (szero_t p.n _ HZ.out).mono ?_; rintro e w3 ⟨rfl, e3⟩
  have HX3 : Hid (Ext w w3) := Lib.hid (HX2.out.trans e3)
  clear e3 c0_0 c0_1 c0_2
  go_wp2
  go_ret
  exact ⟨rfl, HX3.out⟩

set_option maxRecDepth 100000 in
set_option maxHeartbeats 4000000 in
theorem scp_n (p : Pl) (w : World) (g : Gd w) (hp : VB 200 p.n) (hpc : QB 200 p.c) (hz : ¬ (p.n.x = 0 ∧ p.n.y = 0 ∧ p.n.z = 0)) : Calls Tryz.prog 27 #[.agg #[.string (qs p.n.x), .string (qs p.n.y), .string (qs p.n.z), .string (qs p.c)]] w (Ret w (.int .i64 0)) := by
  have HP := Lib.hid hp
  have HPC := Lib.hid hpc
  have HZ := Lib.hid hz
  have HG := Lib.hid g
  clear hp hpc hz g
  go_enter Tryz.func27, Tryz.ntmps27
  go_wp2_with fail
  refine (sright_v p.n _ (HG.out.ext ((Ext.refl w).alloc _)) HP.out).mono ?_; rintro e w1 ⟨rfl, e1⟩
  have HX1 : Hid (Ext w w1) := Lib.hid (((Ext.refl w).alloc _).trans e1)
  have HB0_1 : Hid (Blk w1 (w.heap.size) #[.string (qs p.n.x), .string (qs p.n.y), .string (qs p.n.z), .string (qs p.c)] 48) := Lib.hid (Blk.ext (Blk.new' (w := _) (cs := #[.string (qs p.n.x), .string (qs p.n.y), .string (qs p.n.z), .string (qs p.c)]) (t := 48) (by first | rfl | (simp only [World.size_alloc]; done) | (simp only [World.size_alloc]; omega) | simp)) e1)
  have HGEB0 : Hid (w.heap.size ≤ w.heap.size) := Lib.hid (by first | omega | (simp only []; omega) | (simp; omega))
  clear e1
  have c0_3 := HB0_1.out.cell 3 rfl
  go_wp2_with fail
  refine (fright_yes (qs p.c) _ (HG.out.ext HX1.out) (HPC.out.len (by decide)) (rq_qs HPC.out)).mono ?_; rintro e w2 ⟨rfl, e2⟩
  have HX2 : Hid (Ext w w2) := Lib.hid (HX1.out.trans e2)
  have HB0_2 := Lib.hid (Blk.ext HB0_1.out e2)
  clear e2 c0_3
  have c0_0 := HB0_2.out.cell 0 rfl
  have c0_1 := HB0_2.out.cell 1 rfl
  have c0_2 := HB0_2.out.cell 2 rfl
  go_wp2_with fail
  refine (szero_f p.n _ HZ.out).mono ?_; rintro e w3 ⟨rfl, e3⟩
  have HX3 : Hid (Ext w w3) := Lib.hid (HX2.out.trans e3)
  clear e3 c0_0 c0_1 c0_2
  go_wp2
  go_ret
  exact ⟨rfl, HX3.out⟩
end Go.Proofs.YtglppcmegocphaaGreatDoor

namespace Go.Proofs.YtglppcmegocphaaGreatDoor
open Go Go.RowKit
set_option maxRecDepth 100000 in
set_option maxHeartbeats 2000000 in
theorem vAdd_err (a b : T3) (w : World) (g : Gd w) (ha : TS a) (hb : TS b) (he : verr [a, b] = 2) : Calls Tryz.prog 31 #[.agg #[.string a.x, .string a.y, .string a.z], .agg #[.string b.x, .string b.y, .string b.z]] w (Ret w (.tuple #[.agg #[.string ⟨#[]⟩, .string ⟨#[]⟩, .string ⟨#[]⟩], .int .i64 2])) := by
  have HA := Lib.hid ha
  have HB := Lib.hid hb
  have HE := Lib.hid he
  have HG := Lib.hid g
  clear ha hb he g
  go_enter Tryz.func31, Tryz.ntmps31
  go_wp2_with fail
  refine ((HE.out ▸ vectors2_c a b (w.heap.size + 1 + 1 + 1) _ (HG.out.ext (((((Ext.refl w).alloc _).alloc _).alloc _).alloc _)) HA.out HB.out (Blk.new' (w := _) (cs := #[.string a.x, .string a.y, .string a.z, .string b.x, .string b.y, .string b.z]) (t := 30) (by first | rfl | (simp only [World.size_alloc]; done) | (simp only [World.size_alloc]; omega) | simp)))).mono ?_; rintro e w1 ⟨rfl, e1⟩
  have HX1 : Hid (Ext w w1) := Lib.hid ((((((Ext.refl w).alloc _).alloc _).alloc _).alloc _).trans e1)
  have HB2_1 : Hid (Blk w1 (w.heap.size + 1 + 1) #[.string ⟨#[]⟩, .string ⟨#[]⟩, .string ⟨#[]⟩] 30) := Lib.hid (Blk.ext ((Blk.new' (w := _) (cs := #[.string ⟨#[]⟩, .string ⟨#[]⟩, .string ⟨#[]⟩]) (t := 30) (by first | rfl | (simp only [World.size_alloc]; done) | (simp only [World.size_alloc]; omega) | simp)).alloc _) e1)
  have HB3_1 : Hid (Blk w1 (w.heap.size + 1 + 1 + 1) #[.string a.x, .string a.y, .string a.z, .string b.x, .string b.y, .string b.z] 30) := Lib.hid (Blk.ext (Blk.new' (w := _) (cs := #[.string a.x, .string a.y, .string a.z, .string b.x, .string b.y, .string b.z]) (t := 30) (by first | rfl | (simp only [World.size_alloc]; done) | (simp only [World.size_alloc]; omega) | simp)) e1)
  have HGEB2 : Hid (w.heap.size ≤ w.heap.size + 1 + 1) := Lib.hid (by first | omega | (simp only []; omega) | (simp; omega))
  have HGEB3 : Hid (w.heap.size ≤ w.heap.size + 1 + 1 + 1) := Lib.hid (by first | omega | (simp only []; omega) | (simp; omega))
  clear e1
  have c2_0 := HB2_1.out.cell 0 rfl
  have f2_0 := HB2_1.out.free 0
  have c2_1 := HB2_1.out.cell 1 rfl
  have f2_1 := HB2_1.out.free 1
  have c2_2 := HB2_1.out.cell 2 rfl
  have f2_2 := HB2_1.out.free 2
  go_wp2_with fail
  refine wp_name (fun W => Ext w W ∧ Blk W (w.heap.size + 1 + 1) #[.string ⟨#[]⟩, .string ⟨#[]⟩, .string ⟨#[]⟩] 30) ⟨(((HX1.out.setCell (by have := HGEB2.out; first | omega | (simp only []; omega) | (simp; omega)) _).setCell (by have := HGEB2.out; first | omega | (simp only []; omega) | (simp; omega)) _).setCell (by have := HGEB2.out; first | omega | (simp only []; omega) | (simp; omega)) _), (((HB2_1.out.set 0 (.string ⟨#[]⟩)).set 1 (.string ⟨#[]⟩)).set 2 (.string ⟨#[]⟩))⟩ ?_
  rintro w2 ⟨e2, bB2_2⟩
  have HX2 := Lib.hid e2; have HB2_2 := Lib.hid bB2_2
  clear e2 bB2_2 c2_0 f2_0 c2_1 f2_1 c2_2 f2_2
  have gB2_0 := HB2_2.out.cell 0 rfl
  have gB2_1 := HB2_2.out.cell 1 rfl
  have gB2_2 := HB2_2.out.cell 2 rfl
  refine bodyPost_ret (v := .tuple #[.agg #[.string ⟨#[]⟩, .string ⟨#[]⟩, .string ⟨#[]⟩], .int .i64 2]) (by simp [results, Tryz.results31, go_sem, gB2_0, gB2_1, gB2_2]) rfl ⟨rfl, HX2.out⟩

set_option maxRecDepth 100000 in
set_option maxHeartbeats 2000000 in
theorem vSub_err (a b : T3) (w : World) (g : Gd w) (ha : TS a) (hb : TS b) (he : verr [a, b] = 2) : Calls Tryz.prog 35 #[.agg #[.string a.x, .string a.y, .string a.z], .agg #[.string b.x, .string b.y, .string b.z]] w (Ret w (.tuple #[.agg #[.string ⟨#[]⟩, .string ⟨#[]⟩, .string ⟨#[]⟩], .int .i64 2])) := by
  have HA := Lib.hid ha
  have HB := Lib.hid hb
  have HE := Lib.hid he
  have HG := Lib.hid g
  clear ha hb he g
  go_enter Tryz.func35, Tryz.ntmps35
  go_wp2_with fail
  refine ((HE.out ▸ vectors2_c a b (w.heap.size + 1 + 1 + 1) _ (HG.out.ext (((((Ext.refl w).alloc _).alloc _).alloc _).alloc _)) HA.out HB.out (Blk.new' (w := _) (cs := #[.string a.x, .string a.y, .string a.z, .string b.x, .string b.y, .string b.z]) (t := 30) (by first | rfl | (simp only [World.size_alloc]; done) | (simp only [World.size_alloc]; omega) | simp)))).mono ?_; rintro e w1 ⟨rfl, e1⟩
  have HX1 : Hid (Ext w w1) := Lib.hid ((((((Ext.refl w).alloc _).alloc _).alloc _).alloc _).trans e1)
  have HB2_1 : Hid (Blk w1 (w.heap.size + 1 + 1) #[.string ⟨#[]⟩, .string ⟨#[]⟩, .string ⟨#[]⟩] 30) := Lib.hid (Blk.ext ((Blk.new' (w := _) (cs := #[.string ⟨#[]⟩, .string ⟨#[]⟩, .string ⟨#[]⟩]) (t := 30) (by first | rfl | (simp only [World.size_alloc]; done) | (simp only [World.size_alloc]; omega) | simp)).alloc _) e1)
  have HB3_1 : Hid (Blk w1 (w.heap.size + 1 + 1 + 1) #[.string a.x, .string a.y, .string a.z, .string b.x, .string b.y, .string b.z] 30) := Lib.hid (Blk.ext (Blk.new' (w := _) (cs := #[.string a.x, .string a.y, .string a.z, .string b.x, .string b.y, .string b.z]) (t := 30) (by first | rfl | (simp only [World.size_alloc]; done) | (simp only [World.size_alloc]; omega) | simp)) e1)
  have HGEB2 : Hid (w.heap.size ≤ w.heap.size + 1 + 1) := Lib.hid (by first | omega | (simp only []; omega) | (simp; omega))
  have HGEB3 : Hid (w.heap.size ≤ w.heap.size + 1 + 1 + 1) := Lib.hid (by first | omega | (simp only []; omega) | (simp; omega))
  clear e1
  have c2_0 := HB2_1.out.cell 0 rfl
  have f2_0 := HB2_1.out.free 0
  have c2_1 := HB2_1.out.cell 1 rfl
  have f2_1 := HB2_1.out.free 1
  have c2_2 := HB2_1.out.cell 2 rfl
  have f2_2 := HB2_1.out.free 2
  go_wp2_with fail
  refine wp_name (fun W => Ext w W ∧ Blk W (w.heap.size + 1 + 1) #[.string ⟨#[]⟩, .string ⟨#[]⟩, .string ⟨#[]⟩] 30) ⟨(((HX1.out.setCell (by have := HGEB2.out; first | omega | (simp only []; omega) | (simp; omega)) _).setCell (by have := HGEB2.out; first | omega | (simp only []; omega) | (simp; omega)) _).setCell (by have := HGEB2.out; first | omega | (simp only []; omega) | (simp; omega)) _), (((HB2_1.out.set 0 (.string ⟨#[]⟩)).set 1 (.string ⟨#[]⟩)).set 2 (.string ⟨#[]⟩))⟩ ?_
  rintro w2 ⟨e2, bB2_2⟩
  have HX2 := Lib.hid e2; have HB2_2 := Lib.hid bB2_2
  clear e2 bB2_2 c2_0 f2_0 c2_1 f2_1 c2_2 f2_2
  have gB2_0 := HB2_2.out.cell 0 rfl
  have gB2_1 := HB2_2.out.cell 1 rfl
  have gB2_2 := HB2_2.out.cell 2 rfl
  refine bodyPost_ret (v := .tuple #[.agg #[.string ⟨#[]⟩, .string ⟨#[]⟩, .string ⟨#[]⟩], .int .i64 2]) (by simp [results, Tryz.results35, go_sem, gB2_0, gB2_1, gB2_2]) rfl ⟨rfl, HX2.out⟩

set_option maxRecDepth 100000 in
set_option maxHeartbeats 2000000 in
theorem vDot_err (a b : T3) (w : World) (g : Gd w) (ha : TS a) (hb : TS b) (he : verr [a, b] = 2) : Calls Tryz.prog 30 #[.agg #[.string a.x, .string a.y, .string a.z], .agg #[.string b.x, .string b.y, .string b.z]] w (Ret w (.tuple #[.string ⟨#[]⟩, .int .i64 2])) := by
  have HA := Lib.hid ha
  have HB := Lib.hid hb
  have HE := Lib.hid he
  have HG := Lib.hid g
  clear ha hb he g
  go_enter Tryz.func30, Tryz.ntmps30
  go_wp2_with fail
  refine ((HE.out ▸ vectors2_c a b (w.heap.size + 1 + 1) _ (HG.out.ext ((((Ext.refl w).alloc _).alloc _).alloc _)) HA.out HB.out (Blk.new' (w := _) (cs := #[.string a.x, .string a.y, .string a.z, .string b.x, .string b.y, .string b.z]) (t := 30) (by first | rfl | (simp only [World.size_alloc]; done) | (simp only [World.size_alloc]; omega) | simp)))).mono ?_; rintro e w1 ⟨rfl, e1⟩
  have HX1 : Hid (Ext w w1) := Lib.hid (((((Ext.refl w).alloc _).alloc _).alloc _).trans e1)
  have HB2_1 : Hid (Blk w1 (w.heap.size + 1 + 1) #[.string a.x, .string a.y, .string a.z, .string b.x, .string b.y, .string b.z] 30) := Lib.hid (Blk.ext (Blk.new' (w := _) (cs := #[.string a.x, .string a.y, .string a.z, .string b.x, .string b.y, .string b.z]) (t := 30) (by first | rfl | (simp only [World.size_alloc]; done) | (simp only [World.size_alloc]; omega) | simp)) e1)
  have HGEB2 : Hid (w.heap.size ≤ w.heap.size + 1 + 1) := Lib.hid (by first | omega | (simp only []; omega) | (simp; omega))
  clear e1
  go_wp2
  go_ret2
  exact ⟨rfl, HX1.out⟩

set_option maxRecDepth 100000 in
set_option maxHeartbeats 2000000 in
theorem vCross_err (a b : T3) (w : World) (g : Gd w) (ha : TS a) (hb : TS b) (he : verr [a, b] = 2) : Calls Tryz.prog 29 #[.agg #[.string a.x, .string a.y, .string a.z], .agg #[.string b.x, .string b.y, .string b.z]] w (Ret w (.tuple #[.agg #[.string ⟨#[]⟩, .string ⟨#[]⟩, .string ⟨#[]⟩], .int .i64 2])) := by
  have HA := Lib.hid ha
  have HB := Lib.hid hb
  have HE := Lib.hid he
  have HG := Lib.hid g
  clear ha hb he g
  go_enter Tryz.func29, Tryz.ntmps29
  go_wp2_with fail
  refine ((HE.out ▸ vectors2_c a b (w.heap.size + 1 + 1 + 1) _ (HG.out.ext (((((Ext.refl w).alloc _).alloc _).alloc _).alloc _)) HA.out HB.out (Blk.new' (w := _) (cs := #[.string a.x, .string a.y, .string a.z, .string b.x, .string b.y, .string b.z]) (t := 30) (by first | rfl | (simp only [World.size_alloc]; done) | (simp only [World.size_alloc]; omega) | simp)))).mono ?_; rintro e w1 ⟨rfl, e1⟩
  have HX1 : Hid (Ext w w1) := Lib.hid ((((((Ext.refl w).alloc _).alloc _).alloc _).alloc _).trans e1)
  have HB2_1 : Hid (Blk w1 (w.heap.size + 1 + 1) #[.string ⟨#[]⟩, .string ⟨#[]⟩, .string ⟨#[]⟩] 30) := Lib.hid (Blk.ext ((Blk.new' (w := _) (cs := #[.string ⟨#[]⟩, .string ⟨#[]⟩, .string ⟨#[]⟩]) (t := 30) (by first | rfl | (simp only [World.size_alloc]; done) | (simp only [World.size_alloc]; omega) | simp)).alloc _) e1)
  have HB3_1 : Hid (Blk w1 (w.heap.size + 1 + 1 + 1) #[.string a.x, .string a.y, .string a.z, .string b.x, .string b.y, .string b.z] 30) := Lib.hid (Blk.ext (Blk.new' (w := _) (cs := #[.string a.x, .string a.y, .string a.z, .string b.x, .string b.y, .string b.z]) (t := 30) (by first | rfl | (simp only [World.size_alloc]; done) | (simp only [World.size_alloc]; omega) | simp)) e1)
  have HGEB2 : Hid (w.heap.size ≤ w.heap.size + 1 + 1) := Lib.hid (by first | omega | (simp only []; omega) | (simp; omega))
  have HGEB3 : Hid (w.heap.size ≤ w.heap.size + 1 + 1 + 1) := Lib.hid (by first | omega | (simp only []; omega) | (simp; omega))
  clear e1
  have c2_0 := HB2_1.out.cell 0 rfl
  have f2_0 := HB2_1.out.free 0
  have c2_1 := HB2_1.out.cell 1 rfl
  have f2_1 := HB2_1.out.free 1
  have c2_2 := HB2_1.out.cell 2 rfl
  have f2_2 := HB2_1.out.free 2
  go_wp2_with fail
  refine wp_name (fun W => Ext w W ∧ Blk W (w.heap.size + 1 + 1) #[.string ⟨#[]⟩, .string ⟨#[]⟩, .string ⟨#[]⟩] 30) ⟨(((HX1.out.setCell (by have := HGEB2.out; first | omega | (simp only []; omega) | (simp; omega)) _).setCell (by have := HGEB2.out; first | omega | (simp only []; omega) | (simp; omega)) _).setCell (by have := HGEB2.out; first | omega | (simp only []; omega) | (simp; omega)) _), (((HB2_1.out.set 0 (.string ⟨#[]⟩)).set 1 (.string ⟨#[]⟩)).set 2 (.string ⟨#[]⟩))⟩ ?_
  rintro w2 ⟨e2, bB2_2⟩
  have HX2 := Lib.hid e2; have HB2_2 := Lib.hid bB2_2
  clear e2 bB2_2 c2_0 f2_0 c2_1 f2_1 c2_2 f2_2
  have gB2_0 := HB2_2.out.cell 0 rfl
  have gB2_1 := HB2_2.out.cell 1 rfl
  have gB2_2 := HB2_2.out.cell 2 rfl
  refine bodyPost_ret (v := .tuple #[.agg #[.string ⟨#[]⟩, .string ⟨#[]⟩, .string ⟨#[]⟩], .int .i64 2]) (by simp [results, Tryz.results29, go_sem, gB2_0, gB2_1, gB2_2]) rfl ⟨rfl, HX2.out⟩

set_option maxRecDepth 100000 in
set_option maxHeartbeats 2000000 in
theorem vParallel_err (a b : T3) (w : World) (g : Gd w) (ha : TS a) (hb : TS b) (he : verr [a, b] = 2) : Calls Tryz.prog 37 #[.agg #[.string a.x, .string a.y, .string a.z], .agg #[.string b.x, .string b.y, .string b.z]] w (Ret w (.tuple #[.bool false, .int .i64 2])) := by
  have HA := Lib.hid ha
  have HB := Lib.hid hb
  have HE := Lib.hid he
  have HG := Lib.hid g
  clear ha hb he g
  go_enter Tryz.func37, Tryz.ntmps37
  go_wp2_with fail
  refine ((HE.out ▸ vectors2_c a b (w.heap.size + 1 + 1) _ (HG.out.ext ((((Ext.refl w).alloc _).alloc _).alloc _)) HA.out HB.out (Blk.new' (w := _) (cs := #[.string a.x, .string a.y, .string a.z, .string b.x, .string b.y, .string b.z]) (t := 30) (by first | rfl | (simp only [World.size_alloc]; done) | (simp only [World.size_alloc]; omega) | simp)))).mono ?_; rintro e w1 ⟨rfl, e1⟩
  have HX1 : Hid (Ext w w1) := Lib.hid (((((Ext.refl w).alloc _).alloc _).alloc _).trans e1)
  have HB2_1 : Hid (Blk w1 (w.heap.size + 1 + 1) #[.string a.x, .string a.y, .string a.z, .string b.x, .string b.y, .string b.z] 30) := Lib.hid (Blk.ext (Blk.new' (w := _) (cs := #[.string a.x, .string a.y, .string a.z, .string b.x, .string b.y, .string b.z]) (t := 30) (by first | rfl | (simp only [World.size_alloc]; done) | (simp only [World.size_alloc]; omega) | simp)) e1)
  have HGEB2 : Hid (w.heap.size ≤ w.heap.size + 1 + 1) := Lib.hid (by first | omega | (simp only []; omega) | (simp; omega))
  clear e1
  go_wp2
  go_ret2
  exact ⟨rfl, HX1.out⟩

set_option maxRecDepth 100000 in
set_option maxHeartbeats 2000000 in
theorem vScale_err (a : T3) (k : ByteArray) (w : World) (g : Gd w) (ha : TS a) (he : verr [a] = 2) : Calls Tryz.prog 36 #[.agg #[.string a.x, .string a.y, .string a.z], .string k] w (Ret w (.tuple #[.agg #[.string ⟨#[]⟩, .string ⟨#[]⟩, .string ⟨#[]⟩], .int .i64 2])) := by
  have HA := Lib.hid ha
  have HE := Lib.hid he
  have HG := Lib.hid g
  clear ha he g
  go_enter Tryz.func36, Tryz.ntmps36
  go_wp2_with fail
  refine ((HE.out ▸ vectors1_c a (w.heap.size + 1 + 1) _ (HG.out.ext ((((Ext.refl w).alloc _).alloc _).alloc _)) HA.out (Blk.new' (w := _) (cs := #[.string a.x, .string a.y, .string a.z]) (t := 30) (by first | rfl | (simp only [World.size_alloc]; done) | (simp only [World.size_alloc]; omega) | simp)))).mono ?_; rintro e w1 ⟨rfl, e1⟩
  have HX1 : Hid (Ext w w1) := Lib.hid (((((Ext.refl w).alloc _).alloc _).alloc _).trans e1)
  have HB1_1 : Hid (Blk w1 (w.heap.size + 1) #[.string ⟨#[]⟩, .string ⟨#[]⟩, .string ⟨#[]⟩] 30) := Lib.hid (Blk.ext ((Blk.new' (w := _) (cs := #[.string ⟨#[]⟩, .string ⟨#[]⟩, .string ⟨#[]⟩]) (t := 30) (by first | rfl | (simp only [World.size_alloc]; done) | (simp only [World.size_alloc]; omega) | simp)).alloc _) e1)
  have HB2_1 : Hid (Blk w1 (w.heap.size + 1 + 1) #[.string a.x, .string a.y, .string a.z] 30) := Lib.hid (Blk.ext (Blk.new' (w := _) (cs := #[.string a.x, .string a.y, .string a.z]) (t := 30) (by first | rfl | (simp only [World.size_alloc]; done) | (simp only [World.size_alloc]; omega) | simp)) e1)
  have HGEB1 : Hid (w.heap.size ≤ w.heap.size + 1) := Lib.hid (by first | omega | (simp only []; omega) | (simp; omega))
  have HGEB2 : Hid (w.heap.size ≤ w.heap.size + 1 + 1) := Lib.hid (by first | omega | (simp only []; omega) | (simp; omega))
  clear e1
  have c1_0 := HB1_1.out.cell 0 rfl
  have f1_0 := HB1_1.out.free 0
  have c1_1 := HB1_1.out.cell 1 rfl
  have f1_1 := HB1_1.out.free 1
  have c1_2 := HB1_1.out.cell 2 rfl
  have f1_2 := HB1_1.out.free 2
  go_wp2_with fail
  refine wp_name (fun W => Ext w W ∧ Blk W (w.heap.size + 1) #[.string ⟨#[]⟩, .string ⟨#[]⟩, .string ⟨#[]⟩] 30) ⟨(((HX1.out.setCell (by have := HGEB1.out; first | omega | (simp only []; omega) | (simp; omega)) _).setCell (by have := HGEB1.out; first | omega | (simp only []; omega) | (simp; omega)) _).setCell (by have := HGEB1.out; first | omega | (simp only []; omega) | (simp; omega)) _), (((HB1_1.out.set 0 (.string ⟨#[]⟩)).set 1 (.string ⟨#[]⟩)).set 2 (.string ⟨#[]⟩))⟩ ?_
  rintro w2 ⟨e2, bB1_2⟩
  have HX2 := Lib.hid e2; have HB1_2 := Lib.hid bB1_2
  clear e2 bB1_2 c1_0 f1_0 c1_1 f1_1 c1_2 f1_2
  have gB1_0 := HB1_2.out.cell 0 rfl
  have gB1_1 := HB1_2.out.cell 1 rfl
  have gB1_2 := HB1_2.out.cell 2 rfl
  refine bodyPost_ret (v := .tuple #[.agg #[.string ⟨#[]⟩, .string ⟨#[]⟩, .string ⟨#[]⟩], .int .i64 2]) (by simp [results, Tryz.results36, go_sem, gB1_0, gB1_1, gB1_2]) rfl ⟨rfl, HX2.out⟩

set_option maxRecDepth 100000 in
set_option maxHeartbeats 2000000 in
theorem vScale_err2 (a : T3) (k : ByteArray) (w : World) (g : Gd w) (ha : TS a) (hk : k.size ≤ 1000000) (he : verr [a] = 0) (hf : terr [k] = 2) : Calls Tryz.prog 36 #[.agg #[.string a.x, .string a.y, .string a.z], .string k] w (Ret w (.tuple #[.agg #[.string ⟨#[]⟩, .string ⟨#[]⟩, .string ⟨#[]⟩], .int .i64 2])) := by
  have HA := Lib.hid ha
  have HK := Lib.hid hk
  have HE := Lib.hid he
  have HF := Lib.hid hf
  have HG := Lib.hid g
  clear ha hk he hf g
  go_enter Tryz.func36, Tryz.ntmps36
  go_wp2_with fail
  refine ((HE.out ▸ vectors1_c a (w.heap.size + 1 + 1) _ (HG.out.ext ((((Ext.refl w).alloc _).alloc _).alloc _)) HA.out (Blk.new' (w := _) (cs := #[.string a.x, .string a.y, .string a.z]) (t := 30) (by first | rfl | (simp only [World.size_alloc]; done) | (simp only [World.size_alloc]; omega) | simp)))).mono ?_; rintro e w1 ⟨rfl, e1⟩
  have HX1 : Hid (Ext w w1) := Lib.hid (((((Ext.refl w).alloc _).alloc _).alloc _).trans e1)
  have HB1_1 : Hid (Blk w1 (w.heap.size + 1) #[.string ⟨#[]⟩, .string ⟨#[]⟩, .string ⟨#[]⟩] 30) := Lib.hid (Blk.ext ((Blk.new' (w := _) (cs := #[.string ⟨#[]⟩, .string ⟨#[]⟩, .string ⟨#[]⟩]) (t := 30) (by first | rfl | (simp only [World.size_alloc]; done) | (simp only [World.size_alloc]; omega) | simp)).alloc _) e1)
  have HB2_1 : Hid (Blk w1 (w.heap.size + 1 + 1) #[.string a.x, .string a.y, .string a.z] 30) := Lib.hid (Blk.ext (Blk.new' (w := _) (cs := #[.string a.x, .string a.y, .string a.z]) (t := 30) (by first | rfl | (simp only [World.size_alloc]; done) | (simp only [World.size_alloc]; omega) | simp)) e1)
  have HGEB1 : Hid (w.heap.size ≤ w.heap.size + 1) := Lib.hid (by first | omega | (simp only []; omega) | (simp; omega))
  have HGEB2 : Hid (w.heap.size ≤ w.heap.size + 1 + 1) := Lib.hid (by first | omega | (simp only []; omega) | (simp; omega))
  clear e1
  go_wp2_with fail
  refine ((HF.out ▸ numbers1_c k (w1.heap.size) _ (HG.out.ext (HX1.out.alloc _)) HK.out (Blk.new' (w := _) (cs := #[.string k]) (t := 28) (by first | rfl | (simp only [World.size_alloc]; done) | (simp only [World.size_alloc]; omega) | simp)))).mono ?_; rintro e w2 ⟨rfl, e2⟩
  have HX2 : Hid (Ext w w2) := Lib.hid ((HX1.out.alloc _).trans e2)
  have HB1_2 : Hid (Blk w2 (w.heap.size + 1) #[.string ⟨#[]⟩, .string ⟨#[]⟩, .string ⟨#[]⟩] 30) := Lib.hid (Blk.ext (HB1_1.out.alloc _) e2)
  have HB3_2 : Hid (Blk w2 (w1.heap.size) #[.string k] 28) := Lib.hid (Blk.ext (Blk.new' (w := _) (cs := #[.string k]) (t := 28) (by first | rfl | (simp only [World.size_alloc]; done) | (simp only [World.size_alloc]; omega) | simp)) e2)
  have HGEB3 : Hid (w.heap.size ≤ w1.heap.size) := Lib.hid (by have := HX1.out.size; first | omega | (simp only []; omega) | (simp; omega))
  clear e2
  have c1_0 := HB1_2.out.cell 0 rfl
  have f1_0 := HB1_2.out.free 0
  have c1_1 := HB1_2.out.cell 1 rfl
  have f1_1 := HB1_2.out.free 1
  have c1_2 := HB1_2.out.cell 2 rfl
  have f1_2 := HB1_2.out.free 2
  go_wp2_with fail
  refine wp_name (fun W => Ext w W ∧ Blk W (w.heap.size + 1) #[.string ⟨#[]⟩, .string ⟨#[]⟩, .string ⟨#[]⟩] 30) ⟨(((HX2.out.setCell (by have := HGEB1.out; first | omega | (simp only []; omega) | (simp; omega)) _).setCell (by have := HGEB1.out; first | omega | (simp only []; omega) | (simp; omega)) _).setCell (by have := HGEB1.out; first | omega | (simp only []; omega) | (simp; omega)) _), (((HB1_2.out.set 0 (.string ⟨#[]⟩)).set 1 (.string ⟨#[]⟩)).set 2 (.string ⟨#[]⟩))⟩ ?_
  rintro w3 ⟨e3, bB1_3⟩
  have HX3 := Lib.hid e3; have HB1_3 := Lib.hid bB1_3
  clear e3 bB1_3 c1_0 f1_0 c1_1 f1_1 c1_2 f1_2
  have gB1_0 := HB1_3.out.cell 0 rfl
  have gB1_1 := HB1_3.out.cell 1 rfl
  have gB1_2 := HB1_3.out.cell 2 rfl
  refine bodyPost_ret (v := .tuple #[.agg #[.string ⟨#[]⟩, .string ⟨#[]⟩, .string ⟨#[]⟩], .int .i64 2]) (by simp [results, Tryz.results36, go_sem, gB1_0, gB1_1, gB1_2]) rfl ⟨rfl, HX3.out⟩

set_option maxRecDepth 100000 in
set_option maxHeartbeats 2000000 in
theorem vPlane_err (a : T3) (k : ByteArray) (w : World) (g : Gd w) (ha : TS a) (hk : k.size ≤ 1000000) (he : terr [a.x, a.y, a.z, k] = 2) : Calls Tryz.prog 58 #[.agg #[.string a.x, .string a.y, .string a.z, .string k]] w (Ret w (.int .i64 2)) := by
  have HA := Lib.hid ha
  have HK := Lib.hid hk
  have HE := Lib.hid he
  have HG := Lib.hid g
  clear ha hk he g
  go_enter Tryz.func58, Tryz.ntmps58
  go_wp2_with fail
  refine ((HE.out ▸ numbers4_c a.x a.y a.z k (w.heap.size + 1) _ (HG.out.ext (((Ext.refl w).alloc _).alloc _)) HA.out.x HA.out.y HA.out.z HK.out (Blk.new' (w := _) (cs := #[.string a.x, .string a.y, .string a.z, .string k]) (t := 28) (by first | rfl | (simp only [World.size_alloc]; done) | (simp only [World.size_alloc]; omega) | simp)))).mono ?_; rintro e w1 ⟨rfl, e1⟩
  have HX1 : Hid (Ext w w1) := Lib.hid ((((Ext.refl w).alloc _).alloc _).trans e1)
  have HB1_1 : Hid (Blk w1 (w.heap.size + 1) #[.string a.x, .string a.y, .string a.z, .string k] 28) := Lib.hid (Blk.ext (Blk.new' (w := _) (cs := #[.string a.x, .string a.y, .string a.z, .string k]) (t := 28) (by first | rfl | (simp only [World.size_alloc]; done) | (simp only [World.size_alloc]; omega) | simp)) e1)
  have HGEB1 : Hid (w.heap.size ≤ w.heap.size + 1) := Lib.hid (by first | omega | (simp only []; omega) | (simp; omega))
  clear e1
  go_wp2
  go_ret
  exact ⟨rfl, HX1.out⟩

set_option maxRecDepth 100000 in
set_option maxHeartbeats 2000000 in
theorem vSide_err (a : T3) (k : ByteArray) (w : World) (g : Gd w) (ha : TS a) (hk : k.size ≤ 1000000) (b : T3) (he : terr [a.x, a.y, a.z, k] = 2) : Calls Tryz.prog 51 #[.agg #[.string a.x, .string a.y, .string a.z, .string k], .agg #[.string b.x, .string b.y, .string b.z]] w (Ret w (.tuple #[.int .i64 0, .int .i64 2])) := by
  have HA := Lib.hid ha
  have HK := Lib.hid hk
  have HE := Lib.hid he
  have HG := Lib.hid g
  clear ha hk he g
  go_enter Tryz.func51, Tryz.ntmps51
  go_wp2_with fail
  refine (vPlane_err a k _ (HG.out.ext (((Ext.refl w).alloc _).alloc _)) HA.out HK.out HE.out).mono ?_; rintro e w1 ⟨rfl, e1⟩
  have HX1 : Hid (Ext w w1) := Lib.hid ((((Ext.refl w).alloc _).alloc _).trans e1)
  clear e1
  go_wp2
  go_ret2
  exact ⟨rfl, HX1.out⟩

set_option maxRecDepth 100000 in
set_option maxHeartbeats 2000000 in
theorem vSide_zero (p : Pl) (b : T3) (w : World) (g : Gd w) (hp : VB 200 p.n) (hpc : QB 200 p.c) (hz : p.n.x = 0 ∧ p.n.y = 0 ∧ p.n.z = 0) : Calls Tryz.prog 51 #[.agg #[.string (qs p.n.x), .string (qs p.n.y), .string (qs p.n.z), .string (qs p.c)], .agg #[.string b.x, .string b.y, .string b.z]] w (Ret w (.tuple #[.int .i64 0, .int .i64 17])) := by
  have HP := Lib.hid hp
  have HPC := Lib.hid hpc
  have HZ := Lib.hid hz
  have HG := Lib.hid g
  clear hp hpc hz g
  go_enter Tryz.func51, Tryz.ntmps51
  go_wp2_with fail
  refine (vPlane_zero p _ (HG.out.ext (((Ext.refl w).alloc _).alloc _)) HP.out HPC.out HZ.out).mono ?_; rintro e w1 ⟨rfl, e1⟩
  have HX1 : Hid (Ext w w1) := Lib.hid ((((Ext.refl w).alloc _).alloc _).trans e1)
  clear e1
  go_wp2
  go_ret2
  exact ⟨rfl, HX1.out⟩

set_option maxRecDepth 100000 in
set_option maxHeartbeats 2000000 in
theorem vSide_b (p : Pl) (b : T3) (w : World) (g : Gd w) (hp : VB 200 p.n) (hpc : QB 200 p.c) (hz : ¬ (p.n.x = 0 ∧ p.n.y = 0 ∧ p.n.z = 0)) (hb : TS b) (he : terr b.l = 2) : Calls Tryz.prog 51 #[.agg #[.string (qs p.n.x), .string (qs p.n.y), .string (qs p.n.z), .string (qs p.c)], .agg #[.string b.x, .string b.y, .string b.z]] w (Ret w (.tuple #[.int .i64 0, .int .i64 2])) := by
  have HP := Lib.hid hp
  have HPC := Lib.hid hpc
  have HZ := Lib.hid hz
  have HB := Lib.hid hb
  have HE := Lib.hid he
  have HG := Lib.hid g
  clear hp hpc hz hb he g
  go_enter Tryz.func51, Tryz.ntmps51
  go_wp2_with fail
  refine (vPlane_ok p _ (HG.out.ext (((Ext.refl w).alloc _).alloc _)) HP.out HPC.out HZ.out).mono ?_; rintro e w1 ⟨rfl, e1⟩
  have HX1 : Hid (Ext w w1) := Lib.hid ((((Ext.refl w).alloc _).alloc _).trans e1)
  have HB1_1 : Hid (Blk w1 (w.heap.size + 1) #[.string b.x, .string b.y, .string b.z] 30) := Lib.hid (Blk.ext (Blk.new' (w := _) (cs := #[.string b.x, .string b.y, .string b.z]) (t := 30) (by first | rfl | (simp only [World.size_alloc]; done) | (simp only [World.size_alloc]; omega) | simp)) e1)
  have HGEB1 : Hid (w.heap.size ≤ w.heap.size + 1) := Lib.hid (by first | omega | (simp only []; omega) | (simp; omega))
  clear e1
  have c1_0 := HB1_1.out.cell 0 rfl
  have c1_1 := HB1_1.out.cell 1 rfl
  have c1_2 := HB1_1.out.cell 2 rfl
  go_wp2_with fail
  refine ((HE.out ▸ vcheck_c b _ (HG.out.ext HX1.out) HB.out)).mono ?_; rintro e w2 ⟨rfl, e2⟩
  have HX2 : Hid (Ext w w2) := Lib.hid (HX1.out.trans e2)
  clear e2 c1_0 c1_1 c1_2
  go_wp2
  go_ret2
  exact ⟨rfl, HX2.out⟩

set_option maxRecDepth 100000 in
set_option maxHeartbeats 2000000 in
theorem scp_e0 (a : T3) (k : ByteArray) (w : World) (g : Gd w) (ha : TS a) (hr : a.l.all rq = false) : Calls Tryz.prog 27 #[.agg #[.string a.x, .string a.y, .string a.z, .string k]] w (Ret w (.int .i64 2)) := by
  have HA := Lib.hid ha
  have HR := Lib.hid hr
  have HG := Lib.hid g
  clear ha hr g
  go_enter Tryz.func27, Tryz.ntmps27
  go_wp2_with fail
  refine ((HR.out ▸ sright_c a _ (HG.out.ext ((Ext.refl w).alloc _)) HA.out)).mono ?_; rintro e w1 ⟨rfl, e1⟩
  have HX1 : Hid (Ext w w1) := Lib.hid (((Ext.refl w).alloc _).trans e1)
  clear e1
  go_wp2
  go_ret
  exact ⟨rfl, HX1.out⟩

set_option maxRecDepth 100000 in
set_option maxHeartbeats 2000000 in
theorem scp_e1 (a : T3) (k : ByteArray) (w : World) (g : Gd w) (ha : TS a) (hr : a.l.all rq = true) (hk : k.size ≤ 1000000) (hq : rq k = false) : Calls Tryz.prog 27 #[.agg #[.string a.x, .string a.y, .string a.z, .string k]] w (Ret w (.int .i64 2)) := by
  have HA := Lib.hid ha
  have HR := Lib.hid hr
  have HK := Lib.hid hk
  have HQ := Lib.hid hq
  have HG := Lib.hid g
  clear ha hr hk hq g
  go_enter Tryz.func27, Tryz.ntmps27
  go_wp2_with fail
  refine ((HR.out ▸ sright_c a _ (HG.out.ext ((Ext.refl w).alloc _)) HA.out)).mono ?_; rintro e w1 ⟨rfl, e1⟩
  have HX1 : Hid (Ext w w1) := Lib.hid (((Ext.refl w).alloc _).trans e1)
  have HB0_1 : Hid (Blk w1 (w.heap.size) #[.string a.x, .string a.y, .string a.z, .string k] 48) := Lib.hid (Blk.ext (Blk.new' (w := _) (cs := #[.string a.x, .string a.y, .string a.z, .string k]) (t := 48) (by first | rfl | (simp only [World.size_alloc]; done) | (simp only [World.size_alloc]; omega) | simp)) e1)
  have HGEB0 : Hid (w.heap.size ≤ w.heap.size) := Lib.hid (by first | omega | (simp only []; omega) | (simp; omega))
  clear e1
  have c0_3 := HB0_1.out.cell 3 rfl
  go_wp2_with fail
  refine (fright_no k _ (HG.out.ext HX1.out) HK.out HQ.out).mono ?_; rintro e w2 ⟨rfl, e2⟩
  have HX2 : Hid (Ext w w2) := Lib.hid (HX1.out.trans e2)
  clear e2 c0_3
  go_wp2
  go_ret
  exact ⟨rfl, HX2.out⟩

set_option maxRecDepth 100000 in
set_option maxHeartbeats 2000000 in
theorem of_0 (a : T3) (w : World) (g : Gd w) (ha : TS a) (hr : a.l.all rq = true) : Calls Tryz.prog 55 #[.agg #[.string a.x, .string a.y, .string a.z]] w (Ret w (.int .i64 0)) := by
  have HA := Lib.hid ha
  have HR := Lib.hid hr
  have HG := Lib.hid g
  clear ha hr g
  go_enter Tryz.func55, Tryz.ntmps55
  go_wp2_with fail
  refine ((HR.out ▸ sright_c a _ (HG.out.ext ((Ext.refl w).alloc _)) HA.out)).mono ?_; rintro e w1 ⟨rfl, e1⟩
  have HX1 : Hid (Ext w w1) := Lib.hid (((Ext.refl w).alloc _).trans e1)
  clear e1
  go_wp2
  go_ret
  exact ⟨rfl, HX1.out⟩

set_option maxRecDepth 100000 in
set_option maxHeartbeats 2000000 in
theorem ofp_0 (a : T2) (w : World) (g : Gd w) (ha : TS2 a) (hr : a.l.all rq = true) : Calls Tryz.prog 57 #[.agg #[.string a.x, .string a.y]] w (Ret w (.int .i64 0)) := by
  have HA := Lib.hid ha
  have HR := Lib.hid hr
  have HG := Lib.hid g
  clear ha hr g
  go_enter Tryz.func57, Tryz.ntmps57
  go_wp2_with fail
  refine ((HR.out ▸ srightp_c a _ (HG.out.ext ((Ext.refl w).alloc _)) HA.out)).mono ?_; rintro e w1 ⟨rfl, e1⟩
  have HX1 : Hid (Ext w w1) := Lib.hid (((Ext.refl w).alloc _).trans e1)
  clear e1
  go_wp2
  go_ret
  exact ⟨rfl, HX1.out⟩

set_option maxRecDepth 100000 in
set_option maxHeartbeats 2000000 in
theorem of_2 (a : T3) (w : World) (g : Gd w) (ha : TS a) (hr : a.l.all rq = false) : Calls Tryz.prog 55 #[.agg #[.string a.x, .string a.y, .string a.z]] w (Ret w (.int .i64 2)) := by
  have HA := Lib.hid ha
  have HR := Lib.hid hr
  have HG := Lib.hid g
  clear ha hr g
  go_enter Tryz.func55, Tryz.ntmps55
  go_wp2_with fail
  refine ((HR.out ▸ sright_c a _ (HG.out.ext ((Ext.refl w).alloc _)) HA.out)).mono ?_; rintro e w1 ⟨rfl, e1⟩
  have HX1 : Hid (Ext w w1) := Lib.hid (((Ext.refl w).alloc _).trans e1)
  clear e1
  go_wp2
  go_ret
  exact ⟨rfl, HX1.out⟩

set_option maxRecDepth 100000 in
set_option maxHeartbeats 2000000 in
theorem ofp_2 (a : T2) (w : World) (g : Gd w) (ha : TS2 a) (hr : a.l.all rq = false) : Calls Tryz.prog 57 #[.agg #[.string a.x, .string a.y]] w (Ret w (.int .i64 2)) := by
  have HA := Lib.hid ha
  have HR := Lib.hid hr
  have HG := Lib.hid g
  clear ha hr g
  go_enter Tryz.func57, Tryz.ntmps57
  go_wp2_with fail
  refine ((HR.out ▸ srightp_c a _ (HG.out.ext ((Ext.refl w).alloc _)) HA.out)).mono ?_; rintro e w1 ⟨rfl, e1⟩
  have HX1 : Hid (Ext w w1) := Lib.hid (((Ext.refl w).alloc _).trans e1)
  clear e1
  go_wp2
  go_ret
  exact ⟨rfl, HX1.out⟩

theorem ofe_c (a : T3) (w : World) (g : Gd w) (ha : TS a) : Calls Tryz.prog 55 #[tv a] w (Ret w (.int .i64 (terr a.l))) := by
  cases h : a.l.all rq with
  | true => rw [terr_0 h]; exact of_0 a w g ha h
  | false => rw [terr_2 h]; exact of_2 a w g ha h
theorem ofpe_c (a : T2) (w : World) (g : Gd w) (ha : TS2 a) : Calls Tryz.prog 57 #[tp a] w (Ret w (.int .i64 (terr a.l))) := by
  cases h : a.l.all rq with
  | true => rw [terr_0 h]; exact ofp_0 a w g ha h
  | false => rw [terr_2 h]; exact ofp_2 a w g ha h

set_option maxRecDepth 100000 in
set_option maxHeartbeats 2000000 in
theorem short_0 (a : T3) (w : World)  (h0 : 40 < a.x.size) : Calls Tryz.prog 53 #[.agg #[.string a.x, .string a.y, .string a.z], .int .i64 40] w (Ret w (.bool false)) := by
  have t0 : decide ((a.x.size : Int) ≤ 40) = false := decide_eq_false (by omega)
  go_enter Tryz.func53, Tryz.ntmps53
  go_wp2
  go_ret
  exact ⟨rfl, ((Ext.refl w).alloc _)⟩

set_option maxRecDepth 100000 in
set_option maxHeartbeats 2000000 in
theorem short_1 (a : T3) (w : World) (h0 : a.x.size ≤ 40) (h1 : 40 < a.y.size) : Calls Tryz.prog 53 #[.agg #[.string a.x, .string a.y, .string a.z], .int .i64 40] w (Ret w (.bool false)) := by
  have t0 : decide ((a.x.size : Int) ≤ 40) = true := decide_eq_true (by omega)
  have t1 : decide ((a.y.size : Int) ≤ 40) = false := decide_eq_false (by omega)
  go_enter Tryz.func53, Tryz.ntmps53
  go_wp2
  go_ret
  exact ⟨rfl, ((Ext.refl w).alloc _)⟩

set_option maxRecDepth 100000 in
set_option maxHeartbeats 2000000 in
theorem short_2 (a : T3) (w : World) (h0 : a.x.size ≤ 40) (h1 : a.y.size ≤ 40) (h2 : 40 < a.z.size) : Calls Tryz.prog 53 #[.agg #[.string a.x, .string a.y, .string a.z], .int .i64 40] w (Ret w (.bool false)) := by
  have t0 : decide ((a.x.size : Int) ≤ 40) = true := decide_eq_true (by omega)
  have t1 : decide ((a.y.size : Int) ≤ 40) = true := decide_eq_true (by omega)
  have t2 : decide ((a.z.size : Int) ≤ 40) = false := decide_eq_false (by omega)
  go_enter Tryz.func53, Tryz.ntmps53
  go_wp2
  go_ret
  exact ⟨rfl, ((Ext.refl w).alloc _)⟩

set_option maxRecDepth 100000 in
set_option maxHeartbeats 2000000 in
theorem short_3 (a : T3) (w : World) (h0 : a.x.size ≤ 40) (h1 : a.y.size ≤ 40) (h2 : a.z.size ≤ 40) : Calls Tryz.prog 53 #[.agg #[.string a.x, .string a.y, .string a.z], .int .i64 40] w (Ret w (.bool true)) := by
  have t0 : decide ((a.x.size : Int) ≤ 40) = true := decide_eq_true (by omega)
  have t1 : decide ((a.y.size : Int) ≤ 40) = true := decide_eq_true (by omega)
  have t2 : decide ((a.z.size : Int) ≤ 40) = true := decide_eq_true (by omega)
  go_enter Tryz.func53, Tryz.ntmps53
  go_wp2
  go_ret
  exact ⟨rfl, ((Ext.refl w).alloc _)⟩

theorem short_f (a : T3) (w : World) (h : ¬ (a.x.size ≤ 40 ∧ a.y.size ≤ 40 ∧ a.z.size ≤ 40)) : Calls Tryz.prog 53 #[tv a, .int .i64 40] w (Ret w (.bool false)) := by
  by_cases h0 : a.x.size ≤ 40
  · by_cases h1 : a.y.size ≤ 40
    · exact short_2 a w h0 h1 (by omega)
    · exact short_1 a w h0 (by omega)
  · exact short_0 a w (by omega)
end Go.Proofs.YtglppcmegocphaaGreatDoor
