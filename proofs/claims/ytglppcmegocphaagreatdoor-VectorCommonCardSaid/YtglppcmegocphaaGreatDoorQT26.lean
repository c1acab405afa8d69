/- Part 26 of the proof: V7a, V7b, L1, L1b, L2, Geo, L4. -/
import Derived.Test.YtglppcmegocphaaGreatDoorQT1
import Derived.Test.YtglppcmegocphaaGreatDoorQT2
import Derived.Test.YtglppcmegocphaaGreatDoorQT3
import Derived.Test.YtglppcmegocphaaGreatDoorQT4
import Derived.Test.YtglppcmegocphaaGreatDoorQT5
import Derived.Test.YtglppcmegocphaaGreatDoorQT6
import Derived.Test.YtglppcmegocphaaGreatDoorQT7
import Derived.Test.YtglppcmegocphaaGreatDoorQT8
import Derived.Test.YtglppcmegocphaaGreatDoorQT9
import Derived.Test.YtglppcmegocphaaGreatDoorQT10
import Derived.Test.YtglppcmegocphaaGreatDoorQT11
import Derived.Test.YtglppcmegocphaaGreatDoorQT12
import Derived.Test.YtglppcmegocphaaGreatDoorQT13
import Derived.Test.YtglppcmegocphaaGreatDoorQT14
import Derived.Test.YtglppcmegocphaaGreatDoorQT15
import Derived.Test.YtglppcmegocphaaGreatDoorQT16
import Derived.Test.YtglppcmegocphaaGreatDoorQT17
import Derived.Test.YtglppcmegocphaaGreatDoorQT18
import Derived.Test.YtglppcmegocphaaGreatDoorQT19
import Derived.Test.YtglppcmegocphaaGreatDoorQT20
import Derived.Test.YtglppcmegocphaaGreatDoorQT21
import Derived.Test.YtglppcmegocphaaGreatDoorQT22
import Derived.Test.YtglppcmegocphaaGreatDoorQT23
import Derived.Test.YtglppcmegocphaaGreatDoorQT24
import Derived.Test.YtglppcmegocphaaGreatDoorQT25
namespace Go.Proofs.YtglppcmegocphaaGreatDoor
open Go Go.RowKit
set_option maxRecDepth 100000 in
set_option maxHeartbeats 16000000 in
theorem vCommon_1 (p q : Pl) (w : World) (g : Gd w) (hp : VB 200 p.n) (hpc : QB 200 p.c) (hq : VB 200 q.n) (hqc : QB 200 q.c) (hz : ¬ (p.n.x = 0 ∧ p.n.y = 0 ∧ p.n.z = 0)) (hy : ¬ (q.n.x = 0 ∧ q.n.y = 0 ∧ q.n.z = 0)) (hr : VB 200 ⟨p.n.y * q.n.z - p.n.z * q.n.y, p.n.z * q.n.x - p.n.x * q.n.z, p.n.x * q.n.y - p.n.y * q.n.x⟩) (hri : QB 200 ((p.c * q.n.x - p.n.x * q.c) / (p.n.z * q.n.x - p.n.x * q.n.z))) (hrk : QB 200 ((p.n.z * q.c - p.c * q.n.z) / (p.n.z * q.n.x - p.n.x * q.n.z))) (h0 : p.n.y * q.n.z - p.n.z * q.n.y = 0) (h1 : p.n.z * q.n.x - p.n.x * q.n.z ≠ 0) : Calls Tryz.prog 25 #[.agg #[.string (qs p.n.x), .string (qs p.n.y), .string (qs p.n.z), .string (qs p.c)], .agg #[.string (qs q.n.x), .string (qs q.n.y), .string (qs q.n.z), .string (qs q.c)]] w (Ret w (.tuple #[.agg #[.string (qs ((p.n.z * q.c - p.c * q.n.z) / (p.n.z * q.n.x - p.n.x * q.n.z))), .string ⟨#[48]⟩, .string (qs ((p.c * q.n.x - p.n.x * q.c) / (p.n.z * q.n.x - p.n.x * q.n.z)))], .agg #[.string (qs (p.n.y * q.n.z - p.n.z * q.n.y)), .string (qs (p.n.z * q.n.x - p.n.x * q.n.z)), .string (qs (p.n.x * q.n.y - p.n.y * q.n.x))], .int .i64 0])) := by
  have HP := Lib.hid hp
  have HPC := Lib.hid hpc
  have HQ := Lib.hid hq
  have HQC := Lib.hid hqc
  have HZ := Lib.hid hz
  have HY := Lib.hid hy
  have HG := Lib.hid g
  have HR := Lib.hid hr
  have HRI := Lib.hid hri
  have HRK := Lib.hid hrk
  clear hp hpc hq hqc hz hy g hr hri hrk
  have h0_t := qs_is0 h0
  have h1_t := qs_not0 h1
  have H1 := Lib.hid h1
  clear h0 h1
  have ix0 : ∀ W, (Instr.index 122 (.agg #[.string (qs p.n.x), .string (qs p.n.y), .string (qs p.n.z), .string (qs p.c), .string (qs q.n.x), .string (qs q.n.y), .string (qs q.n.z), .string (qs q.c)]) (.int .i64 0)).run Tryz.prog W = .ok (.agg #[.string (qs p.n.x), .string (qs p.n.y), .string (qs p.n.z), .string (qs p.c)]) W := fun W => by kernel_rfl
  have ix1 : ∀ W, (Instr.index 122 (.agg #[.string (qs p.n.x), .string (qs p.n.y), .string (qs p.n.z), .string (qs p.c), .string (qs q.n.x), .string (qs q.n.y), .string (qs q.n.z), .string (qs q.c)]) (.int .i64 1)).run Tryz.prog W = .ok (.agg #[.string (qs q.n.x), .string (qs q.n.y), .string (qs q.n.z), .string (qs q.c)]) W := fun W => by kernel_rfl
  go_enter Tryz.func25, Tryz.ntmps25
  go_wp2_with fail
  refine wp_loop_rounds 3 ?_
  rw [rounds_succ]
  go_wp2_with fail
  refine (vPlane_ok p _ (HG.out.ext ((((((Ext.refl w).alloc _).alloc _).alloc _).alloc _).alloc _)) HP.out HPC.out HZ.out).mono ?_; rintro e w1 ⟨rfl, e1⟩
  have HX1 : Hid (Ext w w1) := Lib.hid (((((((Ext.refl w).alloc _).alloc _).alloc _).alloc _).alloc _).trans e1)
  have HB0_1 : Hid (Blk w1 (w.heap.size) #[.string (qs p.n.x), .string (qs p.n.y), .string (qs p.n.z), .string (qs p.c)] 48) := Lib.hid (Blk.ext (((((Blk.new' (w := _) (cs := #[.string (qs p.n.x), .string (qs p.n.y), .string (qs p.n.z), .string (qs p.c)]) (t := 48) (by first | rfl | (simp only [World.size_alloc]; done) | (simp only [World.size_alloc]; omega) | simp)).alloc _).alloc _).alloc _).alloc _) e1)
  have HB1_1 : Hid (Blk w1 (w.heap.size + 1) #[.string (qs q.n.x), .string (qs q.n.y), .string (qs q.n.z), .string (qs q.c)] 48) := Lib.hid (Blk.ext ((((Blk.new' (w := _) (cs := #[.string (qs q.n.x), .string (qs q.n.y), .string (qs q.n.z), .string (qs q.c)]) (t := 48) (by first | rfl | (simp only [World.size_alloc]; done) | (simp only [World.size_alloc]; omega) | simp)).alloc _).alloc _).alloc _) e1)
  have HB2_1 : Hid (Blk w1 (w.heap.size + 1 + 1) #[.string ⟨#[]⟩, .string ⟨#[]⟩, .string ⟨#[]⟩] 30) := Lib.hid (Blk.ext (((Blk.new' (w := _) (cs := #[.string ⟨#[]⟩, .string ⟨#[]⟩, .string ⟨#[]⟩]) (t := 30) (by first | rfl | (simp only [World.size_alloc]; done) | (simp only [World.size_alloc]; omega) | simp)).alloc _).alloc _) e1)
  have HB3_1 : Hid (Blk w1 (w.heap.size + 1 + 1 + 1) #[.string ⟨#[]⟩, .string ⟨#[]⟩, .string ⟨#[]⟩] 30) := Lib.hid (Blk.ext ((Blk.new' (w := _) (cs := #[.string ⟨#[]⟩, .string ⟨#[]⟩, .string ⟨#[]⟩]) (t := 30) (by first | rfl | (simp only [World.size_alloc]; done) | (simp only [World.size_alloc]; omega) | simp)).alloc _) e1)
  have HGEB0 : Hid (w.heap.size ≤ w.heap.size) := Lib.hid (by first | omega | (simp only []; omega) | (simp; omega))
  have HGEB1 : Hid (w.heap.size ≤ w.heap.size + 1) := Lib.hid (by first | omega | (simp only []; omega) | (simp; omega))
  have HGEB2 : Hid (w.heap.size ≤ w.heap.size + 1 + 1) := Lib.hid (by first | omega | (simp only []; omega) | (simp; omega))
  have HGEB3 : Hid (w.heap.size ≤ w.heap.size + 1 + 1 + 1) := Lib.hid (by first | omega | (simp only []; omega) | (simp; omega))
  clear e1
  go_wp2_with fail
  rw [rounds_succ]
  go_wp2_with fail
  refine (vPlane_ok q _ (HG.out.ext (HX1.out.alloc _)) HQ.out HQC.out HY.out).mono ?_; rintro e w2 ⟨rfl, e2⟩
  have HX2 : Hid (Ext w w2) := Lib.hid ((HX1.out.alloc _).trans e2)
  have HB0_2 : Hid (Blk w2 (w.heap.size) #[.string (qs p.n.x), .string (qs p.n.y), .string (qs p.n.z), .string (qs p.c)] 48) := Lib.hid (Blk.ext (HB0_1.out.alloc _) e2)
  have HB1_2 : Hid (Blk w2 (w.heap.size + 1) #[.string (qs q.n.x), .string (qs q.n.y), .string (qs q.n.z), .string (qs q.c)] 48) := Lib.hid (Blk.ext (HB1_1.out.alloc _) e2)
  have HB2_2 : Hid (Blk w2 (w.heap.size + 1 + 1) #[.string ⟨#[]⟩, .string ⟨#[]⟩, .string ⟨#[]⟩] 30) := Lib.hid (Blk.ext (HB2_1.out.alloc _) e2)
  have HB3_2 : Hid (Blk w2 (w.heap.size + 1 + 1 + 1) #[.string ⟨#[]⟩, .string ⟨#[]⟩, .string ⟨#[]⟩] 30) := Lib.hid (Blk.ext (HB3_1.out.alloc _) e2)
  clear e2
  go_wp2_with fail
  rw [rounds_succ]
  have c0_0 := HB0_2.out.cell 0 rfl
  have c0_1 := HB0_2.out.cell 1 rfl
  have c0_2 := HB0_2.out.cell 2 rfl
  have c1_0 := HB1_2.out.cell 0 rfl
  have c1_1 := HB1_2.out.cell 1 rfl
  have c1_2 := HB1_2.out.cell 2 rfl
  go_wp2_with fail
  refine (vcross0_c p.n q.n _ (HG.out.ext HX2.out) HP.out HQ.out (by omega) (by omega)).mono ?_; rintro e w3 ⟨rfl, e3⟩
  have HX3 : Hid (Ext w w3) := Lib.hid (HX2.out.trans e3)
  have HB0_3 := Lib.hid (Blk.ext HB0_2.out e3)
  have HB1_3 := Lib.hid (Blk.ext HB1_2.out e3)
  have HB2_3 := Lib.hid (Blk.ext HB2_2.out e3)
  have HB3_3 := Lib.hid (Blk.ext HB3_2.out e3)
  clear e3 c0_0 c0_1 c0_2 c1_0 c1_1 c1_2
  go_wp2_with fail
  refine ((list_e ⟨qs (p.n.y * q.n.z - p.n.z * q.n.y), qs (p.n.z * q.n.x - p.n.x * q.n.z), qs (p.n.x * q.n.y - p.n.y * q.n.x)⟩ _).mono (fun _ _ h => (⟨h.1, h.2 ▸ ((Ext.refl _).alloc _).alloc _⟩ : Ret _ _ _ _))).mono ?_; rintro e w4 ⟨rfl, e4⟩
  have HX4 : Hid (Ext w w4) := Lib.hid (HX3.out.trans e4)
  have HB0_4 := Lib.hid (Blk.ext HB0_3.out e4)
  have HB1_4 := Lib.hid (Blk.ext HB1_3.out e4)
  have HB2_4 := Lib.hid (Blk.ext HB2_3.out e4)
  have HB3_4 := Lib.hid (Blk.ext HB3_3.out e4)
  clear e4
  go_wp2_with fail
  refine wp_loop_rounds 3 ?_
  rw [rounds_succ]
  go_wp2_with fail
  rw [rounds_succ]
  go_wp2_with fail
  refine wp_name (fun W => Ext w W ∧ Blk W (w.heap.size) #[.string (qs p.n.x), .string (qs p.n.y), .string (qs p.n.z), .string (qs p.c)] 48 ∧ Blk W (w.heap.size + 1) #[.string (qs q.n.x), .string (qs q.n.y), .string (qs q.n.z), .string (qs q.c)] 48 ∧ Blk W (w.heap.size + 1 + 1) #[.string ⟨#[]⟩, .string ⟨#[]⟩, .string ⟨#[]⟩] 30 ∧ Blk W (w.heap.size + 1 + 1 + 1) #[.string ⟨#[]⟩, .string ⟨#[]⟩, .string ⟨#[]⟩] 30 ∧ Blk W (w4.heap.size) #[.string (qs (p.n.y * q.n.z - p.n.z * q.n.y)), .string (qs (p.n.z * q.n.x - p.n.x * q.n.z)), .string (qs (p.n.x * q.n.y - p.n.y * q.n.x))] 108) ⟨(HX4.out.alloc _), (HB0_4.out.alloc _), (HB1_4.out.alloc _), (HB2_4.out.alloc _), (HB3_4.out.alloc _), (Blk.new' (w := _) (cs := #[.string (qs (p.n.y * q.n.z - p.n.z * q.n.y)), .string (qs (p.n.z * q.n.x - p.n.x * q.n.z)), .string (qs (p.n.x * q.n.y - p.n.y * q.n.x))]) (t := 108) (by first | rfl | (simp only [World.size_alloc]; done) | (simp only [World.size_alloc]; omega) | simp))⟩ ?_
  rintro w5 ⟨e5, bB0_5, bB1_5, bB2_5, bB3_5, bB6_5⟩
  have HX5 := Lib.hid e5; have HB0_5 := Lib.hid bB0_5; have HB1_5 := Lib.hid bB1_5; have HB2_5 := Lib.hid bB2_5; have HB3_5 := Lib.hid bB3_5; have HB6_5 := Lib.hid bB6_5
  have HGEB6 : Hid (w.heap.size ≤ w4.heap.size) := Lib.hid (by have := HX4.out.size; first | omega | (simp only []; omega) | (simp; omega))
  clear e5 bB0_5 bB1_5 bB2_5 bB3_5 bB6_5
  have hS5 : w5.cell? ⟨w.heap.size, 0, none⟩ = some (.string (qs p.n.x)) ∧ w5.cell? ⟨w.heap.size, 1, none⟩ = some (.string (qs p.n.y)) ∧ w5.cell? ⟨w.heap.size, 2, none⟩ = some (.string (qs p.n.z)) ∧ w5.cell? ⟨w.heap.size + 1, 0, none⟩ = some (.string (qs q.n.x)) ∧ w5.cell? ⟨w.heap.size + 1, 1, none⟩ = some (.string (qs q.n.y)) ∧ w5.cell? ⟨w.heap.size + 1, 2, none⟩ = some (.string (qs q.n.z)) := ⟨HB0_5.out.cell 0 rfl, HB0_5.out.cell 1 rfl, HB0_5.out.cell 2 rfl, HB1_5.out.cell 0 rfl, HB1_5.out.cell 1 rfl, HB1_5.out.cell 2 rfl⟩
  have HS5 := Lib.hid hS5; clear hS5
  go_cut [14, 15] from 57 to 62 (fun p14 p15 wx => ∃ i7 i8 : Nat, p14 = .pointer (some ⟨i7, 0, none⟩) ∧ p15 = .pointer (some ⟨i8, 0, none⟩) ∧ w5.heap.size ≤ i7 ∧ w5.heap.size ≤ i8 ∧ i7 ≠ i8 ∧ Ext w5 wx ∧ Blk wx i7 #[.string (qs p.n.x), .string (qs p.n.y), .string (qs p.n.z)] 108 ∧ Blk wx i8 #[.string (qs q.n.x), .string (qs q.n.y), .string (qs q.n.z)] 108)
  case first =>
    go_region_held3 (fun w' => w'.cell? ⟨w.heap.size, 0, none⟩ = some (.string (qs p.n.x)) ∧ w'.cell? ⟨w.heap.size, 1, none⟩ = some (.string (qs p.n.y)) ∧ w'.cell? ⟨w.heap.size, 2, none⟩ = some (.string (qs p.n.z)) ∧ w'.cell? ⟨w.heap.size + 1, 0, none⟩ = some (.string (qs q.n.x)) ∧ w'.cell? ⟨w.heap.size + 1, 1, none⟩ = some (.string (qs q.n.y)) ∧ w'.cell? ⟨w.heap.size + 1, 2, none⟩ = some (.string (qs q.n.z)))
      ((exact keepsH6 (by repeat (first | assumption | exact Ext.refl _ | apply Ext.drew | apply Ext.alloc | (refine Ext.setCell ?_ (by first | omega | (simp only []; omega) | (simp; omega)) _) | (refine Ext.trans ?_ (by assumption)))) HS5.out)) (first
      | (go_at_call 69; ((with_reducible refine (list_e ⟨qs p.n.x, qs p.n.y, qs p.n.z⟩ _).mono ?_); rintro e _ ⟨rfl, rfl⟩))
      | (go_at_call 69; ((with_reducible refine (list_e ⟨qs q.n.x, qs q.n.y, qs q.n.z⟩ _).mono ?_); rintro e _ ⟨rfl, rfl⟩)))
    all_goals (go_wp2_with fail; go_meet)
    all_goals (refine ⟨_, _, rfl, rfl, by first | omega | (simp; omega), by first | omega | (simp; omega), by first | omega | (simp; omega), (by repeat (first | assumption | exact Ext.refl _ | apply Ext.drew | apply Ext.alloc | (refine Ext.setCell ?_ (by first | omega | (simp only []; omega) | (simp; omega)) _) | (refine Ext.trans ?_ (by assumption)))), ?_, ?_⟩)
    all_goals (repeat (first | assumption | (refine Blk.new' ?_; first | rfl | (simp only [World.size_alloc]; done) | (simp only [World.size_alloc]; omega)) | apply Blk.alloc | apply Blk.drew | (exact Blk.fill3 (by assumption)) | (refine Blk.ext ?_ (by assumption))))
  obtain ⟨i7, i8, rfl, rfl, hgeB7, hgeB8, hne10, e6, bB7, bB8⟩ := hcut
  rename World => w6
  have HX6 : Hid (Ext w w6) := Lib.hid (HX5.out.trans e6)
  have HB0_6 := Lib.hid (HB0_5.out.ext e6)
  have HB1_6 := Lib.hid (HB1_5.out.ext e6)
  have HB2_6 := Lib.hid (HB2_5.out.ext e6)
  have HB3_6 := Lib.hid (HB3_5.out.ext e6)
  have HB6_6 := Lib.hid (HB6_5.out.ext e6)
  have HB7_6 := Lib.hid bB7; have HGEB7 : Hid (w.heap.size ≤ i7) := Lib.hid (Nat.le_trans HX5.out.size hgeB7)
  have HB8_6 := Lib.hid bB8; have HGEB8 : Hid (w.heap.size ≤ i8) := Lib.hid (Nat.le_trans HX5.out.size hgeB8)
  have HNEB0B7 : Hid (w.heap.size ≠ i7) := Lib.hid (by have := HB0_5.out.lt; omega)
  have HNEB0B8 : Hid (w.heap.size ≠ i8) := Lib.hid (by have := HB0_5.out.lt; omega)
  have HNEB1B7 : Hid (w.heap.size + 1 ≠ i7) := Lib.hid (by have := HB1_5.out.lt; omega)
  have HNEB1B8 : Hid (w.heap.size + 1 ≠ i8) := Lib.hid (by have := HB1_5.out.lt; omega)
  have HNEB2B7 : Hid (w.heap.size + 1 + 1 ≠ i7) := Lib.hid (by have := HB2_5.out.lt; omega)
  have HNEB2B8 : Hid (w.heap.size + 1 + 1 ≠ i8) := Lib.hid (by have := HB2_5.out.lt; omega)
  have HNEB3B7 : Hid (w.heap.size + 1 + 1 + 1 ≠ i7) := Lib.hid (by have := HB3_5.out.lt; omega)
  have HNEB3B8 : Hid (w.heap.size + 1 + 1 + 1 ≠ i8) := Lib.hid (by have := HB3_5.out.lt; omega)
  have HNEB6B7 : Hid (w4.heap.size ≠ i7) := Lib.hid (by have := HB6_5.out.lt; omega)
  have HNEB6B8 : Hid (w4.heap.size ≠ i8) := Lib.hid (by have := HB6_5.out.lt; omega)
  have HNEB7B8 := Lib.hid hne10
  clear hgeB7 hgeB8 hne10 e6 bB7 bB8
  go_wp2_with fail
  refine wp_name (fun W => Ext w W ∧ Blk W (w.heap.size) #[.string (qs p.n.x), .string (qs p.n.y), .string (qs p.n.z), .string (qs p.c)] 48 ∧ Blk W (w.heap.size + 1) #[.string (qs q.n.x), .string (qs q.n.y), .string (qs q.n.z), .string (qs q.c)] 48 ∧ Blk W (w.heap.size + 1 + 1) #[.string ⟨#[]⟩, .string ⟨#[]⟩, .string ⟨#[]⟩] 30 ∧ Blk W (w.heap.size + 1 + 1 + 1) #[.string ⟨#[]⟩, .string ⟨#[]⟩, .string ⟨#[]⟩] 30 ∧ Blk W (w4.heap.size) #[.string (qs (p.n.y * q.n.z - p.n.z * q.n.y)), .string (qs (p.n.z * q.n.x - p.n.x * q.n.z)), .string (qs (p.n.x * q.n.y - p.n.y * q.n.x))] 108 ∧ Blk W (i7) #[.string (qs p.n.x), .string (qs p.n.y), .string (qs p.n.z)] 108 ∧ Blk W (i8) #[.string (qs q.n.x), .string (qs q.n.y), .string (qs q.n.z)] 108 ∧ Blk W (w6.heap.size) #[.string ⟨#[]⟩, .string ⟨#[48]⟩, .string ⟨#[]⟩] 108) ⟨(HX6.out.alloc _), (HB0_6.out.alloc _), (HB1_6.out.alloc _), (HB2_6.out.alloc _), (HB3_6.out.alloc _), (HB6_6.out.alloc _), (HB7_6.out.alloc _), (HB8_6.out.alloc _), (Blk.new' (w := _) (cs := #[.string ⟨#[]⟩, .string ⟨#[48]⟩, .string ⟨#[]⟩]) (t := 108) (by first | rfl | (simp only [World.size_alloc]; done) | (simp only [World.size_alloc]; omega) | simp))⟩ ?_
  rintro w7 ⟨e7, bB0_7, bB1_7, bB2_7, bB3_7, bB6_7, bB7_7, bB8_7, bB9_7⟩
  have HX7 := Lib.hid e7; have HB0_7 := Lib.hid bB0_7; have HB1_7 := Lib.hid bB1_7; have HB2_7 := Lib.hid bB2_7; have HB3_7 := Lib.hid bB3_7; have HB6_7 := Lib.hid bB6_7; have HB7_7 := Lib.hid bB7_7; have HB8_7 := Lib.hid bB8_7; have HB9_7 := Lib.hid bB9_7
  have HGEB9 : Hid (w.heap.size ≤ w6.heap.size) := Lib.hid (by have := HX6.out.size; first | omega | (simp only []; omega) | (simp; omega))
  clear e7 bB0_7 bB1_7 bB2_7 bB3_7 bB6_7 bB7_7 bB8_7 bB9_7
  have hS7 : w7.cell? ⟨w.heap.size, 3, none⟩ = some (.string (qs p.c)) ∧ w7.cell? ⟨i7, 0, none⟩ = some (.string (qs p.n.x)) ∧ w7.cell? ⟨w.heap.size + 1, 3, none⟩ = some (.string (qs q.c)) ∧ w7.cell? ⟨i8, 0, none⟩ = some (.string (qs q.n.x)) ∧ w7.cell? ⟨w4.heap.size, 1, none⟩ = some (.string (qs (p.n.z * q.n.x - p.n.x * q.n.z))) := ⟨HB0_7.out.cell 3 rfl, HB7_7.out.cell 0 rfl, HB1_7.out.cell 3 rfl, HB8_7.out.cell 0 rfl, HB6_7.out.cell 1 rfl⟩
  have HS7 := Lib.hid hS7; clear hS7
  go_region_held3 (fun w' => w'.cell? ⟨w.heap.size, 3, none⟩ = some (.string (qs p.c)) ∧ w'.cell? ⟨i7, 0, none⟩ = some (.string (qs p.n.x)) ∧ w'.cell? ⟨w.heap.size + 1, 3, none⟩ = some (.string (qs q.c)) ∧ w'.cell? ⟨i8, 0, none⟩ = some (.string (qs q.n.x)) ∧ w'.cell? ⟨w4.heap.size, 1, none⟩ = some (.string (qs (p.n.z * q.n.x - p.n.x * q.n.z))))
    (((try simp only [cell_set_ne (show w.heap.size ≠ w6.heap.size from by have := HB0_6.out.lt; first | omega | (simp only []; omega) | (simp; omega)), cell_set_ne (show i7 ≠ w6.heap.size from by have := HB7_6.out.lt; first | omega | (simp only []; omega) | (simp; omega)), cell_set_ne (show w.heap.size + 1 ≠ w6.heap.size from by have := HB1_6.out.lt; first | omega | (simp only []; omega) | (simp; omega)), cell_set_ne (show i8 ≠ w6.heap.size from by have := HB8_6.out.lt; first | omega | (simp only []; omega) | (simp; omega)), cell_set_ne (show w4.heap.size ≠ w6.heap.size from by have := HB6_6.out.lt; first | omega | (simp only []; omega) | (simp; omega))]); exact keepsH5 (by repeat (first | assumption | exact Ext.refl _ | apply Ext.drew | apply Ext.alloc | (refine Ext.setCell ?_ (by first | omega | (simp only []; omega) | (simp; omega)) _) | (refine Ext.trans ?_ (by assumption)))) HS7.out)) ((first
      | (go_at_call 85; ((with_reducible refine (vminor_c p.c p.n.x q.c q.n.x _ (HG.out.ext (HX7.out.trans (by repeat (first | assumption | exact Ext.refl _ | apply Ext.drew | apply Ext.alloc | (refine Ext.setCell ?_ (by first | omega | (simp only []; omega) | (simp; omega)) _) | (refine Ext.trans ?_ (by assumption)))))) HPC.out HP.out.x HQC.out HQ.out.x (by omega) (by omega) (by omega) (by omega)).mono ?_); rintro e w8 ⟨rfl, e8⟩))
      | (go_at_call 84; ((with_reducible refine (rdiv_c (p.c * q.n.x - p.n.x * q.c) (p.n.z * q.n.x - p.n.x * q.n.z) _ (HG.out.ext (HX7.out.trans (by repeat (first | assumption | exact Ext.refl _ | apply Ext.drew | apply Ext.alloc | (refine Ext.setCell ?_ (by first | omega | (simp only []; omega) | (simp; omega)) _) | (refine Ext.trans ?_ (by assumption)))))) ((HPC.out.mul HQ.out.x).sub (HP.out.x.mul HQC.out)) ((HP.out.z.mul HQ.out.x).sub (HP.out.x.mul HQ.out.z)) (by omega) (by omega) (by omega) H1.out).mono ?_); rintro e w9 ⟨rfl, e9⟩; have RB9 := Blk.ext HB9_7.out (w' := w9) (by repeat (first | assumption | exact Ext.refl _ | apply Ext.drew | (refine Ext.trans ?_ (by assumption)))); have cB9_2 := RB9.cell 2 rfl; have fB9_2 := RB9.free 2; have HRB9 := Lib.hid RB9; clear RB9))))
  refine wp_name (fun W => Ext w W ∧ Blk W (w.heap.size) #[.string (qs p.n.x), .string (qs p.n.y), .string (qs p.n.z), .string (qs p.c)] 48 ∧ Blk W (w.heap.size + 1) #[.string (qs q.n.x), .string (qs q.n.y), .string (qs q.n.z), .string (qs q.c)] 48 ∧ Blk W (w.heap.size + 1 + 1) #[.string ⟨#[]⟩, .string ⟨#[]⟩, .string ⟨#[]⟩] 30 ∧ Blk W (w.heap.size + 1 + 1 + 1) #[.string ⟨#[]⟩, .string ⟨#[]⟩, .string ⟨#[]⟩] 30 ∧ Blk W (w4.heap.size) #[.string (qs (p.n.y * q.n.z - p.n.z * q.n.y)), .string (qs (p.n.z * q.n.x - p.n.x * q.n.z)), .string (qs (p.n.x * q.n.y - p.n.y * q.n.x))] 108 ∧ Blk W (i7) #[.string (qs p.n.x), .string (qs p.n.y), .string (qs p.n.z)] 108 ∧ Blk W (i8) #[.string (qs q.n.x), .string (qs q.n.y), .string (qs q.n.z)] 108 ∧ Blk W (w6.heap.size) #[.string ⟨#[]⟩, .string ⟨#[48]⟩, .string (qs ((p.c * q.n.x - p.n.x * q.c) / (p.n.z * q.n.x - p.n.x * q.n.z)))] 108) ⟨((HX7.out.trans (((Ext.refl _).drew.trans e8).trans e9)).setCell (by have := HGEB9.out; first | omega | (simp only []; omega) | (simp; omega)) _), ((Blk.ext HB0_7.out (((Ext.refl _).drew.trans e8).trans e9)).other (a := ⟨w6.heap.size, 2, none⟩) _ (by have := HB0_6.out.lt; first | omega | (simp only []; omega) | (simp; omega))), ((Blk.ext HB1_7.out (((Ext.refl _).drew.trans e8).trans e9)).other (a := ⟨w6.heap.size, 2, none⟩) _ (by have := HB1_6.out.lt; first | omega | (simp only []; omega) | (simp; omega))), ((Blk.ext HB2_7.out (((Ext.refl _).drew.trans e8).trans e9)).other (a := ⟨w6.heap.size, 2, none⟩) _ (by have := HB2_6.out.lt; first | omega | (simp only []; omega) | (simp; omega))), ((Blk.ext HB3_7.out (((Ext.refl _).drew.trans e8).trans e9)).other (a := ⟨w6.heap.size, 2, none⟩) _ (by have := HB3_6.out.lt; first | omega | (simp only []; omega) | (simp; omega))), ((Blk.ext HB6_7.out (((Ext.refl _).drew.trans e8).trans e9)).other (a := ⟨w6.heap.size, 2, none⟩) _ (by have := HB6_6.out.lt; first | omega | (simp only []; omega) | (simp; omega))), ((Blk.ext HB7_7.out (((Ext.refl _).drew.trans e8).trans e9)).other (a := ⟨w6.heap.size, 2, none⟩) _ (by have := HB7_6.out.lt; first | omega | (simp only []; omega) | (simp; omega))), ((Blk.ext HB8_7.out (((Ext.refl _).drew.trans e8).trans e9)).other (a := ⟨w6.heap.size, 2, none⟩) _ (by have := HB8_6.out.lt; first | omega | (simp only []; omega) | (simp; omega))), ((Blk.ext HB9_7.out (((Ext.refl _).drew.trans e8).trans e9)).set 2 (.string (qs ((p.c * q.n.x - p.n.x * q.c) / (p.n.z * q.n.x - p.n.x * q.n.z)))))⟩ ?_
  clear cB9_2 fB9_2
  rintro w10 ⟨e10, bB0_10, bB1_10, bB2_10, bB3_10, bB6_10, bB7_10, bB8_10, bB9_10⟩
  have HX10 := Lib.hid e10; have HB0_10 := Lib.hid bB0_10; have HB1_10 := Lib.hid bB1_10; have HB2_10 := Lib.hid bB2_10; have HB3_10 := Lib.hid bB3_10; have HB6_10 := Lib.hid bB6_10; have HB7_10 := Lib.hid bB7_10; have HB8_10 := Lib.hid bB8_10; have HB9_10 := Lib.hid bB9_10
  clear e10 bB0_10 bB1_10 bB2_10 bB3_10 bB6_10 bB7_10 bB8_10 bB9_10
  go_wp2_with fail
  refine wp_name (fun W => Ext w W ∧ Blk W (w.heap.size) #[.string (qs p.n.x), .string (qs p.n.y), .string (qs p.n.z), .string (qs p.c)] 48 ∧ Blk W (w.heap.size + 1) #[.string (qs q.n.x), .string (qs q.n.y), .string (qs q.n.z), .string (qs q.c)] 48 ∧ Blk W (w.heap.size + 1 + 1) #[.string ⟨#[]⟩, .string ⟨#[]⟩, .string ⟨#[]⟩] 30 ∧ Blk W (w.heap.size + 1 + 1 + 1) #[.string ⟨#[]⟩, .string ⟨#[]⟩, .string ⟨#[]⟩] 30 ∧ Blk W (w4.heap.size) #[.string (qs (p.n.y * q.n.z - p.n.z * q.n.y)), .string (qs (p.n.z * q.n.x - p.n.x * q.n.z)), .string (qs (p.n.x * q.n.y - p.n.y * q.n.x))] 108 ∧ Blk W (i7) #[.string (qs p.n.x), .string (qs p.n.y), .string (qs p.n.z)] 108 ∧ Blk W (i8) #[.string (qs q.n.x), .string (qs q.n.y), .string (qs q.n.z)] 108 ∧ Blk W (w6.heap.size) #[.string ⟨#[]⟩, .string ⟨#[48]⟩, .string (qs ((p.c * q.n.x - p.n.x * q.c) / (p.n.z * q.n.x - p.n.x * q.n.z)))] 108) ⟨HX10.out, HB0_10.out, HB1_10.out, HB2_10.out, HB3_10.out, HB6_10.out, HB7_10.out, HB8_10.out, HB9_10.out⟩ ?_
  rintro w11 ⟨e11, bB0_11, bB1_11, bB2_11, bB3_11, bB6_11, bB7_11, bB8_11, bB9_11⟩
  have HX11 := Lib.hid e11; have HB0_11 := Lib.hid bB0_11; have HB1_11 := Lib.hid bB1_11; have HB2_11 := Lib.hid bB2_11; have HB3_11 := Lib.hid bB3_11; have HB6_11 := Lib.hid bB6_11; have HB7_11 := Lib.hid bB7_11; have HB8_11 := Lib.hid bB8_11; have HB9_11 := Lib.hid bB9_11
  clear e11 bB0_11 bB1_11 bB2_11 bB3_11 bB6_11 bB7_11 bB8_11 bB9_11
  have hS11 : w11.cell? ⟨i7, 2, none⟩ = some (.string (qs p.n.z)) ∧ w11.cell? ⟨w.heap.size, 3, none⟩ = some (.string (qs p.c)) ∧ w11.cell? ⟨i8, 2, none⟩ = some (.string (qs q.n.z)) ∧ w11.cell? ⟨w.heap.size + 1, 3, none⟩ = some (.string (qs q.c)) ∧ w11.cell? ⟨w4.heap.size, 1, none⟩ = some (.string (qs (p.n.z * q.n.x - p.n.x * q.n.z))) := ⟨HB7_11.out.cell 2 rfl, HB0_11.out.cell 3 rfl, HB8_11.out.cell 2 rfl, HB1_11.out.cell 3 rfl, HB6_11.out.cell 1 rfl⟩
  have HS11 := Lib.hid hS11; clear hS11
  go_region_held3 (fun w' => w'.cell? ⟨i7, 2, none⟩ = some (.string (qs p.n.z)) ∧ w'.cell? ⟨w.heap.size, 3, none⟩ = some (.string (qs p.c)) ∧ w'.cell? ⟨i8, 2, none⟩ = some (.string (qs q.n.z)) ∧ w'.cell? ⟨w.heap.size + 1, 3, none⟩ = some (.string (qs q.c)) ∧ w'.cell? ⟨w4.heap.size, 1, none⟩ = some (.string (qs (p.n.z * q.n.x - p.n.x * q.n.z))))
    (((try simp only [cell_set_ne (show i7 ≠ w6.heap.size from by have := HB7_6.out.lt; first | omega | (simp only []; omega) | (simp; omega)), cell_set_ne (show w.heap.size ≠ w6.heap.size from by have := HB0_6.out.lt; first | omega | (simp only []; omega) | (simp; omega)), cell_set_ne (show i8 ≠ w6.heap.size from by have := HB8_6.out.lt; first | omega | (simp only []; omega) | (simp; omega)), cell_set_ne (show w.heap.size + 1 ≠ w6.heap.size from by have := HB1_6.out.lt; first | omega | (simp only []; omega) | (simp; omega)), cell_set_ne (show w4.heap.size ≠ w6.heap.size from by have := HB6_6.out.lt; first | omega | (simp only []; omega) | (simp; omega))]); exact keepsH5 (by repeat (first | assumption | exact Ext.refl _ | apply Ext.drew | apply Ext.alloc | (refine Ext.setCell ?_ (by first | omega | (simp only []; omega) | (simp; omega)) _) | (refine Ext.trans ?_ (by assumption)))) HS11.out)) ((first
      | (go_at_call 85; ((with_reducible refine (vminor_c p.n.z p.c q.n.z q.c _ (HG.out.ext (HX11.out.trans (by repeat (first | assumption | exact Ext.refl _ | apply Ext.drew | apply Ext.alloc | (refine Ext.setCell ?_ (by first | omega | (simp only []; omega) | (simp; omega)) _) | (refine Ext.trans ?_ (by assumption)))))) HP.out.z HPC.out HQ.out.z HQC.out (by omega) (by omega) (by omega) (by omega)).mono ?_); rintro e w12 ⟨rfl, e12⟩))
      | (go_at_call 84; ((with_reducible refine (rdiv_c (p.n.z * q.c - p.c * q.n.z) (p.n.z * q.n.x - p.n.x * q.n.z) _ (HG.out.ext (HX11.out.trans (by repeat (first | assumption | exact Ext.refl _ | apply Ext.drew | apply Ext.alloc | (refine Ext.setCell ?_ (by first | omega | (simp only []; omega) | (simp; omega)) _) | (refine Ext.trans ?_ (by assumption)))))) ((HP.out.z.mul HQC.out).sub (HPC.out.mul HQ.out.z)) ((HP.out.z.mul HQ.out.x).sub (HP.out.x.mul HQ.out.z)) (by omega) (by omega) (by omega) H1.out).mono ?_); rintro e w13 ⟨rfl, e13⟩; have RB9 := Blk.ext HB9_11.out (w' := w13) (by repeat (first | assumption | exact Ext.refl _ | apply Ext.drew | (refine Ext.trans ?_ (by assumption)))); have cB9_0 := RB9.cell 0 rfl; have fB9_0 := RB9.free 0; have HRB9 := Lib.hid RB9; clear RB9))))
  refine wp_name (fun W => Ext w W ∧ Blk W (w.heap.size + 1 + 1) #[.string ⟨#[]⟩, .string ⟨#[]⟩, .string ⟨#[]⟩] 30 ∧ Blk W (w.heap.size + 1 + 1 + 1) #[.string ⟨#[]⟩, .string ⟨#[]⟩, .string ⟨#[]⟩] 30 ∧ Blk W (w4.heap.size) #[.string (qs (p.n.y * q.n.z - p.n.z * q.n.y)), .string (qs (p.n.z * q.n.x - p.n.x * q.n.z)), .string (qs (p.n.x * q.n.y - p.n.y * q.n.x))] 108 ∧ Blk W (w6.heap.size) #[.string (qs ((p.n.z * q.c - p.c * q.n.z) / (p.n.z * q.n.x - p.n.x * q.n.z))), .string ⟨#[48]⟩, .string (qs ((p.c * q.n.x - p.n.x * q.c) / (p.n.z * q.n.x - p.n.x * q.n.z)))] 108) ⟨((HX11.out.trans (((Ext.refl _).drew.trans e12).trans e13)).setCell (by have := HGEB9.out; first | omega | (simp only []; omega) | (simp; omega)) _), ((Blk.ext HB2_11.out (((Ext.refl _).drew.trans e12).trans e13)).other (a := ⟨w6.heap.size, 0, none⟩) _ (by have := HB2_6.out.lt; first | omega | (simp only []; omega) | (simp; omega))), ((Blk.ext HB3_11.out (((Ext.refl _).drew.trans e12).trans e13)).other (a := ⟨w6.heap.size, 0, none⟩) _ (by have := HB3_6.out.lt; first | omega | (simp only []; omega) | (simp; omega))), ((Blk.ext HB6_11.out (((Ext.refl _).drew.trans e12).trans e13)).other (a := ⟨w6.heap.size, 0, none⟩) _ (by have := HB6_6.out.lt; first | omega | (simp only []; omega) | (simp; omega))), ((Blk.ext HB9_11.out (((Ext.refl _).drew.trans e12).trans e13)).set 0 (.string (qs ((p.n.z * q.c - p.c * q.n.z) / (p.n.z * q.n.x - p.n.x * q.n.z)))))⟩ ?_
  clear cB9_0 fB9_0
  rintro w14 ⟨e14, bB2_14, bB3_14, bB6_14, bB9_14⟩
  have HX14 := Lib.hid e14; have HB2_14 := Lib.hid bB2_14; have HB3_14 := Lib.hid bB3_14; have HB6_14 := Lib.hid bB6_14; have HB9_14 := Lib.hid bB9_14
  clear e14 bB2_14 bB3_14 bB6_14 bB9_14
  have c9_0 := HB9_14.out.cell 0 rfl
  have c9_1 := HB9_14.out.cell 1 rfl
  have c9_2 := HB9_14.out.cell 2 rfl
  go_wp2_with fail
  refine (res_1 ((p.n.z * q.c - p.c * q.n.z) / (p.n.z * q.n.x - p.n.x * q.n.z)) ((p.c * q.n.x - p.n.x * q.c) / (p.n.z * q.n.x - p.n.x * q.n.z)) _ HRK.out HRI.out).mono ?_; rintro e w15 ⟨rfl, e15⟩
  have HX15 : Hid (Ext w w15) := Lib.hid (HX14.out.trans e15)
  have HB2_15 := Lib.hid (Blk.ext HB2_14.out e15)
  have HB3_15 := Lib.hid (Blk.ext HB3_14.out e15)
  have HB6_15 := Lib.hid (Blk.ext HB6_14.out e15)
  clear e15 c9_0 c9_1 c9_2
  have c2_0 := HB2_15.out.cell 0 rfl
  have f2_0 := HB2_15.out.free 0
  have c2_1 := HB2_15.out.cell 1 rfl
  have f2_1 := HB2_15.out.free 1
  have c2_2 := HB2_15.out.cell 2 rfl
  have f2_2 := HB2_15.out.free 2
  go_upto_region 23 with fail
  refine wp_name (fun W => Ext w W ∧ Blk W (w.heap.size + 1 + 1) #[.string (qs ((p.n.z * q.c - p.c * q.n.z) / (p.n.z * q.n.x - p.n.x * q.n.z))), .string ⟨#[48]⟩, .string (qs ((p.c * q.n.x - p.n.x * q.c) / (p.n.z * q.n.x - p.n.x * q.n.z)))] 30 ∧ Blk W (w.heap.size + 1 + 1 + 1) #[.string ⟨#[]⟩, .string ⟨#[]⟩, .string ⟨#[]⟩] 30 ∧ Blk W (w4.heap.size) #[.string (qs (p.n.y * q.n.z - p.n.z * q.n.y)), .string (qs (p.n.z * q.n.x - p.n.x * q.n.z)), .string (qs (p.n.x * q.n.y - p.n.y * q.n.x))] 108) ⟨(((HX15.out.setCell (by have := HGEB2.out; first | omega | (simp only []; omega) | (simp; omega)) _).setCell (by have := HGEB2.out; first | omega | (simp only []; omega) | (simp; omega)) _).setCell (by have := HGEB2.out; first | omega | (simp only []; omega) | (simp; omega)) _), (((HB2_15.out.set 0 (.string (qs ((p.n.z * q.c - p.c * q.n.z) / (p.n.z * q.n.x - p.n.x * q.n.z))))).set 1 (.string ⟨#[48]⟩)).set 2 (.string (qs ((p.c * q.n.x - p.n.x * q.c) / (p.n.z * q.n.x - p.n.x * q.n.z))))), (((HB3_15.out.other (a := ⟨w.heap.size + 1 + 1, 0, none⟩) _ (by first | omega | (simp only []; omega) | (simp; omega))).other (a := ⟨w.heap.size + 1 + 1, 1, none⟩) _ (by first | omega | (simp only []; omega) | (simp; omega))).other (a := ⟨w.heap.size + 1 + 1, 2, none⟩) _ (by first | omega | (simp only []; omega) | (simp; omega))), (((HB6_15.out.other (a := ⟨w.heap.size + 1 + 1, 0, none⟩) _ (by have := HB2_4.out.lt; first | omega | (simp only []; omega) | (simp; omega))).other (a := ⟨w.heap.size + 1 + 1, 1, none⟩) _ (by have := HB2_4.out.lt; first | omega | (simp only []; omega) | (simp; omega))).other (a := ⟨w.heap.size + 1 + 1, 2, none⟩) _ (by have := HB2_4.out.lt; first | omega | (simp only []; omega) | (simp; omega)))⟩ ?_
  rintro w16 ⟨e16, bB2_16, bB3_16, bB6_16⟩
  have HX16 := Lib.hid e16; have HB2_16 := Lib.hid bB2_16; have HB3_16 := Lib.hid bB3_16; have HB6_16 := Lib.hid bB6_16
  clear e16 bB2_16 bB3_16 bB6_16 c2_0 f2_0 c2_1 f2_1 c2_2 f2_2
  have c6_0 := HB6_16.out.cell 0 rfl
  have c6_1 := HB6_16.out.cell 1 rfl
  have c6_2 := HB6_16.out.cell 2 rfl
  go_wp2_with fail
  refine (result_3 (p.n.y * q.n.z - p.n.z * q.n.y) (p.n.z * q.n.x - p.n.x * q.n.z) (p.n.x * q.n.y - p.n.y * q.n.x) _ HR.out.x HR.out.y HR.out.z).mono ?_; rintro e w17 ⟨rfl, e17⟩
  have HX17 : Hid (Ext w w17) := Lib.hid (HX16.out.trans e17)
  have HB2_17 : Hid (Blk w17 (w.heap.size + 1 + 1) #[.string (qs ((p.n.z * q.c - p.c * q.n.z) / (p.n.z * q.n.x - p.n.x * q.n.z))), .string ⟨#[48]⟩, .string (qs ((p.c * q.n.x - p.n.x * q.c) / (p.n.z * q.n.x - p.n.x * q.n.z)))] 30) := Lib.hid (Blk.ext HB2_16.out e17)
  have HB3_17 := Lib.hid (Blk.ext HB3_16.out e17)
  clear e17 c6_0 c6_1 c6_2
  have c3_0 := HB3_17.out.cell 0 rfl
  have f3_0 := HB3_17.out.free 0
  have c3_1 := HB3_17.out.cell 1 rfl
  have f3_1 := HB3_17.out.free 1
  have c3_2 := HB3_17.out.cell 2 rfl
  have f3_2 := HB3_17.out.free 2
  go_wp2_with fail
  refine wp_name (fun W => Ext w W ∧ Blk W (w.heap.size + 1 + 1) #[.string (qs ((p.n.z * q.c - p.c * q.n.z) / (p.n.z * q.n.x - p.n.x * q.n.z))), .string ⟨#[48]⟩, .string (qs ((p.c * q.n.x - p.n.x * q.c) / (p.n.z * q.n.x - p.n.x * q.n.z)))] 30 ∧ Blk W (w.heap.size + 1 + 1 + 1) #[.string (qs (p.n.y * q.n.z - p.n.z * q.n.y)), .string (qs (p.n.z * q.n.x - p.n.x * q.n.z)), .string (qs (p.n.x * q.n.y - p.n.y * q.n.x))] 30) ⟨(((HX17.out.setCell (by have := HGEB3.out; first | omega | (simp only []; omega) | (simp; omega)) _).setCell (by have := HGEB3.out; first | omega | (simp only []; omega) | (simp; omega)) _).setCell (by have := HGEB3.out; first | omega | (simp only []; omega) | (simp; omega)) _), (((HB2_17.out.other (a := ⟨w.heap.size + 1 + 1 + 1, 0, none⟩) _ (by first | omega | (simp only []; omega) | (simp; omega))).other (a := ⟨w.heap.size + 1 + 1 + 1, 1, none⟩) _ (by first | omega | (simp only []; omega) | (simp; omega))).other (a := ⟨w.heap.size + 1 + 1 + 1, 2, none⟩) _ (by first | omega | (simp only []; omega) | (simp; omega))), (((HB3_17.out.set 0 (.string (qs (p.n.y * q.n.z - p.n.z * q.n.y)))).set 1 (.string (qs (p.n.z * q.n.x - p.n.x * q.n.z)))).set 2 (.string (qs (p.n.x * q.n.y - p.n.y * q.n.x))))⟩ ?_
  rintro w18 ⟨e18, bB2_18, bB3_18⟩
  have HX18 := Lib.hid e18; have HB2_18 := Lib.hid bB2_18; have HB3_18 := Lib.hid bB3_18
  clear e18 bB2_18 bB3_18 c3_0 f3_0 c3_1 f3_1 c3_2 f3_2
  have cB2_0 := HB2_18.out.cell 0 rfl; have fB2_0 := HB2_18.out.free 0
  have cB2_1 := HB2_18.out.cell 1 rfl; have fB2_1 := HB2_18.out.free 1
  have cB2_2 := HB2_18.out.cell 2 rfl; have fB2_2 := HB2_18.out.free 2
  have cB3_0 := HB3_18.out.cell 0 rfl; have fB3_0 := HB3_18.out.free 0
  have cB3_1 := HB3_18.out.cell 1 rfl; have fB3_1 := HB3_18.out.free 1
  have cB3_2 := HB3_18.out.cell 2 rfl; have fB3_2 := HB3_18.out.free 2
  have nb : w.heap.size + 1 + 1 ≠ w.heap.size + 1 + 1 + 1 := by first | omega | (simp only []; omega) | (simp; omega)
  go_region
  go_wp2_with fail
  refine wp_name (fun W => Ext w W ∧ Blk W (w.heap.size + 1 + 1) #[.string (qs ((p.n.z * q.c - p.c * q.n.z) / (p.n.z * q.n.x - p.n.x * q.n.z))), .string ⟨#[48]⟩, .string (qs ((p.c * q.n.x - p.n.x * q.c) / (p.n.z * q.n.x - p.n.x * q.n.z)))] 30 ∧ Blk W (w.heap.size + 1 + 1 + 1) #[.string (qs (p.n.y * q.n.z - p.n.z * q.n.y)), .string (qs (p.n.z * q.n.x - p.n.x * q.n.z)), .string (qs (p.n.x * q.n.y - p.n.y * q.n.x))] 30) ⟨(((((((HX18.out.setCell (by have := HGEB2.out; first | omega | (simp only []; omega) | (simp; omega)) _).setCell (by have := HGEB2.out; first | omega | (simp only []; omega) | (simp; omega)) _).setCell (by have := HGEB2.out; first | omega | (simp only []; omega) | (simp; omega)) _).setCell (by have := HGEB3.out; first | omega | (simp only []; omega) | (simp; omega)) _).setCell (by have := HGEB3.out; first | omega | (simp only []; omega) | (simp; omega)) _).setCell (by have := HGEB3.out; first | omega | (simp only []; omega) | (simp; omega)) _).drew), (((((((HB2_18.out.set 0 (.string (qs ((p.n.z * q.c - p.c * q.n.z) / (p.n.z * q.n.x - p.n.x * q.n.z))))).set 1 (.string ⟨#[48]⟩)).set 2 (.string (qs ((p.c * q.n.x - p.n.x * q.c) / (p.n.z * q.n.x - p.n.x * q.n.z))))).other (a := ⟨w.heap.size + 1 + 1 + 1, 0, none⟩) _ (by first | omega | (simp only []; omega) | (simp; omega))).other (a := ⟨w.heap.size + 1 + 1 + 1, 1, none⟩) _ (by first | omega | (simp only []; omega) | (simp; omega))).other (a := ⟨w.heap.size + 1 + 1 + 1, 2, none⟩) _ (by first | omega | (simp only []; omega) | (simp; omega))).drew), (((((((HB3_18.out.other (a := ⟨w.heap.size + 1 + 1, 0, none⟩) _ (by first | omega | (simp only []; omega) | (simp; omega))).other (a := ⟨w.heap.size + 1 + 1, 1, none⟩) _ (by first | omega | (simp only []; omega) | (simp; omega))).other (a := ⟨w.heap.size + 1 + 1, 2, none⟩) _ (by first | omega | (simp only []; omega) | (simp; omega))).set 0 (.string (qs (p.n.y * q.n.z - p.n.z * q.n.y)))).set 1 (.string (qs (p.n.z * q.n.x - p.n.x * q.n.z)))).set 2 (.string (qs (p.n.x * q.n.y - p.n.y * q.n.x)))).drew)⟩ ?_
  rintro w19 ⟨e19, bB2_19, bB3_19⟩
  have HX19 := Lib.hid e19; have HB2_19 := Lib.hid bB2_19; have HB3_19 := Lib.hid bB3_19
  clear e19 bB2_19 bB3_19 cB2_0 fB2_0 cB2_1 fB2_1 cB2_2 fB2_2 cB3_0 fB3_0 cB3_1 fB3_1 cB3_2 fB3_2 nb
  have gB2_0 := HB2_19.out.cell 0 rfl
  have gB2_1 := HB2_19.out.cell 1 rfl
  have gB2_2 := HB2_19.out.cell 2 rfl
  have gB3_0 := HB3_19.out.cell 0 rfl
  have gB3_1 := HB3_19.out.cell 1 rfl
  have gB3_2 := HB3_19.out.cell 2 rfl
  refine bodyPost_ret (v := .tuple #[.agg #[.string (qs ((p.n.z * q.c - p.c * q.n.z) / (p.n.z * q.n.x - p.n.x * q.n.z))), .string ⟨#[48]⟩, .string (qs ((p.c * q.n.x - p.n.x * q.c) / (p.n.z * q.n.x - p.n.x * q.n.z)))], .agg #[.string (qs (p.n.y * q.n.z - p.n.z * q.n.y)), .string (qs (p.n.z * q.n.x - p.n.x * q.n.z)), .string (qs (p.n.x * q.n.y - p.n.y * q.n.x))], .int .i64 0]) (by simp [results, Tryz.results25, go_sem, gB2_0, gB2_1, gB2_2, gB3_0, gB3_1, gB3_2]) rfl ⟨rfl, HX19.out⟩
end Go.Proofs.YtglppcmegocphaaGreatDoor

namespace Go.Proofs.YtglppcmegocphaaGreatDoor
open Go Go.RowKit
set_option maxRecDepth 100000 in
set_option maxHeartbeats 16000000 in
theorem vCommon_2 (p q : Pl) (w : World) (g : Gd w) (hp : VB 200 p.n) (hpc : QB 200 p.c) (hq : VB 200 q.n) (hqc : QB 200 q.c) (hz : ¬ (p.n.x = 0 ∧ p.n.y = 0 ∧ p.n.z = 0)) (hy : ¬ (q.n.x = 0 ∧ q.n.y = 0 ∧ q.n.z = 0)) (hr : VB 200 ⟨p.n.y * q.n.z - p.n.z * q.n.y, p.n.z * q.n.x - p.n.x * q.n.z, p.n.x * q.n.y - p.n.y * q.n.x⟩) (hri : QB 200 ((p.c * q.n.y - p.n.y * q.c) / (p.n.x * q.n.y - p.n.y * q.n.x))) (hrk : QB 200 ((p.n.x * q.c - p.c * q.n.x) / (p.n.x * q.n.y - p.n.y * q.n.x))) (h0 : p.n.y * q.n.z - p.n.z * q.n.y = 0) (h1 : p.n.z * q.n.x - p.n.x * q.n.z = 0) (h2 : p.n.x * q.n.y - p.n.y * q.n.x ≠ 0) : Calls Tryz.prog 25 #[.agg #[.string (qs p.n.x), .string (qs p.n.y), .string (qs p.n.z), .string (qs p.c)], .agg #[.string (qs q.n.x), .string (qs q.n.y), .string (qs q.n.z), .string (qs q.c)]] w (Ret w (.tuple #[.agg #[.string (qs ((p.c * q.n.y - p.n.y * q.c) / (p.n.x * q.n.y - p.n.y * q.n.x))), .string (qs ((p.n.x * q.c - p.c * q.n.x) / (p.n.x * q.n.y - p.n.y * q.n.x))), .string ⟨#[48]⟩], .agg #[.string (qs (p.n.y * q.n.z - p.n.z * q.n.y)), .string (qs (p.n.z * q.n.x - p.n.x * q.n.z)), .string (qs (p.n.x * q.n.y - p.n.y * q.n.x))], .int .i64 0])) := by
  have HP := Lib.hid hp
  have HPC := Lib.hid hpc
  have HQ := Lib.hid hq
  have HQC := Lib.hid hqc
  have HZ := Lib.hid hz
  have HY := Lib.hid hy
  have HG := Lib.hid g
  have HR := Lib.hid hr
  have HRI := Lib.hid hri
  have HRK := Lib.hid hrk
  clear hp hpc hq hqc hz hy g hr hri hrk
  have h0_t := qs_is0 h0
  have h1_t := qs_is0 h1
  have h2_t := qs_not0 h2
  have H2 := Lib.hid h2
  clear h0 h1 h2
  have ix0 : ∀ W, (Instr.index 122 (.agg #[.string (qs p.n.x), .string (qs p.n.y), .string (qs p.n.z), .string (qs p.c), .string (qs q.n.x), .string (qs q.n.y), .string (qs q.n.z), .string (qs q.c)]) (.int .i64 0)).run Tryz.prog W = .ok (.agg #[.string (qs p.n.x), .string (qs p.n.y), .string (qs p.n.z), .string (qs p.c)]) W := fun W => by kernel_rfl
  have ix1 : ∀ W, (Instr.index 122 (.agg #[.string (qs p.n.x), .string (qs p.n.y), .string (qs p.n.z), .string (qs p.c), .string (qs q.n.x), .string (qs q.n.y), .string (qs q.n.z), .string (qs q.c)]) (.int .i64 1)).run Tryz.prog W = .ok (.agg #[.string (qs q.n.x), .string (qs q.n.y), .string (qs q.n.z), .string (qs q.c)]) W := fun W => by kernel_rfl
  go_enter Tryz.func25, Tryz.ntmps25
  go_wp2_with fail
  refine wp_loop_rounds 3 ?_
  rw [rounds_succ]
  go_wp2_with fail
  refine (vPlane_ok p _ (HG.out.ext ((((((Ext.refl w).alloc _).alloc _).alloc _).alloc _).alloc _)) HP.out HPC.out HZ.out).mono ?_; rintro e w1 ⟨rfl, e1⟩
  have HX1 : Hid (Ext w w1) := Lib.hid (((((((Ext.refl w).alloc _).alloc _).alloc _).alloc _).alloc _).trans e1)
  have HB0_1 : Hid (Blk w1 (w.heap.size) #[.string (qs p.n.x), .string (qs p.n.y), .string (qs p.n.z), .string (qs p.c)] 48) := Lib.hid (Blk.ext (((((Blk.new' (w := _) (cs := #[.string (qs p.n.x), .string (qs p.n.y), .string (qs p.n.z), .string (qs p.c)]) (t := 48) (by first | rfl | (simp only [World.size_alloc]; done) | (simp only [World.size_alloc]; omega) | simp)).alloc _).alloc _).alloc _).alloc _) e1)
  have HB1_1 : Hid (Blk w1 (w.heap.size + 1) #[.string (qs q.n.x), .string (qs q.n.y), .string (qs q.n.z), .string (qs q.c)] 48) := Lib.hid (Blk.ext ((((Blk.new' (w := _) (cs := #[.string (qs q.n.x), .string (qs q.n.y), .string (qs q.n.z), .string (qs q.c)]) (t := 48) (by first | rfl | (simp only [World.size_alloc]; done) | (simp only [World.size_alloc]; omega) | simp)).alloc _).alloc _).alloc _) e1)
  have HB2_1 : Hid (Blk w1 (w.heap.size + 1 + 1) #[.string ⟨#[]⟩, .string ⟨#[]⟩, .string ⟨#[]⟩] 30) := Lib.hid (Blk.ext (((Blk.new' (w := _) (cs := #[.string ⟨#[]⟩, .string ⟨#[]⟩, .string ⟨#[]⟩]) (t := 30) (by first | rfl | (simp only [World.size_alloc]; done) | (simp only [World.size_alloc]; omega) | simp)).alloc _).alloc _) e1)
  have HB3_1 : Hid (Blk w1 (w.heap.size + 1 + 1 + 1) #[.string ⟨#[]⟩, .string ⟨#[]⟩, .string ⟨#[]⟩] 30) := Lib.hid (Blk.ext ((Blk.new' (w := _) (cs := #[.string ⟨#[]⟩, .string ⟨#[]⟩, .string ⟨#[]⟩]) (t := 30) (by first | rfl | (simp only [World.size_alloc]; done) | (simp only [World.size_alloc]; omega) | simp)).alloc _) e1)
  have HGEB0 : Hid (w.heap.size ≤ w.heap.size) := Lib.hid (by first | omega | (simp only []; omega) | (simp; omega))
  have HGEB1 : Hid (w.heap.size ≤ w.heap.size + 1) := Lib.hid (by first | omega | (simp only []; omega) | (simp; omega))
  have HGEB2 : Hid (w.heap.size ≤ w.heap.size + 1 + 1) := Lib.hid (by first | omega | (simp only []; omega) | (simp; omega))
  have HGEB3 : Hid (w.heap.size ≤ w.heap.size + 1 + 1 + 1) := Lib.hid (by first | omega | (simp only []; omega) | (simp; omega))
  clear e1
  go_wp2_with fail
  rw [rounds_succ]
  go_wp2_with fail
  refine (vPlane_ok q _ (HG.out.ext (HX1.out.alloc _)) HQ.out HQC.out HY.out).mono ?_; rintro e w2 ⟨rfl, e2⟩
  have HX2 : Hid (Ext w w2) := Lib.hid ((HX1.out.alloc _).trans e2)
  have HB0_2 : Hid (Blk w2 (w.heap.size) #[.string (qs p.n.x), .string (qs p.n.y), .string (qs p.n.z), .string (qs p.c)] 48) := Lib.hid (Blk.ext (HB0_1.out.alloc _) e2)
  have HB1_2 : Hid (Blk w2 (w.heap.size + 1) #[.string (qs q.n.x), .string (qs q.n.y), .string (qs q.n.z), .string (qs q.c)] 48) := Lib.hid (Blk.ext (HB1_1.out.alloc _) e2)
  have HB2_2 : Hid (Blk w2 (w.heap.size + 1 + 1) #[.string ⟨#[]⟩, .string ⟨#[]⟩, .string ⟨#[]⟩] 30) := Lib.hid (Blk.ext (HB2_1.out.alloc _) e2)
  have HB3_2 : Hid (Blk w2 (w.heap.size + 1 + 1 + 1) #[.string ⟨#[]⟩, .string ⟨#[]⟩, .string ⟨#[]⟩] 30) := Lib.hid (Blk.ext (HB3_1.out.alloc _) e2)
  clear e2
  go_wp2_with fail
  rw [rounds_succ]
  have c0_0 := HB0_2.out.cell 0 rfl
  have c0_1 := HB0_2.out.cell 1 rfl
  have c0_2 := HB0_2.out.cell 2 rfl
  have c1_0 := HB1_2.out.cell 0 rfl
  have c1_1 := HB1_2.out.cell 1 rfl
  have c1_2 := HB1_2.out.cell 2 rfl
  go_wp2_with fail
  refine (vcross0_c p.n q.n _ (HG.out.ext HX2.out) HP.out HQ.out (by omega) (by omega)).mono ?_; rintro e w3 ⟨rfl, e3⟩
  have HX3 : Hid (Ext w w3) := Lib.hid (HX2.out.trans e3)
  have HB0_3 := Lib.hid (Blk.ext HB0_2.out e3)
  have HB1_3 := Lib.hid (Blk.ext HB1_2.out e3)
  have HB2_3 := Lib.hid (Blk.ext HB2_2.out e3)
  have HB3_3 := Lib.hid (Blk.ext HB3_2.out e3)
  clear e3 c0_0 c0_1 c0_2 c1_0 c1_1 c1_2
  go_wp2_with fail
  refine ((list_e ⟨qs (p.n.y * q.n.z - p.n.z * q.n.y), qs (p.n.z * q.n.x - p.n.x * q.n.z), qs (p.n.x * q.n.y - p.n.y * q.n.x)⟩ _).mono (fun _ _ h => (⟨h.1, h.2 ▸ ((Ext.refl _).alloc _).alloc _⟩ : Ret _ _ _ _))).mono ?_; rintro e w4 ⟨rfl, e4⟩
  have HX4 : Hid (Ext w w4) := Lib.hid (HX3.out.trans e4)
  have HB0_4 := Lib.hid (Blk.ext HB0_3.out e4)
  have HB1_4 := Lib.hid (Blk.ext HB1_3.out e4)
  have HB2_4 := Lib.hid (Blk.ext HB2_3.out e4)
  have HB3_4 := Lib.hid (Blk.ext HB3_3.out e4)
  clear e4
  go_wp2_with fail
  refine wp_loop_rounds 4 ?_
  rw [rounds_succ]
  go_wp2_with fail
  rw [rounds_succ]
  go_wp2_with fail
  rw [rounds_succ]
  go_wp2_with fail
  refine wp_name (fun W => Ext w W ∧ Blk W (w.heap.size) #[.string (qs p.n.x), .string (qs p.n.y), .string (qs p.n.z), .string (qs p.c)] 48 ∧ Blk W (w.heap.size + 1) #[.string (qs q.n.x), .string (qs q.n.y), .string (qs q.n.z), .string (qs q.c)] 48 ∧ Blk W (w.heap.size + 1 + 1) #[.string ⟨#[]⟩, .string ⟨#[]⟩, .string ⟨#[]⟩] 30 ∧ Blk W (w.heap.size + 1 + 1 + 1) #[.string ⟨#[]⟩, .string ⟨#[]⟩, .string ⟨#[]⟩] 30 ∧ Blk W (w4.heap.size) #[.string (qs (p.n.y * q.n.z - p.n.z * q.n.y)), .string (qs (p.n.z * q.n.x - p.n.x * q.n.z)), .string (qs (p.n.x * q.n.y - p.n.y * q.n.x))] 108) ⟨(HX4.out.alloc _), (HB0_4.out.alloc _), (HB1_4.out.alloc _), (HB2_4.out.alloc _), (HB3_4.out.alloc _), (Blk.new' (w := _) (cs := #[.string (qs (p.n.y * q.n.z - p.n.z * q.n.y)), .string (qs (p.n.z * q.n.x - p.n.x * q.n.z)), .string (qs (p.n.x * q.n.y - p.n.y * q.n.x))]) (t := 108) (by first | rfl | (simp only [World.size_alloc]; done) | (simp only [World.size_alloc]; omega) | simp))⟩ ?_
  rintro w5 ⟨e5, bB0_5, bB1_5, bB2_5, bB3_5, bB6_5⟩
  have HX5 := Lib.hid e5; have HB0_5 := Lib.hid bB0_5; have HB1_5 := Lib.hid bB1_5; have HB2_5 := Lib.hid bB2_5; have HB3_5 := Lib.hid bB3_5; have HB6_5 := Lib.hid bB6_5
  have HGEB6 : Hid (w.heap.size ≤ w4.heap.size) := Lib.hid (by have := HX4.out.size; first | omega | (simp only []; omega) | (simp; omega))
  clear e5 bB0_5 bB1_5 bB2_5 bB3_5 bB6_5
  have hS5 : w5.cell? ⟨w.heap.size, 0, none⟩ = some (.string (qs p.n.x)) ∧ w5.cell? ⟨w.heap.size, 1, none⟩ = some (.string (qs p.n.y)) ∧ w5.cell? ⟨w.heap.size, 2, none⟩ = some (.string (qs p.n.z)) ∧ w5.cell? ⟨w.heap.size + 1, 0, none⟩ = some (.string (qs q.n.x)) ∧ w5.cell? ⟨w.heap.size + 1, 1, none⟩ = some (.string (qs q.n.y)) ∧ w5.cell? ⟨w.heap.size + 1, 2, none⟩ = some (.string (qs q.n.z)) := ⟨HB0_5.out.cell 0 rfl, HB0_5.out.cell 1 rfl, HB0_5.out.cell 2 rfl, HB1_5.out.cell 0 rfl, HB1_5.out.cell 1 rfl, HB1_5.out.cell 2 rfl⟩
  have HS5 := Lib.hid hS5; clear hS5
  go_cut [14, 15] from 57 to 62 (fun p14 p15 wx => ∃ i7 i8 : Nat, p14 = .pointer (some ⟨i7, 0, none⟩) ∧ p15 = .pointer (some ⟨i8, 0, none⟩) ∧ w5.heap.size ≤ i7 ∧ w5.heap.size ≤ i8 ∧ i7 ≠ i8 ∧ Ext w5 wx ∧ Blk wx i7 #[.string (qs p.n.x), .string (qs p.n.y), .string (qs p.n.z)] 108 ∧ Blk wx i8 #[.string (qs q.n.x), .string (qs q.n.y), .string (qs q.n.z)] 108)
  case first =>
    go_region_held3 (fun w' => w'.cell? ⟨w.heap.size, 0, none⟩ = some (.string (qs p.n.x)) ∧ w'.cell? ⟨w.heap.size, 1, none⟩ = some (.string (qs p.n.y)) ∧ w'.cell? ⟨w.heap.size, 2, none⟩ = some (.string (qs p.n.z)) ∧ w'.cell? ⟨w.heap.size + 1, 0, none⟩ = some (.string (qs q.n.x)) ∧ w'.cell? ⟨w.heap.size + 1, 1, none⟩ = some (.string (qs q.n.y)) ∧ w'.cell? ⟨w.heap.size + 1, 2, none⟩ = some (.string (qs q.n.z)))
      ((exact keepsH6 (by repeat (first | assumption | exact Ext.refl _ | apply Ext.drew | apply Ext.alloc | (refine Ext.setCell ?_ (by first | omega | (simp only []; omega) | (simp; omega)) _) | (refine Ext.trans ?_ (by assumption)))) HS5.out)) (first
      | (go_at_call 69; ((with_reducible refine (list_e ⟨qs p.n.x, qs p.n.y, qs p.n.z⟩ _).mono ?_); rintro e _ ⟨rfl, rfl⟩))
      | (go_at_call 69; ((with_reducible refine (list_e ⟨qs q.n.x, qs q.n.y, qs q.n.z⟩ _).mono ?_); rintro e _ ⟨rfl, rfl⟩)))
    all_goals (go_wp2_with fail; go_meet)
    all_goals (refine ⟨_, _, rfl, rfl, by first | omega | (simp; omega), by first | omega | (simp; omega), by first | omega | (simp; omega), (by repeat (first | assumption | exact Ext.refl _ | apply Ext.drew | apply Ext.alloc | (refine Ext.setCell ?_ (by first | omega | (simp only []; omega) | (simp; omega)) _) | (refine Ext.trans ?_ (by assumption)))), ?_, ?_⟩)
    all_goals (repeat (first | assumption | (refine Blk.new' ?_; first | rfl | (simp only [World.size_alloc]; done) | (simp only [World.size_alloc]; omega)) | apply Blk.alloc | apply Blk.drew | (exact Blk.fill3 (by assumption)) | (refine Blk.ext ?_ (by assumption))))
  obtain ⟨i7, i8, rfl, rfl, hgeB7, hgeB8, hne10, e6, bB7, bB8⟩ := hcut
  rename World => w6
  have HX6 : Hid (Ext w w6) := Lib.hid (HX5.out.trans e6)
  have HB0_6 := Lib.hid (HB0_5.out.ext e6)
  have HB1_6 := Lib.hid (HB1_5.out.ext e6)
  have HB2_6 := Lib.hid (HB2_5.out.ext e6)
  have HB3_6 := Lib.hid (HB3_5.out.ext e6)
  have HB6_6 := Lib.hid (HB6_5.out.ext e6)
  have HB7_6 := Lib.hid bB7; have HGEB7 : Hid (w.heap.size ≤ i7) := Lib.hid (Nat.le_trans HX5.out.size hgeB7)
  have HB8_6 := Lib.hid bB8; have HGEB8 : Hid (w.heap.size ≤ i8) := Lib.hid (Nat.le_trans HX5.out.size hgeB8)
  have HNEB0B7 : Hid (w.heap.size ≠ i7) := Lib.hid (by have := HB0_5.out.lt; omega)
  have HNEB0B8 : Hid (w.heap.size ≠ i8) := Lib.hid (by have := HB0_5.out.lt; omega)
  have HNEB1B7 : Hid (w.heap.size + 1 ≠ i7) := Lib.hid (by have := HB1_5.out.lt; omega)
  have HNEB1B8 : Hid (w.heap.size + 1 ≠ i8) := Lib.hid (by have := HB1_5.out.lt; omega)
  have HNEB2B7 : Hid (w.heap.size + 1 + 1 ≠ i7) := Lib.hid (by have := HB2_5.out.lt; omega)
  have HNEB2B8 : Hid (w.heap.size + 1 + 1 ≠ i8) := Lib.hid (by have := HB2_5.out.lt; omega)
  have HNEB3B7 : Hid (w.heap.size + 1 + 1 + 1 ≠ i7) := Lib.hid (by have := HB3_5.out.lt; omega)
  have HNEB3B8 : Hid (w.heap.size + 1 + 1 + 1 ≠ i8) := Lib.hid (by have := HB3_5.out.lt; omega)
  have HNEB6B7 : Hid (w4.heap.size ≠ i7) := Lib.hid (by have := HB6_5.out.lt; omega)
  have HNEB6B8 : Hid (w4.heap.size ≠ i8) := Lib.hid (by have := HB6_5.out.lt; omega)
  have HNEB7B8 := Lib.hid hne10
  clear hgeB7 hgeB8 hne10 e6 bB7 bB8
  go_wp2_with fail
  refine wp_name (fun W => Ext w W ∧ Blk W (w.heap.size) #[.string (qs p.n.x), .string (qs p.n.y), .string (qs p.n.z), .string (qs p.c)] 48 ∧ Blk W (w.heap.size + 1) #[.string (qs q.n.x), .string (qs q.n.y), .string (qs q.n.z), .string (qs q.c)] 48 ∧ Blk W (w.heap.size + 1 + 1) #[.string ⟨#[]⟩, .string ⟨#[]⟩, .string ⟨#[]⟩] 30 ∧ Blk W (w.heap.size + 1 + 1 + 1) #[.string ⟨#[]⟩, .string ⟨#[]⟩, .string ⟨#[]⟩] 30 ∧ Blk W (w4.heap.size) #[.string (qs (p.n.y * q.n.z - p.n.z * q.n.y)), .string (qs (p.n.z * q.n.x - p.n.x * q.n.z)), .string (qs (p.n.x * q.n.y - p.n.y * q.n.x))] 108 ∧ Blk W (i7) #[.string (qs p.n.x), .string (qs p.n.y), .string (qs p.n.z)] 108 ∧ Blk W (i8) #[.string (qs q.n.x), .string (qs q.n.y), .string (qs q.n.z)] 108 ∧ Blk W (w6.heap.size) #[.string ⟨#[]⟩, .string ⟨#[]⟩, .string ⟨#[48]⟩] 108) ⟨(HX6.out.alloc _), (HB0_6.out.alloc _), (HB1_6.out.alloc _), (HB2_6.out.alloc _), (HB3_6.out.alloc _), (HB6_6.out.alloc _), (HB7_6.out.alloc _), (HB8_6.out.alloc _), (Blk.new' (w := _) (cs := #[.string ⟨#[]⟩, .string ⟨#[]⟩, .string ⟨#[48]⟩]) (t := 108) (by first | rfl | (simp only [World.size_alloc]; done) | (simp only [World.size_alloc]; omega) | simp))⟩ ?_
  rintro w7 ⟨e7, bB0_7, bB1_7, bB2_7, bB3_7, bB6_7, bB7_7, bB8_7, bB9_7⟩
  have HX7 := Lib.hid e7; have HB0_7 := Lib.hid bB0_7; have HB1_7 := Lib.hid bB1_7; have HB2_7 := Lib.hid bB2_7; have HB3_7 := Lib.hid bB3_7; have HB6_7 := Lib.hid bB6_7; have HB7_7 := Lib.hid bB7_7; have HB8_7 := Lib.hid bB8_7; have HB9_7 := Lib.hid bB9_7
  have HGEB9 : Hid (w.heap.size ≤ w6.heap.size) := Lib.hid (by have := HX6.out.size; first | omega | (simp only []; omega) | (simp; omega))
  clear e7 bB0_7 bB1_7 bB2_7 bB3_7 bB6_7 bB7_7 bB8_7 bB9_7
  have hS7 : w7.cell? ⟨w.heap.size, 3, none⟩ = some (.string (qs p.c)) ∧ w7.cell? ⟨i7, 1, none⟩ = some (.string (qs p.n.y)) ∧ w7.cell? ⟨w.heap.size + 1, 3, none⟩ = some (.string (qs q.c)) ∧ w7.cell? ⟨i8, 1, none⟩ = some (.string (qs q.n.y)) ∧ w7.cell? ⟨w4.heap.size, 2, none⟩ = some (.string (qs (p.n.x * q.n.y - p.n.y * q.n.x))) := ⟨HB0_7.out.cell 3 rfl, HB7_7.out.cell 1 rfl, HB1_7.out.cell 3 rfl, HB8_7.out.cell 1 rfl, HB6_7.out.cell 2 rfl⟩
  have HS7 := Lib.hid hS7; clear hS7
  go_region_held3 (fun w' => w'.cell? ⟨w.heap.size, 3, none⟩ = some (.string (qs p.c)) ∧ w'.cell? ⟨i7, 1, none⟩ = some (.string (qs p.n.y)) ∧ w'.cell? ⟨w.heap.size + 1, 3, none⟩ = some (.string (qs q.c)) ∧ w'.cell? ⟨i8, 1, none⟩ = some (.string (qs q.n.y)) ∧ w'.cell? ⟨w4.heap.size, 2, none⟩ = some (.string (qs (p.n.x * q.n.y - p.n.y * q.n.x))))
    (((try simp only [cell_set_ne (show w.heap.size ≠ w6.heap.size from by have := HB0_6.out.lt; first | omega | (simp only []; omega) | (simp; omega)), cell_set_ne (show i7 ≠ w6.heap.size from by have := HB7_6.out.lt; first | omega | (simp only []; omega) | (simp; omega)), cell_set_ne (show w.heap.size + 1 ≠ w6.heap.size from by have := HB1_6.out.lt; first | omega | (simp only []; omega) | (simp; omega)), cell_set_ne (show i8 ≠ w6.heap.size from by have := HB8_6.out.lt; first | omega | (simp only []; omega) | (simp; omega)), cell_set_ne (show w4.heap.size ≠ w6.heap.size from by have := HB6_6.out.lt; first | omega | (simp only []; omega) | (simp; omega))]); exact keepsH5 (by repeat (first | assumption | exact Ext.refl _ | apply Ext.drew | apply Ext.alloc | (refine Ext.setCell ?_ (by first | omega | (simp only []; omega) | (simp; omega)) _) | (refine Ext.trans ?_ (by assumption)))) HS7.out)) ((first
      | (go_at_call 85; ((with_reducible refine (vminor_c p.c p.n.y q.c q.n.y _ (HG.out.ext (HX7.out.trans (by repeat (first | assumption | exact Ext.refl _ | apply Ext.drew | apply Ext.alloc | (refine Ext.setCell ?_ (by first | omega | (simp only []; omega) | (simp; omega)) _) | (refine Ext.trans ?_ (by assumption)))))) HPC.out HP.out.y HQC.out HQ.out.y (by omega) (by omega) (by omega) (by omega)).mono ?_); rintro e w8 ⟨rfl, e8⟩))
      | (go_at_call 84; ((with_reducible refine (rdiv_c (p.c * q.n.y - p.n.y * q.c) (p.n.x * q.n.y - p.n.y * q.n.x) _ (HG.out.ext (HX7.out.trans (by repeat (first | assumption | exact Ext.refl _ | apply Ext.drew | apply Ext.alloc | (refine Ext.setCell ?_ (by first | omega | (simp only []; omega) | (simp; omega)) _) | (refine Ext.trans ?_ (by assumption)))))) ((HPC.out.mul HQ.out.y).sub (HP.out.y.mul HQC.out)) ((HP.out.x.mul HQ.out.y).sub (HP.out.y.mul HQ.out.x)) (by omega) (by omega) (by omega) H2.out).mono ?_); rintro e w9 ⟨rfl, e9⟩; have RB9 := Blk.ext HB9_7.out (w' := w9) (by repeat (first | assumption | exact Ext.refl _ | apply Ext.drew | (refine Ext.trans ?_ (by assumption)))); have cB9_0 := RB9.cell 0 rfl; have fB9_0 := RB9.free 0; have HRB9 := Lib.hid RB9; clear RB9))))
  refine wp_name (fun W => Ext w W ∧ Blk W (w.heap.size) #[.string (qs p.n.x), .string (qs p.n.y), .string (qs p.n.z), .string (qs p.c)] 48 ∧ Blk W (w.heap.size + 1) #[.string (qs q.n.x), .string (qs q.n.y), .string (qs q.n.z), .string (qs q.c)] 48 ∧ Blk W (w.heap.size + 1 + 1) #[.string ⟨#[]⟩, .string ⟨#[]⟩, .string ⟨#[]⟩] 30 ∧ Blk W (w.heap.size + 1 + 1 + 1) #[.string ⟨#[]⟩, .string ⟨#[]⟩, .string ⟨#[]⟩] 30 ∧ Blk W (w4.heap.size) #[.string (qs (p.n.y * q.n.z - p.n.z * q.n.y)), .string (qs (p.n.z * q.n.x - p.n.x * q.n.z)), .string (qs (p.n.x * q.n.y - p.n.y * q.n.x))] 108 ∧ Blk W (i7) #[.string (qs p.n.x), .string (qs p.n.y), .string (qs p.n.z)] 108 ∧ Blk W (i8) #[.string (qs q.n.x), .string (qs q.n.y), .string (qs q.n.z)] 108 ∧ Blk W (w6.heap.size) #[.string (qs ((p.c * q.n.y - p.n.y * q.c) / (p.n.x * q.n.y - p.n.y * q.n.x))), .string ⟨#[]⟩, .string ⟨#[48]⟩] 108) ⟨((HX7.out.trans (((Ext.refl _).drew.trans e8).trans e9)).setCell (by have := HGEB9.out; first | omega | (simp only []; omega) | (simp; omega)) _), ((Blk.ext HB0_7.out (((Ext.refl _).drew.trans e8).trans e9)).other (a := ⟨w6.heap.size, 0, none⟩) _ (by have := HB0_6.out.lt; first | omega | (simp only []; omega) | (simp; omega))), ((Blk.ext HB1_7.out (((Ext.refl _).drew.trans e8).trans e9)).other (a := ⟨w6.heap.size, 0, none⟩) _ (by have := HB1_6.out.lt; first | omega | (simp only []; omega) | (simp; omega))), ((Blk.ext HB2_7.out (((Ext.refl _).drew.trans e8).trans e9)).other (a := ⟨w6.heap.size, 0, none⟩) _ (by have := HB2_6.out.lt; first | omega | (simp only []; omega) | (simp; omega))), ((Blk.ext HB3_7.out (((Ext.refl _).drew.trans e8).trans e9)).other (a := ⟨w6.heap.size, 0, none⟩) _ (by have := HB3_6.out.lt; first | omega | (simp only []; omega) | (simp; omega))), ((Blk.ext HB6_7.out (((Ext.refl _).drew.trans e8).trans e9)).other (a := ⟨w6.heap.size, 0, none⟩) _ (by have := HB6_6.out.lt; first | omega | (simp only []; omega) | (simp; omega))), ((Blk.ext HB7_7.out (((Ext.refl _).drew.trans e8).trans e9)).other (a := ⟨w6.heap.size, 0, none⟩) _ (by have := HB7_6.out.lt; first | omega | (simp only []; omega) | (simp; omega))), ((Blk.ext HB8_7.out (((Ext.refl _).drew.trans e8).trans e9)).other (a := ⟨w6.heap.size, 0, none⟩) _ (by have := HB8_6.out.lt; first | omega | (simp only []; omega) | (simp; omega))), ((Blk.ext HB9_7.out (((Ext.refl _).drew.trans e8).trans e9)).set 0 (.string (qs ((p.c * q.n.y - p.n.y * q.c) / (p.n.x * q.n.y - p.n.y * q.n.x)))))⟩ ?_
  clear cB9_0 fB9_0
  rintro w10 ⟨e10, bB0_10, bB1_10, bB2_10, bB3_10, bB6_10, bB7_10, bB8_10, bB9_10⟩
  have HX10 := Lib.hid e10; have HB0_10 := Lib.hid bB0_10; have HB1_10 := Lib.hid bB1_10; have HB2_10 := Lib.hid bB2_10; have HB3_10 := Lib.hid bB3_10; have HB6_10 := Lib.hid bB6_10; have HB7_10 := Lib.hid bB7_10; have HB8_10 := Lib.hid bB8_10; have HB9_10 := Lib.hid bB9_10
  clear e10 bB0_10 bB1_10 bB2_10 bB3_10 bB6_10 bB7_10 bB8_10 bB9_10
  go_wp2_with fail
  refine wp_name (fun W => Ext w W ∧ Blk W (w.heap.size) #[.string (qs p.n.x), .string (qs p.n.y), .string (qs p.n.z), .string (qs p.c)] 48 ∧ Blk W (w.heap.size + 1) #[.string (qs q.n.x), .string (qs q.n.y), .string (qs q.n.z), .string (qs q.c)] 48 ∧ Blk W (w.heap.size + 1 + 1) #[.string ⟨#[]⟩, .string ⟨#[]⟩, .string ⟨#[]⟩] 30 ∧ Blk W (w.heap.size + 1 + 1 + 1) #[.string ⟨#[]⟩, .string ⟨#[]⟩, .string ⟨#[]⟩] 30 ∧ Blk W (w4.heap.size) #[.string (qs (p.n.y * q.n.z - p.n.z * q.n.y)), .string (qs (p.n.z * q.n.x - p.n.x * q.n.z)), .string (qs (p.n.x * q.n.y - p.n.y * q.n.x))] 108 ∧ Blk W (i7) #[.string (qs p.n.x), .string (qs p.n.y), .string (qs p.n.z)] 108 ∧ Blk W (i8) #[.string (qs q.n.x), .string (qs q.n.y), .string (qs q.n.z)] 108 ∧ Blk W (w6.heap.size) #[.string (qs ((p.c * q.n.y - p.n.y * q.c) / (p.n.x * q.n.y - p.n.y * q.n.x))), .string ⟨#[]⟩, .string ⟨#[48]⟩] 108) ⟨HX10.out, HB0_10.out, HB1_10.out, HB2_10.out, HB3_10.out, HB6_10.out, HB7_10.out, HB8_10.out, HB9_10.out⟩ ?_
  rintro w11 ⟨e11, bB0_11, bB1_11, bB2_11, bB3_11, bB6_11, bB7_11, bB8_11, bB9_11⟩
  have HX11 := Lib.hid e11; have HB0_11 := Lib.hid bB0_11; have HB1_11 := Lib.hid bB1_11; have HB2_11 := Lib.hid bB2_11; have HB3_11 := Lib.hid bB3_11; have HB6_11 := Lib.hid bB6_11; have HB7_11 := Lib.hid bB7_11; have HB8_11 := Lib.hid bB8_11; have HB9_11 := Lib.hid bB9_11
  clear e11 bB0_11 bB1_11 bB2_11 bB3_11 bB6_11 bB7_11 bB8_11 bB9_11
  have hS11 : w11.cell? ⟨i7, 0, none⟩ = some (.string (qs p.n.x)) ∧ w11.cell? ⟨w.heap.size, 3, none⟩ = some (.string (qs p.c)) ∧ w11.cell? ⟨i8, 0, none⟩ = some (.string (qs q.n.x)) ∧ w11.cell? ⟨w.heap.size + 1, 3, none⟩ = some (.string (qs q.c)) ∧ w11.cell? ⟨w4.heap.size, 2, none⟩ = some (.string (qs (p.n.x * q.n.y - p.n.y * q.n.x))) := ⟨HB7_11.out.cell 0 rfl, HB0_11.out.cell 3 rfl, HB8_11.out.cell 0 rfl, HB1_11.out.cell 3 rfl, HB6_11.out.cell 2 rfl⟩
  have HS11 := Lib.hid hS11; clear hS11
  go_region_held3 (fun w' => w'.cell? ⟨i7, 0, none⟩ = some (.string (qs p.n.x)) ∧ w'.cell? ⟨w.heap.size, 3, none⟩ = some (.string (qs p.c)) ∧ w'.cell? ⟨i8, 0, none⟩ = some (.string (qs q.n.x)) ∧ w'.cell? ⟨w.heap.size + 1, 3, none⟩ = some (.string (qs q.c)) ∧ w'.cell? ⟨w4.heap.size, 2, none⟩ = some (.string (qs (p.n.x * q.n.y - p.n.y * q.n.x))))
    (((try simp only [cell_set_ne (show i7 ≠ w6.heap.size from by have := HB7_6.out.lt; first | omega | (simp only []; omega) | (simp; omega)), cell_set_ne (show w.heap.size ≠ w6.heap.size from by have := HB0_6.out.lt; first | omega | (simp only []; omega) | (simp; omega)), cell_set_ne (show i8 ≠ w6.heap.size from by have := HB8_6.out.lt; first | omega | (simp only []; omega) | (simp; omega)), cell_set_ne (show w.heap.size + 1 ≠ w6.heap.size from by have := HB1_6.out.lt; first | omega | (simp only []; omega) | (simp; omega)), cell_set_ne (show w4.heap.size ≠ w6.heap.size from by have := HB6_6.out.lt; first | omega | (simp only []; omega) | (simp; omega))]); exact keepsH5 (by repeat (first | assumption | exact Ext.refl _ | apply Ext.drew | apply Ext.alloc | (refine Ext.setCell ?_ (by first | omega | (simp only []; omega) | (simp; omega)) _) | (refine Ext.trans ?_ (by assumption)))) HS11.out)) ((first
      | (go_at_call 85; ((with_reducible refine (vminor_c p.n.x p.c q.n.x q.c _ (HG.out.ext (HX11.out.trans (by repeat (first | assumption | exact Ext.refl _ | apply Ext.drew | apply Ext.alloc | (refine Ext.setCell ?_ (by first | omega | (simp only []; omega) | (simp; omega)) _) | (refine Ext.trans ?_ (by assumption)))))) HP.out.x HPC.out HQ.out.x HQC.out (by omega) (by omega) (by omega) (by omega)).mono ?_); rintro e w12 ⟨rfl, e12⟩))
      | (go_at_call 84; ((with_reducible refine (rdiv_c (p.n.x * q.c - p.c * q.n.x) (p.n.x * q.n.y - p.n.y * q.n.x) _ (HG.out.ext (HX11.out.trans (by repeat (first | assumption | exact Ext.refl _ | apply Ext.drew | apply Ext.alloc | (refine Ext.setCell ?_ (by first | omega | (simp only []; omega) | (simp; omega)) _) | (refine Ext.trans ?_ (by assumption)))))) ((HP.out.x.mul HQC.out).sub (HPC.out.mul HQ.out.x)) ((HP.out.x.mul HQ.out.y).sub (HP.out.y.mul HQ.out.x)) (by omega) (by omega) (by omega) H2.out).mono ?_); rintro e w13 ⟨rfl, e13⟩; have RB9 := Blk.ext HB9_11.out (w' := w13) (by repeat (first | assumption | exact Ext.refl _ | apply Ext.drew | (refine Ext.trans ?_ (by assumption)))); have cB9_1 := RB9.cell 1 rfl; have fB9_1 := RB9.free 1; have HRB9 := Lib.hid RB9; clear RB9))))
  refine wp_name (fun W => Ext w W ∧ Blk W (w.heap.size + 1 + 1) #[.string ⟨#[]⟩, .string ⟨#[]⟩, .string ⟨#[]⟩] 30 ∧ Blk W (w.heap.size + 1 + 1 + 1) #[.string ⟨#[]⟩, .string ⟨#[]⟩, .string ⟨#[]⟩] 30 ∧ Blk W (w4.heap.size) #[.string (qs (p.n.y * q.n.z - p.n.z * q.n.y)), .string (qs (p.n.z * q.n.x - p.n.x * q.n.z)), .string (qs (p.n.x * q.n.y - p.n.y * q.n.x))] 108 ∧ Blk W (w6.heap.size) #[.string (qs ((p.c * q.n.y - p.n.y * q.c) / (p.n.x * q.n.y - p.n.y * q.n.x))), .string (qs ((p.n.x * q.c - p.c * q.n.x) / (p.n.x * q.n.y - p.n.y * q.n.x))), .string ⟨#[48]⟩] 108) ⟨((HX11.out.trans (((Ext.refl _).drew.trans e12).trans e13)).setCell (by have := HGEB9.out; first | omega | (simp only []; omega) | (simp; omega)) _), ((Blk.ext HB2_11.out (((Ext.refl _).drew.trans e12).trans e13)).other (a := ⟨w6.heap.size, 1, none⟩) _ (by have := HB2_6.out.lt; first | omega | (simp only []; omega) | (simp; omega))), ((Blk.ext HB3_11.out (((Ext.refl _).drew.trans e12).trans e13)).other (a := ⟨w6.heap.size, 1, none⟩) _ (by have := HB3_6.out.lt; first | omega | (simp only []; omega) | (simp; omega))), ((Blk.ext HB6_11.out (((Ext.refl _).drew.trans e12).trans e13)).other (a := ⟨w6.heap.size, 1, none⟩) _ (by have := HB6_6.out.lt; first | omega | (simp only []; omega) | (simp; omega))), ((Blk.ext HB9_11.out (((Ext.refl _).drew.trans e12).trans e13)).set 1 (.string (qs ((p.n.x * q.c - p.c * q.n.x) / (p.n.x * q.n.y - p.n.y * q.n.x)))))⟩ ?_
  clear cB9_1 fB9_1
  rintro w14 ⟨e14, bB2_14, bB3_14, bB6_14, bB9_14⟩
  have HX14 := Lib.hid e14; have HB2_14 := Lib.hid bB2_14; have HB3_14 := Lib.hid bB3_14; have HB6_14 := Lib.hid bB6_14; have HB9_14 := Lib.hid bB9_14
  clear e14 bB2_14 bB3_14 bB6_14 bB9_14
  have c9_0 := HB9_14.out.cell 0 rfl
  have c9_1 := HB9_14.out.cell 1 rfl
  have c9_2 := HB9_14.out.cell 2 rfl
  go_wp2_with fail
  refine (res_2 ((p.c * q.n.y - p.n.y * q.c) / (p.n.x * q.n.y - p.n.y * q.n.x)) ((p.n.x * q.c - p.c * q.n.x) / (p.n.x * q.n.y - p.n.y * q.n.x)) _ HRI.out HRK.out).mono ?_; rintro e w15 ⟨rfl, e15⟩
  have HX15 : Hid (Ext w w15) := Lib.hid (HX14.out.trans e15)
  have HB2_15 := Lib.hid (Blk.ext HB2_14.out e15)
  have HB3_15 := Lib.hid (Blk.ext HB3_14.out e15)
  have HB6_15 := Lib.hid (Blk.ext HB6_14.out e15)
  clear e15 c9_0 c9_1 c9_2
  have c2_0 := HB2_15.out.cell 0 rfl
  have f2_0 := HB2_15.out.free 0
  have c2_1 := HB2_15.out.cell 1 rfl
  have f2_1 := HB2_15.out.free 1
  have c2_2 := HB2_15.out.cell 2 rfl
  have f2_2 := HB2_15.out.free 2
  go_upto_region 23 with fail
  refine wp_name (fun W => Ext w W ∧ Blk W (w.heap.size + 1 + 1) #[.string (qs ((p.c * q.n.y - p.n.y * q.c) / (p.n.x * q.n.y - p.n.y * q.n.x))), .string (qs ((p.n.x * q.c - p.c * q.n.x) / (p.n.x * q.n.y - p.n.y * q.n.x))), .string ⟨#[48]⟩] 30 ∧ Blk W (w.heap.size + 1 + 1 + 1) #[.string ⟨#[]⟩, .string ⟨#[]⟩, .string ⟨#[]⟩] 30 ∧ Blk W (w4.heap.size) #[.string (qs (p.n.y * q.n.z - p.n.z * q.n.y)), .string (qs (p.n.z * q.n.x - p.n.x * q.n.z)), .string (qs (p.n.x * q.n.y - p.n.y * q.n.x))] 108) ⟨(((HX15.out.setCell (by have := HGEB2.out; first | omega | (simp only []; omega) | (simp; omega)) _).setCell (by have := HGEB2.out; first | omega | (simp only []; omega) | (simp; omega)) _).setCell (by have := HGEB2.out; first | omega | (simp only []; omega) | (simp; omega)) _), (((HB2_15.out.set 0 (.string (qs ((p.c * q.n.y - p.n.y * q.c) / (p.n.x * q.n.y - p.n.y * q.n.x))))).set 1 (.string (qs ((p.n.x * q.c - p.c * q.n.x) / (p.n.x * q.n.y - p.n.y * q.n.x))))).set 2 (.string ⟨#[48]⟩)), (((HB3_15.out.other (a := ⟨w.heap.size + 1 + 1, 0, none⟩) _ (by first | omega | (simp only []; omega) | (simp; omega))).other (a := ⟨w.heap.size + 1 + 1, 1, none⟩) _ (by first | omega | (simp only []; omega) | (simp; omega))).other (a := ⟨w.heap.size + 1 + 1, 2, none⟩) _ (by first | omega | (simp only []; omega) | (simp; omega))), (((HB6_15.out.other (a := ⟨w.heap.size + 1 + 1, 0, none⟩) _ (by have := HB2_4.out.lt; first | omega | (simp only []; omega) | (simp; omega))).other (a := ⟨w.heap.size + 1 + 1, 1, none⟩) _ (by have := HB2_4.out.lt; first | omega | (simp only []; omega) | (simp; omega))).other (a := ⟨w.heap.size + 1 + 1, 2, none⟩) _ (by have := HB2_4.out.lt; first | omega | (simp only []; omega) | (simp; omega)))⟩ ?_
  rintro w16 ⟨e16, bB2_16, bB3_16, bB6_16⟩
  have HX16 := Lib.hid e16; have HB2_16 := Lib.hid bB2_16; have HB3_16 := Lib.hid bB3_16; have HB6_16 := Lib.hid bB6_16
  clear e16 bB2_16 bB3_16 bB6_16 c2_0 f2_0 c2_1 f2_1 c2_2 f2_2
  have c6_0 := HB6_16.out.cell 0 rfl
  have c6_1 := HB6_16.out.cell 1 rfl
  have c6_2 := HB6_16.out.cell 2 rfl
  go_wp2_with fail
  refine (result_3 (p.n.y * q.n.z - p.n.z * q.n.y) (p.n.z * q.n.x - p.n.x * q.n.z) (p.n.x * q.n.y - p.n.y * q.n.x) _ HR.out.x HR.out.y HR.out.z).mono ?_; rintro e w17 ⟨rfl, e17⟩
  have HX17 : Hid (Ext w w17) := Lib.hid (HX16.out.trans e17)
  have HB2_17 : Hid (Blk w17 (w.heap.size + 1 + 1) #[.string (qs ((p.c * q.n.y - p.n.y * q.c) / (p.n.x * q.n.y - p.n.y * q.n.x))), .string (qs ((p.n.x * q.c - p.c * q.n.x) / (p.n.x * q.n.y - p.n.y * q.n.x))), .string ⟨#[48]⟩] 30) := Lib.hid (Blk.ext HB2_16.out e17)
  have HB3_17 := Lib.hid (Blk.ext HB3_16.out e17)
  clear e17 c6_0 c6_1 c6_2
  have c3_0 := HB3_17.out.cell 0 rfl
  have f3_0 := HB3_17.out.free 0
  have c3_1 := HB3_17.out.cell 1 rfl
  have f3_1 := HB3_17.out.free 1
  have c3_2 := HB3_17.out.cell 2 rfl
  have f3_2 := HB3_17.out.free 2
  go_wp2_with fail
  refine wp_name (fun W => Ext w W ∧ Blk W (w.heap.size + 1 + 1) #[.string (qs ((p.c * q.n.y - p.n.y * q.c) / (p.n.x * q.n.y - p.n.y * q.n.x))), .string (qs ((p.n.x * q.c - p.c * q.n.x) / (p.n.x * q.n.y - p.n.y * q.n.x))), .string ⟨#[48]⟩] 30 ∧ Blk W (w.heap.size + 1 + 1 + 1) #[.string (qs (p.n.y * q.n.z - p.n.z * q.n.y)), .string (qs (p.n.z * q.n.x - p.n.x * q.n.z)), .string (qs (p.n.x * q.n.y - p.n.y * q.n.x))] 30) ⟨(((HX17.out.setCell (by have := HGEB3.out; first | omega | (simp only []; omega) | (simp; omega)) _).setCell (by have := HGEB3.out; first | omega | (simp only []; omega) | (simp; omega)) _).setCell (by have := HGEB3.out; first | omega | (simp only []; omega) | (simp; omega)) _), (((HB2_17.out.other (a := ⟨w.heap.size + 1 + 1 + 1, 0, none⟩) _ (by first | omega | (simp only []; omega) | (simp; omega))).other (a := ⟨w.heap.size + 1 + 1 + 1, 1, none⟩) _ (by first | omega | (simp only []; omega) | (simp; omega))).other (a := ⟨w.heap.size + 1 + 1 + 1, 2, none⟩) _ (by first | omega | (simp only []; omega) | (simp; omega))), (((HB3_17.out.set 0 (.string (qs (p.n.y * q.n.z - p.n.z * q.n.y)))).set 1 (.string (qs (p.n.z * q.n.x - p.n.x * q.n.z)))).set 2 (.string (qs (p.n.x * q.n.y - p.n.y * q.n.x))))⟩ ?_
  rintro w18 ⟨e18, bB2_18, bB3_18⟩
  have HX18 := Lib.hid e18; have HB2_18 := Lib.hid bB2_18; have HB3_18 := Lib.hid bB3_18
  clear e18 bB2_18 bB3_18 c3_0 f3_0 c3_1 f3_1 c3_2 f3_2
  have cB2_0 := HB2_18.out.cell 0 rfl; have fB2_0 := HB2_18.out.free 0
  have cB2_1 := HB2_18.out.cell 1 rfl; have fB2_1 := HB2_18.out.free 1
  have cB2_2 := HB2_18.out.cell 2 rfl; have fB2_2 := HB2_18.out.free 2
  have cB3_0 := HB3_18.out.cell 0 rfl; have fB3_0 := HB3_18.out.free 0
  have cB3_1 := HB3_18.out.cell 1 rfl; have fB3_1 := HB3_18.out.free 1
  have cB3_2 := HB3_18.out.cell 2 rfl; have fB3_2 := HB3_18.out.free 2
  have nb : w.heap.size + 1 + 1 ≠ w.heap.size + 1 + 1 + 1 := by first | omega | (simp only []; omega) | (simp; omega)
  go_region
  go_wp2_with fail
  refine wp_name (fun W => Ext w W ∧ Blk W (w.heap.size + 1 + 1) #[.string (qs ((p.c * q.n.y - p.n.y * q.c) / (p.n.x * q.n.y - p.n.y * q.n.x))), .string (qs ((p.n.x * q.c - p.c * q.n.x) / (p.n.x * q.n.y - p.n.y * q.n.x))), .string ⟨#[48]⟩] 30 ∧ Blk W (w.heap.size + 1 + 1 + 1) #[.string (qs (p.n.y * q.n.z - p.n.z * q.n.y)), .string (qs (p.n.z * q.n.x - p.n.x * q.n.z)), .string (qs (p.n.x * q.n.y - p.n.y * q.n.x))] 30) ⟨(((((((HX18.out.setCell (by have := HGEB2.out; first | omega | (simp only []; omega) | (simp; omega)) _).setCell (by have := HGEB2.out; first | omega | (simp only []; omega) | (simp; omega)) _).setCell (by have := HGEB2.out; first | omega | (simp only []; omega) | (simp; omega)) _).setCell (by have := HGEB3.out; first | omega | (simp only []; omega) | (simp; omega)) _).setCell (by have := HGEB3.out; first | omega | (simp only []; omega) | (simp; omega)) _).setCell (by have := HGEB3.out; first | omega | (simp only []; omega) | (simp; omega)) _).drew), (((((((HB2_18.out.set 0 (.string (qs ((p.c * q.n.y - p.n.y * q.c) / (p.n.x * q.n.y - p.n.y * q.n.x))))).set 1 (.string (qs ((p.n.x * q.c - p.c * q.n.x) / (p.n.x * q.n.y - p.n.y * q.n.x))))).set 2 (.string ⟨#[48]⟩)).other (a := ⟨w.heap.size + 1 + 1 + 1, 0, none⟩) _ (by first | omega | (simp only []; omega) | (simp; omega))).other (a := ⟨w.heap.size + 1 + 1 + 1, 1, none⟩) _ (by first | omega | (simp only []; omega) | (simp; omega))).other (a := ⟨w.heap.size + 1 + 1 + 1, 2, none⟩) _ (by first | omega | (simp only []; omega) | (simp; omega))).drew), (((((((HB3_18.out.other (a := ⟨w.heap.size + 1 + 1, 0, none⟩) _ (by first | omega | (simp only []; omega) | (simp; omega))).other (a := ⟨w.heap.size + 1 + 1, 1, none⟩) _ (by first | omega | (simp only []; omega) | (simp; omega))).other (a := ⟨w.heap.size + 1 + 1, 2, none⟩) _ (by first | omega | (simp only []; omega) | (simp; omega))).set 0 (.string (qs (p.n.y * q.n.z - p.n.z * q.n.y)))).set 1 (.string (qs (p.n.z * q.n.x - p.n.x * q.n.z)))).set 2 (.string (qs (p.n.x * q.n.y - p.n.y * q.n.x)))).drew)⟩ ?_
  rintro w19 ⟨e19, bB2_19, bB3_19⟩
  have HX19 := Lib.hid e19; have HB2_19 := Lib.hid bB2_19; have HB3_19 := Lib.hid bB3_19
  clear e19 bB2_19 bB3_19 cB2_0 fB2_0 cB2_1 fB2_1 cB2_2 fB2_2 cB3_0 fB3_0 cB3_1 fB3_1 cB3_2 fB3_2 nb
  have gB2_0 := HB2_19.out.cell 0 rfl
  have gB2_1 := HB2_19.out.cell 1 rfl
  have gB2_2 := HB2_19.out.cell 2 rfl
  have gB3_0 := HB3_19.out.cell 0 rfl
  have gB3_1 := HB3_19.out.cell 1 rfl
  have gB3_2 := HB3_19.out.cell 2 rfl
  refine bodyPost_ret (v := .tuple #[.agg #[.string (qs ((p.c * q.n.y - p.n.y * q.c) / (p.n.x * q.n.y - p.n.y * q.n.x))), .string (qs ((p.n.x * q.c - p.c * q.n.x) / (p.n.x * q.n.y - p.n.y * q.n.x))), .string ⟨#[48]⟩], .agg #[.string (qs (p.n.y * q.n.z - p.n.z * q.n.y)), .string (qs (p.n.z * q.n.x - p.n.x * q.n.z)), .string (qs (p.n.x * q.n.y - p.n.y * q.n.x))], .int .i64 0]) (by simp [results, Tryz.results25, go_sem, gB2_0, gB2_1, gB2_2, gB3_0, gB3_1, gB3_2]) rfl ⟨rfl, HX19.out⟩
end Go.Proofs.YtglppcmegocphaaGreatDoor

namespace Go.Proofs.YtglppcmegocphaaGreatDoor
open Go Go.RowKit
set_option maxRecDepth 100000
theorem kof_1_0_0 (w : World) (g : Gd w) : Calls Tryz.prog 66 #[(.int .i64 1), (.int .i64 0), (.int .i64 0)] w (Ret w (.agg #[.string ⟨#[49]⟩, .string ⟨#[48]⟩, .string ⟨#[48]⟩])) := by
  have h := sof_c 1 0 0 w g (by decide) (by decide) (by decide)
  exact Eq.mp (by kernel_rfl) h

theorem kof_0_1_0 (w : World) (g : Gd w) : Calls Tryz.prog 66 #[(.int .i64 0), (.int .i64 1), (.int .i64 0)] w (Ret w (.agg #[.string ⟨#[48]⟩, .string ⟨#[49]⟩, .string ⟨#[48]⟩])) := by
  have h := sof_c 0 1 0 w g (by decide) (by decide) (by decide)
  exact Eq.mp (by kernel_rfl) h

theorem kof_0_0_1 (w : World) (g : Gd w) : Calls Tryz.prog 66 #[(.int .i64 0), (.int .i64 0), (.int .i64 1)] w (Ret w (.agg #[.string ⟨#[48]⟩, .string ⟨#[48]⟩, .string ⟨#[49]⟩])) := by
  have h := sof_c 0 0 1 w g (by decide) (by decide) (by decide)
  exact Eq.mp (by kernel_rfl) h

theorem kof_1_0_1 (w : World) (g : Gd w) : Calls Tryz.prog 66 #[(.int .i64 1), (.int .i64 0), (.int .i64 1)] w (Ret w (.agg #[.string ⟨#[49]⟩, .string ⟨#[48]⟩, .string ⟨#[49]⟩])) := by
  have h := sof_c 1 0 1 w g (by decide) (by decide) (by decide)
  exact Eq.mp (by kernel_rfl) h

theorem kof_3_m2_0 (w : World) (g : Gd w) : Calls Tryz.prog 66 #[(.int .i64 3), (.int .i64 (-2)), (.int .i64 0)] w (Ret w (.agg #[.string ⟨#[51]⟩, .string ⟨#[45, 50]⟩, .string ⟨#[48]⟩])) := by
  have h := sof_c 3 (-2) 0 w g (by decide) (by decide) (by decide)
  exact Eq.mp (by kernel_rfl) h

theorem kat_0_0 (w : World) (g : Gd w) : Calls Tryz.prog 49 #[.int .i64 0, .int .i64 0] w (Ret w (.agg #[.string ⟨#[48]⟩, .string ⟨#[48]⟩])) := by
  have h := sat_c 0 0 w g (by decide) (by decide)
  exact Eq.mp (by kernel_rfl) h

theorem kat_4_0 (w : World) (g : Gd w) : Calls Tryz.prog 49 #[.int .i64 4, .int .i64 0] w (Ret w (.agg #[.string ⟨#[52]⟩, .string ⟨#[48]⟩])) := by
  have h := sat_c 4 0 w g (by decide) (by decide)
  exact Eq.mp (by kernel_rfl) h

theorem kat_0_2 (w : World) (g : Gd w) : Calls Tryz.prog 49 #[.int .i64 0, .int .i64 2] w (Ret w (.agg #[.string ⟨#[48]⟩, .string ⟨#[50]⟩])) := by
  have h := sat_c 0 2 w g (by decide) (by decide)
  exact Eq.mp (by kernel_rfl) h

theorem kat_2_1 (w : World) (g : Gd w) : Calls Tryz.prog 49 #[.int .i64 2, .int .i64 1] w (Ret w (.agg #[.string ⟨#[50]⟩, .string ⟨#[49]⟩])) := by
  have h := sat_c 2 1 w g (by decide) (by decide)
  exact Eq.mp (by kernel_rfl) h

theorem kcross (w : World) (g : Gd w) : Calls Tryz.prog 29 #[.agg #[.string ⟨#[49]⟩, .string ⟨#[48]⟩, .string ⟨#[48]⟩], .agg #[.string ⟨#[48]⟩, .string ⟨#[49]⟩, .string ⟨#[48]⟩]] w (Ret w (.tuple #[.agg #[.string ⟨#[48]⟩, .string ⟨#[48]⟩, .string ⟨#[49]⟩], .int .i64 0])) := by
  have h := vCross_ok ⟨1, 0, 0⟩ ⟨0, 1, 0⟩ w g ⟨⟨by decide +kernel, by decide +kernel⟩, ⟨by decide +kernel, by decide +kernel⟩, ⟨by decide +kernel, by decide +kernel⟩⟩ ⟨⟨by decide +kernel, by decide +kernel⟩, ⟨by decide +kernel, by decide +kernel⟩, ⟨by decide +kernel, by decide +kernel⟩⟩ ⟨⟨by decide +kernel, by decide +kernel⟩, ⟨by decide +kernel, by decide +kernel⟩, ⟨by decide +kernel, by decide +kernel⟩⟩
  exact Eq.mp (by kernel_rfl) h

theorem kprim (w : World) (g : Gd w) : Calls Tryz.prog 15 #[.agg #[.string ⟨#[49, 47, 50]⟩, .string ⟨#[45, 49, 47, 51]⟩, .string ⟨#[48]⟩]] w (Ret w (.tuple #[.agg #[.string ⟨#[51]⟩, .string ⟨#[45, 50]⟩, .string ⟨#[48]⟩], .int .i64 0])) := by
  have h := vPrim_ok ⟨(1 / 2), ((-1) / 3), 0⟩ w g ⟨⟨by decide +kernel, by decide +kernel⟩, ⟨by decide +kernel, by decide +kernel⟩, ⟨by decide +kernel, by decide +kernel⟩⟩ (by decide +kernel) ⟨⟨by decide +kernel, by decide +kernel⟩, ⟨by decide +kernel, by decide +kernel⟩, ⟨by decide +kernel, by decide +kernel⟩⟩ (by decide +kernel) ⟨⟨by decide +kernel, by decide +kernel⟩, ⟨by decide +kernel, by decide +kernel⟩, ⟨by decide +kernel, by decide +kernel⟩⟩
  exact Eq.mp (by kernel_rfl) h

theorem karea (w : World) (g : Gd w) : Calls Tryz.prog 60 #[.agg #[.string ⟨#[48]⟩, .string ⟨#[48]⟩], .agg #[.string ⟨#[52]⟩, .string ⟨#[48]⟩], .agg #[.string ⟨#[48]⟩, .string ⟨#[50]⟩]] w (Ret w (.tuple #[.string ⟨#[56]⟩, .int .i64 0])) := by
  have h := vArea_ok ⟨0, 0⟩ ⟨4, 0⟩ ⟨0, 2⟩ w g ⟨⟨by decide +kernel, by decide +kernel⟩, ⟨by decide +kernel, by decide +kernel⟩⟩ ⟨⟨by decide +kernel, by decide +kernel⟩, ⟨by decide +kernel, by decide +kernel⟩⟩ ⟨⟨by decide +kernel, by decide +kernel⟩, ⟨by decide +kernel, by decide +kernel⟩⟩ ⟨by decide +kernel, by decide +kernel⟩
  exact Eq.mp (by kernel_rfl) h

theorem kthrough (w : World) (g : Gd w) : Calls Tryz.prog 40 #[.agg #[.string ⟨#[48]⟩, .string ⟨#[48]⟩], .agg #[.string ⟨#[50]⟩, .string ⟨#[49]⟩]] w (Ret w (.tuple #[.agg #[.string ⟨#[45, 49]⟩, .string ⟨#[50]⟩, .string ⟨#[48]⟩], .int .i64 0])) := by
  have h := vThrough_ok ⟨0, 0⟩ ⟨2, 1⟩ w g ⟨⟨by decide +kernel, by decide +kernel⟩, ⟨by decide +kernel, by decide +kernel⟩⟩ ⟨⟨by decide +kernel, by decide +kernel⟩, ⟨by decide +kernel, by decide +kernel⟩⟩ ⟨⟨by decide +kernel, by decide +kernel⟩, ⟨by decide +kernel, by decide +kernel⟩, ⟨by decide +kernel, by decide +kernel⟩⟩ (by intro h; have := congrArg P2.x h; revert this; decide +kernel)
  exact Eq.mp (by kernel_rfl) h

theorem kcommon (w : World) (g : Gd w) : Calls Tryz.prog 25 #[.agg #[.string ⟨#[48]⟩, .string ⟨#[48]⟩, .string ⟨#[49]⟩, .string ⟨#[48]⟩], .agg #[.string ⟨#[49]⟩, .string ⟨#[48]⟩, .string ⟨#[49]⟩, .string ⟨#[49]⟩]] w (Ret w (.tuple #[.agg #[.string ⟨#[49]⟩, .string ⟨#[48]⟩, .string ⟨#[48]⟩], .agg #[.string ⟨#[48]⟩, .string ⟨#[49]⟩, .string ⟨#[48]⟩], .int .i64 0])) := by
  have h := vCommon_1 ⟨⟨0, 0, 1⟩, 0⟩ ⟨⟨1, 0, 1⟩, 1⟩ w g ⟨⟨by decide +kernel, by decide +kernel⟩, ⟨by decide +kernel, by decide +kernel⟩, ⟨by decide +kernel, by decide +kernel⟩⟩ ⟨by decide +kernel, by decide +kernel⟩ ⟨⟨by decide +kernel, by decide +kernel⟩, ⟨by decide +kernel, by decide +kernel⟩, ⟨by decide +kernel, by decide +kernel⟩⟩ ⟨by decide +kernel, by decide +kernel⟩ (by decide +kernel) (by decide +kernel) ⟨⟨by decide +kernel, by decide +kernel⟩, ⟨by decide +kernel, by decide +kernel⟩, ⟨by decide +kernel, by decide +kernel⟩⟩ ⟨by decide +kernel, by decide +kernel⟩ ⟨by decide +kernel, by decide +kernel⟩ (by decide +kernel) (by decide +kernel)
  exact Eq.mp (by kernel_rfl) h
end Go.Proofs.YtglppcmegocphaaGreatDoor

namespace Go.Proofs.YtglppcmegocphaaGreatDoor
open Go Go.RowKit
set_option maxRecDepth 100000 in
set_option maxHeartbeats 8000000 in
theorem known_c (w : World) (g : Gd w) : Calls Tryz.prog 13 #[] w (Ret w (.bool true)) := by
  have HG := Lib.hid g
  clear g
  go_enter Tryz.func13, Tryz.ntmps13
  go_wp2_with fail
  refine (kof_1_0_0 _ (HG.out.ext (Ext.refl w))).mono ?_; rintro e w1 ⟨rfl, e1⟩
  have HX1 : Hid (Ext w w1) := Lib.hid ((Ext.refl w).trans e1)
  clear e1
  go_wp2_with fail
  refine (kof_0_1_0 _ (HG.out.ext HX1.out)).mono ?_; rintro e w2 ⟨rfl, e2⟩
  have HX2 : Hid (Ext w w2) := Lib.hid (HX1.out.trans e2)
  clear e2
  go_wp2_with fail
  refine (kcross _ (HG.out.ext HX2.out)).mono ?_; rintro e w3 ⟨rfl, e3⟩
  have HX3 : Hid (Ext w w3) := Lib.hid (HX2.out.trans e3)
  clear e3
  go_wp2_with fail
  refine (kprim _ (HG.out.ext (HX3.out.alloc _))).mono ?_; rintro e w4 ⟨rfl, e4⟩
  have HX4 : Hid (Ext w w4) := Lib.hid ((HX3.out.alloc _).trans e4)
  have HB0_4 : Hid (Blk w4 (w3.heap.size) #[.string ⟨#[48]⟩, .string ⟨#[48]⟩, .string ⟨#[49]⟩] 30) := Lib.hid (Blk.ext (Blk.new' (w := _) (cs := #[.string ⟨#[48]⟩, .string ⟨#[48]⟩, .string ⟨#[49]⟩]) (t := 30) (by first | rfl | (simp only [World.size_alloc]; done) | (simp only [World.size_alloc]; omega) | simp)) e4)
  have HGEB0 : Hid (w.heap.size ≤ w3.heap.size) := Lib.hid (by have := HX3.out.size; first | omega | (simp only []; omega) | (simp; omega))
  clear e4
  go_wp2_with fail
  refine (kat_0_0 _ (HG.out.ext (HX4.out.alloc _))).mono ?_; rintro e w5 ⟨rfl, e5⟩
  have HX5 : Hid (Ext w w5) := Lib.hid ((HX4.out.alloc _).trans e5)
  have HB0_5 : Hid (Blk w5 (w3.heap.size) #[.string ⟨#[48]⟩, .string ⟨#[48]⟩, .string ⟨#[49]⟩] 30) := Lib.hid (Blk.ext (HB0_4.out.alloc _) e5)
  have HB1_5 : Hid (Blk w5 (w4.heap.size) #[.string ⟨#[51]⟩, .string ⟨#[45, 50]⟩, .string ⟨#[48]⟩] 30) := Lib.hid (Blk.ext (Blk.new' (w := _) (cs := #[.string ⟨#[51]⟩, .string ⟨#[45, 50]⟩, .string ⟨#[48]⟩]) (t := 30) (by first | rfl | (simp only [World.size_alloc]; done) | (simp only [World.size_alloc]; omega) | simp)) e5)
  have HGEB1 : Hid (w.heap.size ≤ w4.heap.size) := Lib.hid (by have := HX4.out.size; first | omega | (simp only []; omega) | (simp; omega))
  clear e5
  go_wp2_with fail
  refine (kat_4_0 _ (HG.out.ext HX5.out)).mono ?_; rintro e w6 ⟨rfl, e6⟩
  have HX6 : Hid (Ext w w6) := Lib.hid (HX5.out.trans e6)
  have HB0_6 := Lib.hid (Blk.ext HB0_5.out e6)
  have HB1_6 := Lib.hid (Blk.ext HB1_5.out e6)
  clear e6
  go_wp2_with fail
  refine (kat_0_2 _ (HG.out.ext HX6.out)).mono ?_; rintro e w7 ⟨rfl, e7⟩
  have HX7 : Hid (Ext w w7) := Lib.hid (HX6.out.trans e7)
  have HB0_7 := Lib.hid (Blk.ext HB0_6.out e7)
  have HB1_7 := Lib.hid (Blk.ext HB1_6.out e7)
  clear e7
  go_wp2_with fail
  refine (karea _ (HG.out.ext HX7.out)).mono ?_; rintro e w8 ⟨rfl, e8⟩
  have HX8 : Hid (Ext w w8) := Lib.hid (HX7.out.trans e8)
  have HB0_8 := Lib.hid (Blk.ext HB0_7.out e8)
  have HB1_8 := Lib.hid (Blk.ext HB1_7.out e8)
  clear e8
  go_wp2_with fail
  refine (kat_0_0 _ (HG.out.ext HX8.out)).mono ?_; rintro e w9 ⟨rfl, e9⟩
  have HX9 : Hid (Ext w w9) := Lib.hid (HX8.out.trans e9)
  have HB0_9 := Lib.hid (Blk.ext HB0_8.out e9)
  have HB1_9 := Lib.hid (Blk.ext HB1_8.out e9)
  clear e9
  go_wp2_with fail
  refine (kat_2_1 _ (HG.out.ext HX9.out)).mono ?_; rintro e w10 ⟨rfl, e10⟩
  have HX10 : Hid (Ext w w10) := Lib.hid (HX9.out.trans e10)
  have HB0_10 := Lib.hid (Blk.ext HB0_9.out e10)
  have HB1_10 := Lib.hid (Blk.ext HB1_9.out e10)
  clear e10
  go_wp2_with fail
  refine (kthrough _ (HG.out.ext HX10.out)).mono ?_; rintro e w11 ⟨rfl, e11⟩
  have HX11 : Hid (Ext w w11) := Lib.hid (HX10.out.trans e11)
  have HB0_11 := Lib.hid (Blk.ext HB0_10.out e11)
  have HB1_11 := Lib.hid (Blk.ext HB1_10.out e11)
  clear e11
  go_wp2_with fail
  refine (kof_0_0_1 _ (HG.out.ext (HX11.out.alloc _))).mono ?_; rintro e w12 ⟨rfl, e12⟩
  have HX12 : Hid (Ext w w12) := Lib.hid ((HX11.out.alloc _).trans e12)
  have HB0_12 : Hid (Blk w12 (w3.heap.size) #[.string ⟨#[48]⟩, .string ⟨#[48]⟩, .string ⟨#[49]⟩] 30) := Lib.hid (Blk.ext (HB0_11.out.alloc _) e12)
  have HB1_12 : Hid (Blk w12 (w4.heap.size) #[.string ⟨#[51]⟩, .string ⟨#[45, 50]⟩, .string ⟨#[48]⟩] 30) := Lib.hid (Blk.ext (HB1_11.out.alloc _) e12)
  have HB2_12 : Hid (Blk w12 (w11.heap.size) #[.string ⟨#[45, 49]⟩, .string ⟨#[50]⟩, .string ⟨#[48]⟩] 73) := Lib.hid (Blk.ext (Blk.new' (w := _) (cs := #[.string ⟨#[45, 49]⟩, .string ⟨#[50]⟩, .string ⟨#[48]⟩]) (t := 73) (by first | rfl | (simp only [World.size_alloc]; done) | (simp only [World.size_alloc]; omega) | simp)) e12)
  have HGEB2 : Hid (w.heap.size ≤ w11.heap.size) := Lib.hid (by have := HX11.out.size; first | omega | (simp only []; omega) | (simp; omega))
  clear e12
  go_wp2_with fail
  refine (kof_1_0_1 _ (HG.out.ext HX12.out)).mono ?_; rintro e w13 ⟨rfl, e13⟩
  have HX13 : Hid (Ext w w13) := Lib.hid (HX12.out.trans e13)
  have HB0_13 := Lib.hid (Blk.ext HB0_12.out e13)
  have HB1_13 := Lib.hid (Blk.ext HB1_12.out e13)
  have HB2_13 := Lib.hid (Blk.ext HB2_12.out e13)
  clear e13
  go_wp2_with fail
  refine (kcommon _ (HG.out.ext HX13.out)).mono ?_; rintro e w14 ⟨rfl, e14⟩
  have HX14 : Hid (Ext w w14) := Lib.hid (HX13.out.trans e14)
  have HB0_14 := Lib.hid (Blk.ext HB0_13.out e14)
  have HB1_14 := Lib.hid (Blk.ext HB1_13.out e14)
  have HB2_14 := Lib.hid (Blk.ext HB2_13.out e14)
  clear e14
  go_wp2_with fail
  refine wp_name (fun W => Ext w W ∧ Blk W (w3.heap.size) #[.string ⟨#[48]⟩, .string ⟨#[48]⟩, .string ⟨#[49]⟩] 30 ∧ Blk W (w4.heap.size) #[.string ⟨#[51]⟩, .string ⟨#[45, 50]⟩, .string ⟨#[48]⟩] 30 ∧ Blk W (w11.heap.size) #[.string ⟨#[45, 49]⟩, .string ⟨#[50]⟩, .string ⟨#[48]⟩] 73 ∧ Blk W (w14.heap.size) #[.string ⟨#[49]⟩, .string ⟨#[48]⟩, .string ⟨#[48]⟩] 30 ∧ Blk W (w14.heap.size + 1) #[.string ⟨#[48]⟩, .string ⟨#[49]⟩, .string ⟨#[48]⟩] 30) ⟨((HX14.out.alloc _).alloc _), ((HB0_14.out.alloc _).alloc _), ((HB1_14.out.alloc _).alloc _), ((HB2_14.out.alloc _).alloc _), ((Blk.new' (w := _) (cs := #[.string ⟨#[49]⟩, .string ⟨#[48]⟩, .string ⟨#[48]⟩]) (t := 30) (by first | rfl | (simp only [World.size_alloc]; done) | (simp only [World.size_alloc]; omega) | simp)).alloc _), (Blk.new' (w := _) (cs := #[.string ⟨#[48]⟩, .string ⟨#[49]⟩, .string ⟨#[48]⟩]) (t := 30) (by first | rfl | (simp only [World.size_alloc]; done) | (simp only [World.size_alloc]; omega) | simp))⟩ ?_
  rintro w15 ⟨e15, bB0_15, bB1_15, bB2_15, bB3_15, bB4_15⟩
  have HX15 := Lib.hid e15; have HB0_15 := Lib.hid bB0_15; have HB1_15 := Lib.hid bB1_15; have HB2_15 := Lib.hid bB2_15; have HB3_15 := Lib.hid bB3_15; have HB4_15 := Lib.hid bB4_15
  have HGEB3 : Hid (w.heap.size ≤ w14.heap.size) := Lib.hid (by have := HX14.out.size; first | omega | (simp only []; omega) | (simp; omega))
  have HGEB4 : Hid (w.heap.size ≤ w14.heap.size + 1) := Lib.hid (by have := HX14.out.size; first | omega | (simp only []; omega) | (simp; omega))
  clear e15 bB0_15 bB1_15 bB2_15 bB3_15 bB4_15
  have hS15 : w15.cell? ⟨w3.heap.size, 0, none⟩ = some (.string ⟨#[48]⟩) ∧ w15.cell? ⟨w3.heap.size, 1, none⟩ = some (.string ⟨#[48]⟩) ∧ w15.cell? ⟨w3.heap.size, 2, none⟩ = some (.string ⟨#[49]⟩) ∧ w15.cell? ⟨w4.heap.size, 0, none⟩ = some (.string ⟨#[51]⟩) ∧ w15.cell? ⟨w4.heap.size, 1, none⟩ = some (.string ⟨#[45, 50]⟩) ∧ w15.cell? ⟨w4.heap.size, 2, none⟩ = some (.string ⟨#[48]⟩) ∧ w15.cell? ⟨w11.heap.size, 0, none⟩ = some (.string ⟨#[45, 49]⟩) ∧ w15.cell? ⟨w11.heap.size, 1, none⟩ = some (.string ⟨#[50]⟩) ∧ w15.cell? ⟨w11.heap.size, 2, none⟩ = some (.string ⟨#[48]⟩) ∧ w15.cell? ⟨w14.heap.size + 1, 0, none⟩ = some (.string ⟨#[48]⟩) ∧ w15.cell? ⟨w14.heap.size + 1, 1, none⟩ = some (.string ⟨#[49]⟩) ∧ w15.cell? ⟨w14.heap.size + 1, 2, none⟩ = some (.string ⟨#[48]⟩) ∧ w15.cell? ⟨w14.heap.size, 0, none⟩ = some (.string ⟨#[49]⟩) ∧ w15.cell? ⟨w14.heap.size, 1, none⟩ = some (.string ⟨#[48]⟩) ∧ w15.cell? ⟨w14.heap.size, 2, none⟩ = some (.string ⟨#[48]⟩) := ⟨HB0_15.out.cell 0 rfl, HB0_15.out.cell 1 rfl, HB0_15.out.cell 2 rfl, HB1_15.out.cell 0 rfl, HB1_15.out.cell 1 rfl, HB1_15.out.cell 2 rfl, HB2_15.out.cell 0 rfl, HB2_15.out.cell 1 rfl, HB2_15.out.cell 2 rfl, HB4_15.out.cell 0 rfl, HB4_15.out.cell 1 rfl, HB4_15.out.cell 2 rfl, HB3_15.out.cell 0 rfl, HB3_15.out.cell 1 rfl, HB3_15.out.cell 2 rfl⟩
  have HS15 := Lib.hid hS15; clear hS15
  go_region_held3 (fun w' => w'.cell? ⟨w3.heap.size, 0, none⟩ = some (.string ⟨#[48]⟩) ∧ w'.cell? ⟨w3.heap.size, 1, none⟩ = some (.string ⟨#[48]⟩) ∧ w'.cell? ⟨w3.heap.size, 2, none⟩ = some (.string ⟨#[49]⟩) ∧ w'.cell? ⟨w4.heap.size, 0, none⟩ = some (.string ⟨#[51]⟩) ∧ w'.cell? ⟨w4.heap.size, 1, none⟩ = some (.string ⟨#[45, 50]⟩) ∧ w'.cell? ⟨w4.heap.size, 2, none⟩ = some (.string ⟨#[48]⟩) ∧ w'.cell? ⟨w11.heap.size, 0, none⟩ = some (.string ⟨#[45, 49]⟩) ∧ w'.cell? ⟨w11.heap.size, 1, none⟩ = some (.string ⟨#[50]⟩) ∧ w'.cell? ⟨w11.heap.size, 2, none⟩ = some (.string ⟨#[48]⟩) ∧ w'.cell? ⟨w14.heap.size + 1, 0, none⟩ = some (.string ⟨#[48]⟩) ∧ w'.cell? ⟨w14.heap.size + 1, 1, none⟩ = some (.string ⟨#[49]⟩) ∧ w'.cell? ⟨w14.heap.size + 1, 2, none⟩ = some (.string ⟨#[48]⟩) ∧ w'.cell? ⟨w14.heap.size, 0, none⟩ = some (.string ⟨#[49]⟩) ∧ w'.cell? ⟨w14.heap.size, 1, none⟩ = some (.string ⟨#[48]⟩) ∧ w'.cell? ⟨w14.heap.size, 2, none⟩ = some (.string ⟨#[48]⟩))
    ((exact keepsH15 (by repeat (first | assumption | exact Ext.refl _ | apply Ext.drew | apply Ext.alloc | (refine Ext.setCell ?_ (by first | omega | (simp only []; omega) | (simp; omega)) _) | (refine Ext.trans ?_ (by assumption)))) HS15.out)) ((first
      | (go_at_call 66; ((with_reducible refine (kof_0_0_1 _ (HG.out.ext (HX15.out.trans (by repeat (first | assumption | exact Ext.refl _ | apply Ext.drew | apply Ext.alloc | (refine Ext.setCell ?_ (by first | omega | (simp only []; omega) | (simp; omega)) _) | (refine Ext.trans ?_ (by assumption))))))).mono ?_); rintro e w16 ⟨rfl, e16⟩))
      | (go_at_call 66; ((with_reducible refine (kof_3_m2_0 _ (HG.out.ext (HX15.out.trans (by repeat (first | assumption | exact Ext.refl _ | apply Ext.drew | apply Ext.alloc | (refine Ext.setCell ?_ (by first | omega | (simp only []; omega) | (simp; omega)) _) | (refine Ext.trans ?_ (by assumption))))))).mono ?_); rintro e w17 ⟨rfl, e17⟩))
      | (go_at_call 66; ((with_reducible refine (kof_0_1_0 _ (HG.out.ext (HX15.out.trans (by repeat (first | assumption | exact Ext.refl _ | apply Ext.drew | apply Ext.alloc | (refine Ext.setCell ?_ (by first | omega | (simp only []; omega) | (simp; omega)) _) | (refine Ext.trans ?_ (by assumption))))))).mono ?_); rintro e w18 ⟨rfl, e18⟩))
      | (go_at_call 66; ((with_reducible refine (kof_1_0_0 _ (HG.out.ext (HX15.out.trans (by repeat (first | assumption | exact Ext.refl _ | apply Ext.drew | apply Ext.alloc | (refine Ext.setCell ?_ (by first | omega | (simp only []; omega) | (simp; omega)) _) | (refine Ext.trans ?_ (by assumption))))))).mono ?_); rintro e w19 ⟨rfl, e19⟩))))
  refine wp_name (fun W => Ext w W) (HX15.out.trans (((((Ext.refl _).drew.trans e16).trans e17).trans e18).trans e19)) ?_
  rintro w20 e20
  have HX20 := Lib.hid e20
  clear e20
  go_wp2
  go_ret
  exact ⟨rfl, HX20.out⟩
end Go.Proofs.YtglppcmegocphaaGreatDoor

namespace Go.Proofs.YtglppcmegocphaaGreatDoor
open Go Go.RowKit
def sm (n : Int) (d : Nat) : Rat := mkRat n (1 + d)
theorem sm_qb {n : Int} {d : Nat} (h0 : -32768 ≤ n) (h1 : n ≤ 32767) (h2 : d ≤ 255) : QB 5 (sm n d) := QB.mk' (by omega) (by omega) (by omega)
theorem fqofD (n D : Int) (d : Nat) (w : World) (g : Gd w) (hD : D = (d : Int)) (hd : d ≠ 0) (h0 : -32768 ≤ n) (h1 : n ≤ 32767) (h2 : d ≤ 256) : Calls Tryz.prog 22 #[.int .i64 n, .int .i64 D] w (Ret w (.string (qs (mkRat n d)))) := by
  subst hD; exact fqof_c n d w g hd (by omega) (by omega) (by omega)
structure Pla where
  n0 : Int
  d0 : Nat
  n1 : Int
  d1 : Nat
  n2 : Int
  d2 : Nat
structure PlaOk (p : Pla) : Prop where
  a0 : -32768 ≤ p.n0
  b0 : p.n0 ≤ 32767
  c0 : p.d0 ≤ 255
  a1 : -32768 ≤ p.n1
  b1 : p.n1 ≤ 32767
  c1 : p.d1 ≤ 255
  a2 : -32768 ≤ p.n2
  b2 : p.n2 ≤ 32767
  c2 : p.d2 ≤ 255
abbrev plc (p : Pla) : Value := .agg #[.int .i16 p.n0, .int .u8 (p.d0 : Int), .int .i16 p.n1, .int .u8 (p.d1 : Int), .int .i16 p.n2, .int .u8 (p.d2 : Int)]
def pvec (p : Pla) : V3 := ⟨sm p.n0 p.d0, sm p.n1 p.d1, sm p.n2 p.d2⟩
def ppt (p : Pla) : P2 := ⟨sm p.n0 p.d0, sm p.n1 p.d1⟩
theorem PlaOk.v {p : Pla} (h : PlaOk p) : VB 5 (pvec p) := ⟨sm_qb h.a0 h.b0 h.c0, sm_qb h.a1 h.b1 h.c1, sm_qb h.a2 h.b2 h.c2⟩
theorem PlaOk.p {p : Pla} (h : PlaOk p) : PB 5 (ppt p) := ⟨sm_qb h.a0 h.b0 h.c0, sm_qb h.a1 h.b1 h.c1⟩

set_option maxRecDepth 100000 in
set_option maxHeartbeats 2000000 in
theorem mk2_c (n : Int) (d : Nat) (w : World) (g : Gd w) (h0 : -32768 ≤ n) (h1 : n ≤ 32767) (h2 : d ≤ 255) : Calls Tryz.prog 24 #[.agg #[.int .i16 n, .int .u8 (d : Int)]] w (Ret w (.string (qs (sm n d)))) := by
  have HG := Lib.hid g
  clear g
  go_enter Tryz.func24, Tryz.ntmps24
  go_wp2_with fail
  refine (fqofD n _ (1 + d) _ (HG.out.ext ((Ext.refl w).alloc _)) (by simp) (by omega) h0 h1 (by omega)).mono ?_; rintro e w1 ⟨rfl, e1⟩
  have HX1 : Hid (Ext w w1) := Lib.hid (((Ext.refl w).alloc _).trans e1)
  clear e1
  go_wp2
  go_ret
  exact ⟨rfl, HX1.out⟩

set_option maxRecDepth 100000 in
set_option maxHeartbeats 2000000 in
theorem make0_c (p : Pla) (w : World) (g : Gd w) (hp : PlaOk p) : Calls Tryz.prog 14 #[.agg #[.int .i16 p.n0, .int .u8 (p.d0 : Int), .int .i16 p.n1, .int .u8 (p.d1 : Int), .int .i16 p.n2, .int .u8 (p.d2 : Int)]] w (Ret w (.agg #[.string (qs (sm p.n0 p.d0)), .string (qs (sm p.n1 p.d1)), .string (qs (sm p.n2 p.d2))])) := by
  have HP := Lib.hid hp
  have HG := Lib.hid g
  clear hp g
  go_enter Tryz.func14, Tryz.ntmps14
  go_wp2_with fail
  refine wp_name (fun W => Ext w W ∧ Blk W (w.heap.size) #[.int .i16 p.n0, .int .u8 (p.d0 : Int), .int .i16 p.n1, .int .u8 (p.d1 : Int), .int .i16 p.n2, .int .u8 (p.d2 : Int)] 26 ∧ Blk W (w.heap.size + 1) #[.string ⟨#[]⟩, .string ⟨#[]⟩, .string ⟨#[]⟩] 30) ⟨(((Ext.refl w).alloc _).alloc _), ((Blk.new' (w := _) (cs := #[.int .i16 p.n0, .int .u8 (p.d0 : Int), .int .i16 p.n1, .int .u8 (p.d1 : Int), .int .i16 p.n2, .int .u8 (p.d2 : Int)]) (t := 26) (by first | rfl | (simp only [World.size_alloc]; done) | (simp only [World.size_alloc]; omega) | simp)).alloc _), (Blk.new' (w := _) (cs := #[.string ⟨#[]⟩, .string ⟨#[]⟩, .string ⟨#[]⟩]) (t := 30) (by first | rfl | (simp only [World.size_alloc]; done) | (simp only [World.size_alloc]; omega) | simp))⟩ ?_
  rintro w1 ⟨e1, bB0_1, bB1_1⟩
  have HX1 := Lib.hid e1; have HB0_1 := Lib.hid bB0_1; have HB1_1 := Lib.hid bB1_1
  have HGEB0 : Hid (w.heap.size ≤ w.heap.size) := Lib.hid (by first | omega | (simp only []; omega) | (simp; omega))
  have HGEB1 : Hid (w.heap.size ≤ w.heap.size + 1) := Lib.hid (by first | omega | (simp only []; omega) | (simp; omega))
  clear e1 bB0_1 bB1_1
  have hS1 : w1.cell? ⟨w.heap.size, 0, none⟩ = some (.int .i16 p.n0) ∧ w1.cell? ⟨w.heap.size, 1, none⟩ = some (.int .u8 (p.d0 : Int)) ∧ w1.cell? ⟨w.heap.size, 2, none⟩ = some (.int .i16 p.n1) ∧ w1.cell? ⟨w.heap.size, 3, none⟩ = some (.int .u8 (p.d1 : Int)) ∧ w1.cell? ⟨w.heap.size, 4, none⟩ = some (.int .i16 p.n2) ∧ w1.cell? ⟨w.heap.size, 5, none⟩ = some (.int .u8 (p.d2 : Int)) := ⟨HB0_1.out.cell 0 rfl, HB0_1.out.cell 1 rfl, HB0_1.out.cell 2 rfl, HB0_1.out.cell 3 rfl, HB0_1.out.cell 4 rfl, HB0_1.out.cell 5 rfl⟩
  have HS1 := Lib.hid hS1; clear hS1
  go_region_held3 (fun w' => w'.cell? ⟨w.heap.size, 0, none⟩ = some (.int .i16 p.n0) ∧ w'.cell? ⟨w.heap.size, 1, none⟩ = some (.int .u8 (p.d0 : Int)) ∧ w'.cell? ⟨w.heap.size, 2, none⟩ = some (.int .i16 p.n1) ∧ w'.cell? ⟨w.heap.size, 3, none⟩ = some (.int .u8 (p.d1 : Int)) ∧ w'.cell? ⟨w.heap.size, 4, none⟩ = some (.int .i16 p.n2) ∧ w'.cell? ⟨w.heap.size, 5, none⟩ = some (.int .u8 (p.d2 : Int)))
    (((try simp only [cell_set_ne (show w.heap.size ≠ w.heap.size + 1 from by first | omega | (simp only []; omega) | (simp; omega))]); exact keepsH6 (by repeat (first | assumption | exact Ext.refl _ | apply Ext.drew | apply Ext.alloc | (refine Ext.setCell ?_ (by first | omega | (simp only []; omega) | (simp; omega)) _) | (refine Ext.trans ?_ (by assumption)))) HS1.out)) ((first
      | (go_at_call 24; ((with_reducible refine (mk2_c p.n0 p.d0 _ (HG.out.ext (HX1.out.trans (by repeat (first | assumption | exact Ext.refl _ | apply Ext.drew | apply Ext.alloc | (refine Ext.setCell ?_ (by first | omega | (simp only []; omega) | (simp; omega)) _) | (refine Ext.trans ?_ (by assumption)))))) HP.out.a0 HP.out.b0 HP.out.c0).mono ?_); rintro e w2 ⟨rfl, e2⟩))
      | (go_at_call 24; ((with_reducible refine (mk2_c p.n1 p.d1 _ (HG.out.ext (HX1.out.trans (by repeat (first | assumption | exact Ext.refl _ | apply Ext.drew | apply Ext.alloc | (refine Ext.setCell ?_ (by first | omega | (simp only []; omega) | (simp; omega)) _) | (refine Ext.trans ?_ (by assumption)))))) HP.out.a1 HP.out.b1 HP.out.c1).mono ?_); rintro e w3 ⟨rfl, e3⟩))
      | (go_at_call 24; ((with_reducible refine (mk2_c p.n2 p.d2 _ (HG.out.ext (HX1.out.trans (by repeat (first | assumption | exact Ext.refl _ | apply Ext.drew | apply Ext.alloc | (refine Ext.setCell ?_ (by first | omega | (simp only []; omega) | (simp; omega)) _) | (refine Ext.trans ?_ (by assumption)))))) HP.out.a2 HP.out.b2 HP.out.c2).mono ?_); rintro e w4 ⟨rfl, e4⟩; have RB1 := Blk.ext HB1_1.out (w' := w4) (by repeat (first | assumption | exact Ext.refl _ | apply Ext.drew | (refine Ext.trans ?_ (by assumption)))); have cB1_0 := RB1.cell 0 rfl; have fB1_0 := RB1.free 0; have cB1_1 := RB1.cell 1 rfl; have fB1_1 := RB1.free 1; have cB1_2 := RB1.cell 2 rfl; have fB1_2 := RB1.free 2; have HRB1 := Lib.hid RB1; clear RB1))))
  refine wp_name (fun W => Ext w W ∧ Blk W (w.heap.size + 1) #[.string (qs (sm p.n0 p.d0)), .string (qs (sm p.n1 p.d1)), .string (qs (sm p.n2 p.d2))] 30) ⟨((((HX1.out.trans (by repeat (first | assumption | exact Ext.refl _ | apply Ext.drew | apply Ext.alloc | (refine Ext.trans ?_ (by assumption))))).setCell (by have := HGEB1.out; first | omega | (simp only []; omega) | (simp; omega)) _).setCell (by have := HGEB1.out; first | omega | (simp only []; omega) | (simp; omega)) _).setCell (by have := HGEB1.out; first | omega | (simp only []; omega) | (simp; omega)) _), ((((Blk.ext HB1_1.out (by repeat (first | assumption | exact Ext.refl _ | apply Ext.drew | apply Ext.alloc | (refine Ext.trans ?_ (by assumption))))).set 0 (.string (qs (sm p.n0 p.d0)))).set 1 (.string (qs (sm p.n1 p.d1)))).set 2 (.string (qs (sm p.n2 p.d2))))⟩ ?_
  clear cB1_0 fB1_0 cB1_1 fB1_1 cB1_2 fB1_2
  rintro w5 ⟨e5, bB1_5⟩
  have HX5 := Lib.hid e5; have HB1_5 := Lib.hid bB1_5
  clear e5 bB1_5
  go_wp2_with fail
  have gB1_0 := HB1_5.out.cell 0 rfl
  have gB1_1 := HB1_5.out.cell 1 rfl
  have gB1_2 := HB1_5.out.cell 2 rfl
  refine bodyPost_ret (v := .agg #[.string (qs (sm p.n0 p.d0)), .string (qs (sm p.n1 p.d1)), .string (qs (sm p.n2 p.d2))]) (by simp [results, Tryz.results14, go_sem, gB1_0, gB1_1, gB1_2]) rfl ⟨rfl, HX5.out⟩

theorem make_c (p : Pla) (w : World) (g : Gd w) (hp : PlaOk p) : Calls Tryz.prog 14 #[plc p] w (Ret w (vv (pvec p))) := make0_c p w g hp
def ferr : List Int → Int
  | [] => 0
  | x :: l => if x = 0 then ferr l else x
theorem ferr_zero {l : List Int} (h : ∀ (i : Nat) (hi : i < l.length), l[i] = 0) : ferr l = 0 := by
  induction l with
  | nil => rfl
  | cons x l ih =>
    have e : x = 0 := h 0 (by simp)
    unfold ferr; rw [if_pos e]; exact ih (fun i hi => h (i + 1) (by simpa using hi))
theorem ferr_at {l : List Int} {k : Nat} (hk : k < l.length) (h : ∀ (i : Nat) (_ : i < k) (hi : i < l.length), l[i] = 0) (hne : l[k] ≠ 0) : ferr l = l[k] := by
  induction l generalizing k with
  | nil => simp at hk
  | cons x l ih =>
    cases k with
    | zero =>
      have e : x ≠ 0 := hne
      unfold ferr; rw [if_neg e]; rfl
    | succ k =>
      have e : x = 0 := h 0 (by omega) (by simp)
      unfold ferr; rw [if_pos e]
      exact ih (by simpa using hk) (fun i hi hl => h (i + 1) (by omega) (by simpa using hl)) hne
theorem Tryz.sizeErrno (w : World) : (sizeOf 32).run Tryz.prog w = .ok 1 w := by kernel_rfl
set_option maxRecDepth 100000 in
set_option maxHeartbeats 1000000 in
theorem first_c (l : List Int) (b n cap : Nat) (w : World) (hn : l.length = n) (hn9 : n ≤ 100) (hc : ∀ (i : Nat) (hi : i < l.length), w.cell? ⟨b, i, none⟩ = some (.int .i64 l[i])) :
    Calls Tryz.prog 26 #[.slice (some ⟨b, 0, none⟩) n cap] w fun e w' => e = .returned (.int .i64 (ferr l)) ∧ w = w' := by
  have HC := Lib.hid hc; have HN := Lib.hid hn
  clear hc hn
  go_enter Tryz.func26, Tryz.ntmps26
  go_wp2
  go_loop [3] (fun x => ∃ k : Nat, x = .int .i64 k ∧ k ≤ n ∧ Hid (∀ (i : Nat) (_ : i < k) (hi : i < l.length), l[i] = 0)) (fun x => n - (intOf x).toNat)
  case atStart => exact ⟨0, rfl, by omega, Lib.hid (fun i h => by omega)⟩
  case round =>
    obtain ⟨k, rfl, hk, HR⟩ := hrel
    by_cases hkn : k < n
    · have hks : k < l.length := by have := HN.out; omega
      obtain ⟨v, hv⟩ : ∃ v, v = l[k] := ⟨_, rfl⟩
      have c1 : w.cell? ⟨b, k, none⟩ = some (.int .i64 v) := by rw [hv]; exact HC.out k hks
      have hix := run_index 53 32 rfl Tryz.sizeErrno (ad := some ⟨b, 0, none⟩) (n := n) (cap := cap) (fun _ => rfl) k hkn
      have HV := Lib.hid hv
      clear hv
      by_cases h0 : v = 0
      · have HV0 : Hid (l[k] = 0) := Lib.hid (by rw [← HV.out]; exact h0)
        have t1 : (v != 0) = false := by simp [h0]
        clear h0
        go_wp2
        go_round
        case rel => exact ⟨k + 1, by go_num, by omega, Lib.hid (fun i h hi => by
          by_cases e : i = k
          · subst e; exact HV0.out
          · exact HR.out i (by omega) hi)⟩
        case measure => simp [intOf]; omega
      · have HV0 : Hid (l[k] ≠ 0) := Lib.hid (by rw [← HV.out]; exact h0)
        have t1 : (v != 0) = true := by simp [h0]
        go_wp2
        go_ret
        exact ⟨by rw [ferr_at hks (fun i h hi => HR.out i h hi) HV0.out, ← HV.out]; rfl, rfl⟩
    · obtain rfl : k = n := by omega
      go_wp2
      go_ret
      exact ⟨by rw [ferr_zero (fun i hi => HR.out i (by have := HN.out; omega) hi)]; rfl, rfl⟩
theorem first2_c (x0 x1 : Int) (kb : Nat) (w : World) (hB : Blk w kb #[.int .i64 x0, .int .i64 x1] 32) : Calls Tryz.prog 26 #[.slice (some ⟨kb, 0, none⟩) 2 2] w fun e w' => e = .returned (.int .i64 (ferr [x0, x1])) ∧ w = w' :=
  first_c [x0, x1] kb 2 2 w rfl (by decide) (fun i hi => match i, hi with | 0, _ => hB.cell 0 rfl | 1, _ => hB.cell 1 rfl)
theorem scross_x (a b : V3) {k m : Nat} (w : World) (g : Gd w) (ha : VB k a) (hb : VB m b) (hk : k ≤ 500) (hm : m ≤ 500) : Calls Tryz.prog 19 #[vv a, vv b] w (Ret w (.agg #[.string (qs (a.y * b.z - a.z * b.y)), .string (qs (a.z * b.x - a.x * b.z)), .string (qs (a.x * b.y - a.y * b.x))])) :=
  scross_c a b w g (k := max k m) (ha.mono (Nat.le_max_left _ _)) (hb.mono (Nat.le_max_right _ _)) (by omega)
theorem sbeyond_x (p : Pl) (v : V3) {k m : Nat} (w : World) (g : Gd w) (hp : VB k p.n) (hq : QB k p.c) (hv : VB m v) (hk : k ≤ 400) (hm : m ≤ 400) : Calls Tryz.prog 28 #[plv p, vv v] w (Ret w (.string (qs (p.n.x * v.x + (p.n.y * v.y + p.n.z * v.z) - p.c)))) := sbeyond_c p v w g hp hq hv hk hm
end Go.Proofs.YtglppcmegocphaaGreatDoor

namespace Go.Proofs.YtglppcmegocphaaGreatDoor
open Go Go.RowKit
structure QD (n d : Nat) (q : Rat) : Prop where
  num : q.num.natAbs < 10 ^ n
  den : q.den < 10 ^ d
theorem QD.qb {n d k : Nat} {q : Rat} (h : QD n d q) (h1 : n ≤ k) (h2 : d ≤ k) : QB k q :=
  ⟨Nat.lt_of_lt_of_le h.num (Nat.pow_le_pow_right (by decide) h1), Nat.lt_of_lt_of_le h.den (Nat.pow_le_pow_right (by decide) h2)⟩
theorem QD.mk' {n d : Nat} {x : Int} {y : Nat} (h0 : y ≠ 0) (h1 : x.natAbs < 10 ^ n) (h2 : y < 10 ^ d) : QD n d (mkRat x y) :=
  ⟨Nat.lt_of_le_of_lt (mkRat_num_le _ _) h1, Nat.lt_of_le_of_lt (mkRat_den_le _ _ h0) h2⟩
theorem QD.neg {n d : Nat} {a : Rat} (ha : QD n d a) : QD n d (-a) := ⟨by rw [Rat.neg_num, Int.natAbs_neg]; exact ha.num, ha.den⟩
theorem QD.add {n d m e : Nat} {a b : Rat} (ha : QD n d a) (hb : QD m e b) : QD (max (n + e) (d + m) + 1) (d + e) (a + b) := by
  rw [Rat.add_def']
  refine QD.mk' (Nat.mul_ne_zero a.den_nz b.den_nz) ?_ (lt_mul_pow ha.den hb.den)
  refine Nat.lt_of_le_of_lt (Int.natAbs_add_le _ _) ?_
  rw [Int.natAbs_mul, Int.natAbs_mul, Int.natAbs_natCast, Int.natAbs_natCast, Nat.mul_comm b.num.natAbs]
  exact lt_add_pow (lt_mul_pow ha.num hb.den) (lt_mul_pow ha.den hb.num)
theorem QD.sub {n d m e : Nat} {a b : Rat} (ha : QD n d a) (hb : QD m e b) : QD (max (n + e) (d + m) + 1) (d + e) (a - b) := by
  rw [Rat.sub_eq_add_neg]; exact ha.add hb.neg
theorem QD.mul {n d m e : Nat} {a b : Rat} (ha : QD n d a) (hb : QD m e b) : QD (n + m) (d + e) (a * b) := by
  rw [Rat.mul_def']
  exact QD.mk' (Nat.mul_ne_zero a.den_nz b.den_nz) (by rw [Int.natAbs_mul]; exact lt_mul_pow ha.num hb.num) (lt_mul_pow ha.den hb.den)
theorem QD.inv {n d : Nat} {a : Rat} (ha : QD n d a) (hn : 1 ≤ n) : QD d n a⁻¹ := by
  constructor
  · rw [Rat.num_inv, Int.natAbs_mul, Int.natAbs_natCast]
    have : a.num.sign.natAbs ≤ 1 := by rw [Int.natAbs_sign]; split <;> omega
    exact Nat.lt_of_le_of_lt (Nat.mul_le_mul_right _ this) (by rw [Nat.one_mul]; exact ha.den)
  · rw [Rat.den_inv]
    split
    · exact Nat.one_lt_pow (by omega) (by decide)
    · exact ha.num
theorem QD.div {n d m e : Nat} {a b : Rat} (ha : QD n d a) (hb : QD m e b) (hm : 1 ≤ m) : QD (n + e) (d + m) (a / b) := by
  rw [Rat.div_def]; exact ha.mul (hb.inv hm)
structure VD (n d : Nat) (v : V3) : Prop where
  x : QD n d v.x
  y : QD n d v.y
  z : QD n d v.z
def dotl (n a : V3) : Rat := n.x * a.x + n.y * a.y + n.z * a.z
theorem VD.vb {n d k : Nat} {v : V3} (h : VD n d v) (h1 : n ≤ k) (h2 : d ≤ k) : VB k v := ⟨h.x.qb h1 h2, h.y.qb h1 h2, h.z.qb h1 h2⟩
theorem beyond_n (n v : V3) (O B : Rat) {k m : Nat} (w : World) (g : Gd w) (hB : dotl n v - O = B) (hn : VB k n) (ho : QB k O) (hv : VB m v) (hk : k ≤ 400) (hm : m ≤ 400) :
    Calls Tryz.prog 28 #[.agg #[.string (qs n.x), .string (qs n.y), .string (qs n.z), .string (qs O)], vv v] w (Ret w (.string (qs B))) := by
  have := sbeyond_x ⟨n, O⟩ v w g hn ho hv hk hm
  rwa [show n.x * v.x + (n.y * v.y + n.z * v.z) - O = B by rw [← hB]; unfold dotl; grind] at this
theorem beyond_0 (n v : V3) (O : Rat) {k m : Nat} (w : World) (g : Gd w) (hB : dotl n v - O = 0) (hn : VB k n) (ho : QB k O) (hv : VB m v) (hk : k ≤ 400) (hm : m ≤ 400) :
    Calls Tryz.prog 28 #[.agg #[.string (qs n.x), .string (qs n.y), .string (qs n.z), .string (qs O)], vv v] w (Ret w (.string ⟨#[48]⟩)) := by
  have := beyond_n n v O 0 w g hB hn ho hv hk hm
  rwa [qs_zero] at this
end Go.Proofs.YtglppcmegocphaaGreatDoor

namespace Go.Proofs.YtglppcmegocphaaGreatDoor
open Go Go.RowKit
theorem sright_v (v : V3) (w : World) (g : Gd w) (hv : VB 200 v) : Calls Tryz.prog 17 #[.agg #[.string (qs v.x), .string (qs v.y), .string (qs v.z)]] w (Ret w (.bool true)) :=
  sright_3 ⟨qs v.x, qs v.y, qs v.z⟩ w g hv.ts (rq_qs hv.x) (rq_qs hv.y) (rq_qs hv.z)
end Go.Proofs.YtglppcmegocphaaGreatDoor
