/- Part 23 of the proof: L1b, L2. -/
import Derived.Test.YtglppcmegocphaaGreatDoorQVS22
namespace Go.Proofs.YtglppcmegocphaaGreatDoor
open Go Go.RowKit
set_option maxRecDepth 100000 in
set_option maxHeartbeats 8000000 in
theorem known_c (w : World) (g : Gd w) : Calls Tryz.prog 13 #[] w (Ret w (.bool true)) := by
  have HG := Lib.hid g
  clear g
  go_enter Tryz.func13, Tryz.ntmps13
  go_wp2_with fail
  refine (kof_1_0_0 _ (HG.out.ext (Ext.refl w))).mono ?_; rintro e w1 ⟨rfl, e1⟩
  have HX1 : Hid (Ext w w1) := Lib.hid ((Ext.refl w).trans e1)
  clear e1
  go_wp2_with fail
  refine (kof_0_1_0 _ (HG.out.ext HX1.out)).mono ?_; rintro e w2 ⟨rfl, e2⟩
  have HX2 : Hid (Ext w w2) := Lib.hid (HX1.out.trans e2)
  clear e2
  go_wp2_with fail
  refine (kcross _ (HG.out.ext HX2.out)).mono ?_; rintro e w3 ⟨rfl, e3⟩
  have HX3 : Hid (Ext w w3) := Lib.hid (HX2.out.trans e3)
  clear e3
  go_wp2_with fail
  refine (kprim _ (HG.out.ext (HX3.out.alloc _))).mono ?_; rintro e w4 ⟨rfl, e4⟩
  have HX4 : Hid (Ext w w4) := Lib.hid ((HX3.out.alloc _).trans e4)
  have HB0_4 : Hid (Blk w4 (w3.heap.size) #[.string ⟨#[48]⟩, .string ⟨#[48]⟩, .string ⟨#[49]⟩] 30) := Lib.hid (Blk.ext (Blk.new' (w := _) (cs := #[.string ⟨#[48]⟩, .string ⟨#[48]⟩, .string ⟨#[49]⟩]) (t := 30) (by first | rfl | (simp only [World.size_alloc]; done) | (simp only [World.size_alloc]; omega) | simp)) e4)
  have HGEB0 : Hid (w.heap.size ≤ w3.heap.size) := Lib.hid (by have := HX3.out.size; first | omega | (simp only []; omega) | (simp; omega))
  clear e4
  go_wp2_with fail
  refine (kat_0_0 _ (HG.out.ext (HX4.out.alloc _))).mono ?_; rintro e w5 ⟨rfl, e5⟩
  have HX5 : Hid (Ext w w5) := Lib.hid ((HX4.out.alloc _).trans e5)
  have HB0_5 : Hid (Blk w5 (w3.heap.size) #[.string ⟨#[48]⟩, .string ⟨#[48]⟩, .string ⟨#[49]⟩] 30) := Lib.hid (Blk.ext (HB0_4.out.alloc _) e5)
  have HB1_5 : Hid (Blk w5 (w4.heap.size) #[.string ⟨#[51]⟩, .string ⟨#[45, 50]⟩, .string ⟨#[48]⟩] 30) := Lib.hid (Blk.ext (Blk.new' (w := _) (cs := #[.string ⟨#[51]⟩, .string ⟨#[45, 50]⟩, .string ⟨#[48]⟩]) (t := 30) (by first | rfl | (simp only [World.size_alloc]; done) | (simp only [World.size_alloc]; omega) | simp)) e5)
  have HGEB1 : Hid (w.heap.size ≤ w4.heap.size) := Lib.hid (by have := HX4.out.size; first | omega | (simp only []; omega) | (simp; omega))
  clear e5
  go_wp2_with fail
  refine (kat_4_0 _ (HG.out.ext HX5.out)).mono ?_; rintro e w6 ⟨rfl, e6⟩
  have HX6 : Hid (Ext w w6) := Lib.hid (HX5.out.trans e6)
  have HB0_6 : Hid (Blk w6 (w3.heap.size) #[.string ⟨#[48]⟩, .string ⟨#[48]⟩, .string ⟨#[49]⟩] 30) := Lib.hid (Blk.ext HB0_5.out e6)
  have HB1_6 : Hid (Blk w6 (w4.heap.size) #[.string ⟨#[51]⟩, .string ⟨#[45, 50]⟩, .string ⟨#[48]⟩] 30) := Lib.hid (Blk.ext HB1_5.out e6)
  clear e6
  go_wp2_with fail
  refine (kat_0_2 _ (HG.out.ext HX6.out)).mono ?_; rintro e w7 ⟨rfl, e7⟩
  have HX7 : Hid (Ext w w7) := Lib.hid (HX6.out.trans e7)
  have HB0_7 : Hid (Blk w7 (w3.heap.size) #[.string ⟨#[48]⟩, .string ⟨#[48]⟩, .string ⟨#[49]⟩] 30) := Lib.hid (Blk.ext HB0_6.out e7)
  have HB1_7 : Hid (Blk w7 (w4.heap.size) #[.string ⟨#[51]⟩, .string ⟨#[45, 50]⟩, .string ⟨#[48]⟩] 30) := Lib.hid (Blk.ext HB1_6.out e7)
  clear e7
  go_wp2_with fail
  refine (karea _ (HG.out.ext HX7.out)).mono ?_; rintro e w8 ⟨rfl, e8⟩
  have HX8 : Hid (Ext w w8) := Lib.hid (HX7.out.trans e8)
  have HB0_8 : Hid (Blk w8 (w3.heap.size) #[.string ⟨#[48]⟩, .string ⟨#[48]⟩, .string ⟨#[49]⟩] 30) := Lib.hid (Blk.ext HB0_7.out e8)
  have HB1_8 : Hid (Blk w8 (w4.heap.size) #[.string ⟨#[51]⟩, .string ⟨#[45, 50]⟩, .string ⟨#[48]⟩] 30) := Lib.hid (Blk.ext HB1_7.out e8)
  clear e8
  go_wp2_with fail
  refine (kat_0_0 _ (HG.out.ext HX8.out)).mono ?_; rintro e w9 ⟨rfl, e9⟩
  have HX9 : Hid (Ext w w9) := Lib.hid (HX8.out.trans e9)
  have HB0_9 : Hid (Blk w9 (w3.heap.size) #[.string ⟨#[48]⟩, .string ⟨#[48]⟩, .string ⟨#[49]⟩] 30) := Lib.hid (Blk.ext HB0_8.out e9)
  have HB1_9 : Hid (Blk w9 (w4.heap.size) #[.string ⟨#[51]⟩, .string ⟨#[45, 50]⟩, .string ⟨#[48]⟩] 30) := Lib.hid (Blk.ext HB1_8.out e9)
  clear e9
  go_wp2_with fail
  refine (kat_2_1 _ (HG.out.ext HX9.out)).mono ?_; rintro e w10 ⟨rfl, e10⟩
  have HX10 : Hid (Ext w w10) := Lib.hid (HX9.out.trans e10)
  have HB0_10 : Hid (Blk w10 (w3.heap.size) #[.string ⟨#[48]⟩, .string ⟨#[48]⟩, .string ⟨#[49]⟩] 30) := Lib.hid (Blk.ext HB0_9.out e10)
  have HB1_10 : Hid (Blk w10 (w4.heap.size) #[.string ⟨#[51]⟩, .string ⟨#[45, 50]⟩, .string ⟨#[48]⟩] 30) := Lib.hid (Blk.ext HB1_9.out e10)
  clear e10
  go_wp2_with fail
  refine (kthrough _ (HG.out.ext HX10.out)).mono ?_; rintro e w11 ⟨rfl, e11⟩
  have HX11 : Hid (Ext w w11) := Lib.hid (HX10.out.trans e11)
  have HB0_11 : Hid (Blk w11 (w3.heap.size) #[.string ⟨#[48]⟩, .string ⟨#[48]⟩, .string ⟨#[49]⟩] 30) := Lib.hid (Blk.ext HB0_10.out e11)
  have HB1_11 : Hid (Blk w11 (w4.heap.size) #[.string ⟨#[51]⟩, .string ⟨#[45, 50]⟩, .string ⟨#[48]⟩] 30) := Lib.hid (Blk.ext HB1_10.out e11)
  clear e11
  go_wp2_with fail
  refine (kof_0_0_1 _ (HG.out.ext (HX11.out.alloc _))).mono ?_; rintro e w12 ⟨rfl, e12⟩
  have HX12 : Hid (Ext w w12) := Lib.hid ((HX11.out.alloc _).trans e12)
  have HB0_12 : Hid (Blk w12 (w3.heap.size) #[.string ⟨#[48]⟩, .string ⟨#[48]⟩, .string ⟨#[49]⟩] 30) := Lib.hid (Blk.ext (HB0_11.out.alloc _) e12)
  have HB1_12 : Hid (Blk w12 (w4.heap.size) #[.string ⟨#[51]⟩, .string ⟨#[45, 50]⟩, .string ⟨#[48]⟩] 30) := Lib.hid (Blk.ext (HB1_11.out.alloc _) e12)
  have HB2_12 : Hid (Blk w12 (w11.heap.size) #[.string ⟨#[45, 49]⟩, .string ⟨#[50]⟩, .string ⟨#[48]⟩] 73) := Lib.hid (Blk.ext (Blk.new' (w := _) (cs := #[.string ⟨#[45, 49]⟩, .string ⟨#[50]⟩, .string ⟨#[48]⟩]) (t := 73) (by first | rfl | (simp only [World.size_alloc]; done) | (simp only [World.size_alloc]; omega) | simp)) e12)
  have HGEB2 : Hid (w.heap.size ≤ w11.heap.size) := Lib.hid (by have := HX11.out.size; first | omega | (simp only []; omega) | (simp; omega))
  clear e12
  go_wp2_with fail
  refine (kof_1_0_1 _ (HG.out.ext HX12.out)).mono ?_; rintro e w13 ⟨rfl, e13⟩
  have HX13 : Hid (Ext w w13) := Lib.hid (HX12.out.trans e13)
  have HB0_13 : Hid (Blk w13 (w3.heap.size) #[.string ⟨#[48]⟩, .string ⟨#[48]⟩, .string ⟨#[49]⟩] 30) := Lib.hid (Blk.ext HB0_12.out e13)
  have HB1_13 : Hid (Blk w13 (w4.heap.size) #[.string ⟨#[51]⟩, .string ⟨#[45, 50]⟩, .string ⟨#[48]⟩] 30) := Lib.hid (Blk.ext HB1_12.out e13)
  have HB2_13 : Hid (Blk w13 (w11.heap.size) #[.string ⟨#[45, 49]⟩, .string ⟨#[50]⟩, .string ⟨#[48]⟩] 73) := Lib.hid (Blk.ext HB2_12.out e13)
  clear e13
  go_wp2_with fail
  refine (kcommon _ (HG.out.ext HX13.out)).mono ?_; rintro e w14 ⟨rfl, e14⟩
  have HX14 : Hid (Ext w w14) := Lib.hid (HX13.out.trans e14)
  have HB0_14 : Hid (Blk w14 (w3.heap.size) #[.string ⟨#[48]⟩, .string ⟨#[48]⟩, .string ⟨#[49]⟩] 30) := Lib.hid (Blk.ext HB0_13.out e14)
  have HB1_14 : Hid (Blk w14 (w4.heap.size) #[.string ⟨#[51]⟩, .string ⟨#[45, 50]⟩, .string ⟨#[48]⟩] 30) := Lib.hid (Blk.ext HB1_13.out e14)
  have HB2_14 : Hid (Blk w14 (w11.heap.size) #[.string ⟨#[45, 49]⟩, .string ⟨#[50]⟩, .string ⟨#[48]⟩] 73) := Lib.hid (Blk.ext HB2_13.out e14)
  clear e14
  go_wp2_with fail
  refine wp_name (fun W => Ext w W ∧ Blk W (w3.heap.size) #[.string ⟨#[48]⟩, .string ⟨#[48]⟩, .string ⟨#[49]⟩] 30 ∧ Blk W (w4.heap.size) #[.string ⟨#[51]⟩, .string ⟨#[45, 50]⟩, .string ⟨#[48]⟩] 30 ∧ Blk W (w11.heap.size) #[.string ⟨#[45, 49]⟩, .string ⟨#[50]⟩, .string ⟨#[48]⟩] 73 ∧ Blk W (w14.heap.size) #[.string ⟨#[49]⟩, .string ⟨#[48]⟩, .string ⟨#[48]⟩] 30 ∧ Blk W (w14.heap.size + 1) #[.string ⟨#[48]⟩, .string ⟨#[49]⟩, .string ⟨#[48]⟩] 30) ⟨((HX14.out.alloc _).alloc _), ((HB0_14.out.alloc _).alloc _), ((HB1_14.out.alloc _).alloc _), ((HB2_14.out.alloc _).alloc _), ((Blk.new' (w := _) (cs := #[.string ⟨#[49]⟩, .string ⟨#[48]⟩, .string ⟨#[48]⟩]) (t := 30) (by first | rfl | (simp only [World.size_alloc]; done) | (simp only [World.size_alloc]; omega) | simp)).alloc _), (Blk.new' (w := _) (cs := #[.string ⟨#[48]⟩, .string ⟨#[49]⟩, .string ⟨#[48]⟩]) (t := 30) (by first | rfl | (simp only [World.size_alloc]; done) | (simp only [World.size_alloc]; omega) | simp))⟩ ?_
  rintro w15 ⟨e15, bB0_15, bB1_15, bB2_15, bB3_15, bB4_15⟩
  have HX15 := Lib.hid e15; have HB0_15 := Lib.hid bB0_15; have HB1_15 := Lib.hid bB1_15; have HB2_15 := Lib.hid bB2_15; have HB3_15 := Lib.hid bB3_15; have HB4_15 := Lib.hid bB4_15
  have HGEB3 : Hid (w.heap.size ≤ w14.heap.size) := Lib.hid (by have := HX14.out.size; first | omega | (simp only []; omega) | (simp; omega))
  have HGEB4 : Hid (w.heap.size ≤ w14.heap.size + 1) := Lib.hid (by have := HX14.out.size; first | omega | (simp only []; omega) | (simp; omega))
  clear e15 bB0_15 bB1_15 bB2_15 bB3_15 bB4_15
  have hS15 : w15.cell? ⟨w3.heap.size, 0, none⟩ = some (.string ⟨#[48]⟩) ∧ w15.cell? ⟨w3.heap.size, 1, none⟩ = some (.string ⟨#[48]⟩) ∧ w15.cell? ⟨w3.heap.size, 2, none⟩ = some (.string ⟨#[49]⟩) ∧ w15.cell? ⟨w4.heap.size, 0, none⟩ = some (.string ⟨#[51]⟩) ∧ w15.cell? ⟨w4.heap.size, 1, none⟩ = some (.string ⟨#[45, 50]⟩) ∧ w15.cell? ⟨w4.heap.size, 2, none⟩ = some (.string ⟨#[48]⟩) ∧ w15.cell? ⟨w11.heap.size, 0, none⟩ = some (.string ⟨#[45, 49]⟩) ∧ w15.cell? ⟨w11.heap.size, 1, none⟩ = some (.string ⟨#[50]⟩) ∧ w15.cell? ⟨w11.heap.size, 2, none⟩ = some (.string ⟨#[48]⟩) ∧ w15.cell? ⟨w14.heap.size + 1, 0, none⟩ = some (.string ⟨#[48]⟩) ∧ w15.cell? ⟨w14.heap.size + 1, 1, none⟩ = some (.string ⟨#[49]⟩) ∧ w15.cell? ⟨w14.heap.size + 1, 2, none⟩ = some (.string ⟨#[48]⟩) ∧ w15.cell? ⟨w14.heap.size, 0, none⟩ = some (.string ⟨#[49]⟩) ∧ w15.cell? ⟨w14.heap.size, 1, none⟩ = some (.string ⟨#[48]⟩) ∧ w15.cell? ⟨w14.heap.size, 2, none⟩ = some (.string ⟨#[48]⟩) := ⟨HB0_15.out.cell 0 rfl, HB0_15.out.cell 1 rfl, HB0_15.out.cell 2 rfl, HB1_15.out.cell 0 rfl, HB1_15.out.cell 1 rfl, HB1_15.out.cell 2 rfl, HB2_15.out.cell 0 rfl, HB2_15.out.cell 1 rfl, HB2_15.out.cell 2 rfl, HB4_15.out.cell 0 rfl, HB4_15.out.cell 1 rfl, HB4_15.out.cell 2 rfl, HB3_15.out.cell 0 rfl, HB3_15.out.cell 1 rfl, HB3_15.out.cell 2 rfl⟩
  have HS15 := Lib.hid hS15; clear hS15
  go_region_held3 (fun w' => w'.cell? ⟨w3.heap.size, 0, none⟩ = some (.string ⟨#[48]⟩) ∧ w'.cell? ⟨w3.heap.size, 1, none⟩ = some (.string ⟨#[48]⟩) ∧ w'.cell? ⟨w3.heap.size, 2, none⟩ = some (.string ⟨#[49]⟩) ∧ w'.cell? ⟨w4.heap.size, 0, none⟩ = some (.string ⟨#[51]⟩) ∧ w'.cell? ⟨w4.heap.size, 1, none⟩ = some (.string ⟨#[45, 50]⟩) ∧ w'.cell? ⟨w4.heap.size, 2, none⟩ = some (.string ⟨#[48]⟩) ∧ w'.cell? ⟨w11.heap.size, 0, none⟩ = some (.string ⟨#[45, 49]⟩) ∧ w'.cell? ⟨w11.heap.size, 1, none⟩ = some (.string ⟨#[50]⟩) ∧ w'.cell? ⟨w11.heap.size, 2, none⟩ = some (.string ⟨#[48]⟩) ∧ w'.cell? ⟨w14.heap.size + 1, 0, none⟩ = some (.string ⟨#[48]⟩) ∧ w'.cell? ⟨w14.heap.size + 1, 1, none⟩ = some (.string ⟨#[49]⟩) ∧ w'.cell? ⟨w14.heap.size + 1, 2, none⟩ = some (.string ⟨#[48]⟩) ∧ w'.cell? ⟨w14.heap.size, 0, none⟩ = some (.string ⟨#[49]⟩) ∧ w'.cell? ⟨w14.heap.size, 1, none⟩ = some (.string ⟨#[48]⟩) ∧ w'.cell? ⟨w14.heap.size, 2, none⟩ = some (.string ⟨#[48]⟩))
    ((exact keepsH15 (by repeat (first | assumption | exact Ext.refl _ | apply Ext.drew | apply Ext.alloc | (refine Ext.setCell ?_ (by first | omega | (simp only []; omega) | (simp; omega)) _) | (refine Ext.trans ?_ (by assumption)))) HS15.out)) ((first
      | (go_at_call 66; ((with_reducible refine (kof_0_0_1 _ (HG.out.ext (HX15.out.trans (by repeat (first | assumption | exact Ext.refl _ | apply Ext.drew | apply Ext.alloc | (refine Ext.setCell ?_ (by first | omega | (simp only []; omega) | (simp; omega)) _) | (refine Ext.trans ?_ (by assumption))))))).mono ?_); rintro e w16 ⟨rfl, e16⟩))
      | (go_at_call 66; ((with_reducible refine (kof_3_m2_0 _ (HG.out.ext (HX15.out.trans (by repeat (first | assumption | exact Ext.refl _ | apply Ext.drew | apply Ext.alloc | (refine Ext.setCell ?_ (by first | omega | (simp only []; omega) | (simp; omega)) _) | (refine Ext.trans ?_ (by assumption))))))).mono ?_); rintro e w17 ⟨rfl, e17⟩))
      | (go_at_call 66; ((with_reducible refine (kof_0_1_0 _ (HG.out.ext (HX15.out.trans (by repeat (first | assumption | exact Ext.refl _ | apply Ext.drew | apply Ext.alloc | (refine Ext.setCell ?_ (by first | omega | (simp only []; omega) | (simp; omega)) _) | (refine Ext.trans ?_ (by assumption))))))).mono ?_); rintro e w18 ⟨rfl, e18⟩))
      | (go_at_call 66; ((with_reducible refine (kof_1_0_0 _ (HG.out.ext (HX15.out.trans (by repeat (first | assumption | exact Ext.refl _ | apply Ext.drew | apply Ext.alloc | (refine Ext.setCell ?_ (by first | omega | (simp only []; omega) | (simp; omega)) _) | (refine Ext.trans ?_ (by assumption))))))).mono ?_); rintro e w19 ⟨rfl, e19⟩))))
  refine wp_name (fun W => Ext w W) (HX15.out.trans (((((Ext.refl _).drew.trans e16).trans e17).trans e18).trans e19)) ?_
  rintro w20 e20
  have HX20 := Lib.hid e20
  clear e20
  go_wp2
  go_ret
  exact ⟨rfl, HX20.out⟩
end Go.Proofs.YtglppcmegocphaaGreatDoor

namespace Go.Proofs.YtglppcmegocphaaGreatDoor
open Go Go.RowKit
/-- A described number. -/
def sm (n : Int) (d : Nat) : Rat := mkRat n (1 + d)
theorem sm_qb {n : Int} {d : Nat} (h0 : -32768 ≤ n) (h1 : n ≤ 32767) (h2 : d ≤ 255) : QB 5 (sm n d) := QB.mk' (by omega) (by omega) (by omega)
theorem fqofD (n D : Int) (d : Nat) (w : World) (g : Gd w) (hD : D = (d : Int)) (hd : d ≠ 0) (h0 : -32768 ≤ n) (h1 : n ≤ 32767) (h2 : d ≤ 256) : Calls Tryz.prog 22 #[.int .i64 n, .int .i64 D] w (Ret w (.string (qs (mkRat n d)))) := by
  subst hD; exact fqof_c n d w g hd (by omega) (by omega) (by omega)
/-- A described place: three numerators, three denominators less 1. -/
structure Pla where
  n0 : Int
  d0 : Nat
  n1 : Int
  d1 : Nat
  n2 : Int
  d2 : Nat
structure PlaOk (p : Pla) : Prop where
  a0 : -32768 ≤ p.n0
  b0 : p.n0 ≤ 32767
  c0 : p.d0 ≤ 255
  a1 : -32768 ≤ p.n1
  b1 : p.n1 ≤ 32767
  c1 : p.d1 ≤ 255
  a2 : -32768 ≤ p.n2
  b2 : p.n2 ≤ 32767
  c2 : p.d2 ≤ 255
abbrev plc (p : Pla) : Value := .agg #[.int .i16 p.n0, .int .u8 (p.d0 : Int), .int .i16 p.n1, .int .u8 (p.d1 : Int), .int .i16 p.n2, .int .u8 (p.d2 : Int)]
def pvec (p : Pla) : V3 := ⟨sm p.n0 p.d0, sm p.n1 p.d1, sm p.n2 p.d2⟩
def ppt (p : Pla) : P2 := ⟨sm p.n0 p.d0, sm p.n1 p.d1⟩
theorem PlaOk.v {p : Pla} (h : PlaOk p) : VB 5 (pvec p) := ⟨sm_qb h.a0 h.b0 h.c0, sm_qb h.a1 h.b1 h.c1, sm_qb h.a2 h.b2 h.c2⟩
theorem PlaOk.p {p : Pla} (h : PlaOk p) : PB 5 (ppt p) := ⟨sm_qb h.a0 h.b0 h.c0, sm_qb h.a1 h.b1 h.c1⟩

set_option maxRecDepth 100000 in
set_option maxHeartbeats 2000000 in
theorem mk2_c (n : Int) (d : Nat) (w : World) (g : Gd w) (h0 : -32768 ≤ n) (h1 : n ≤ 32767) (h2 : d ≤ 255) : Calls Tryz.prog 24 #[.agg #[.int .i16 n, .int .u8 (d : Int)]] w (Ret w (.string (qs (sm n d)))) := by
  have HG := Lib.hid g
  clear g
  go_enter Tryz.func24, Tryz.ntmps24
  go_wp2_with fail
  refine (fqofD n _ (1 + d) _ (HG.out.ext ((Ext.refl w).alloc _)) (by simp) (by omega) h0 h1 (by omega)).mono ?_; rintro e w1 ⟨rfl, e1⟩
  have HX1 : Hid (Ext w w1) := Lib.hid (((Ext.refl w).alloc _).trans e1)
  clear e1
  go_wp2
  go_ret
  exact ⟨rfl, HX1.out⟩

set_option maxRecDepth 100000 in
set_option maxHeartbeats 2000000 in
theorem make0_c (p : Pla) (w : World) (g : Gd w) (hp : PlaOk p) : Calls Tryz.prog 14 #[.agg #[.int .i16 p.n0, .int .u8 (p.d0 : Int), .int .i16 p.n1, .int .u8 (p.d1 : Int), .int .i16 p.n2, .int .u8 (p.d2 : Int)]] w (Ret w (.agg #[.string (qs (sm p.n0 p.d0)), .string (qs (sm p.n1 p.d1)), .string (qs (sm p.n2 p.d2))])) := by
  have HP := Lib.hid hp
  have HG := Lib.hid g
  clear hp g
  go_enter Tryz.func14, Tryz.ntmps14
  go_wp2_with fail
  refine wp_name (fun W => Ext w W ∧ Blk W (w.heap.size) #[.int .i16 p.n0, .int .u8 (p.d0 : Int), .int .i16 p.n1, .int .u8 (p.d1 : Int), .int .i16 p.n2, .int .u8 (p.d2 : Int)] 26 ∧ Blk W (w.heap.size + 1) #[.string ⟨#[]⟩, .string ⟨#[]⟩, .string ⟨#[]⟩] 30) ⟨(((Ext.refl w).alloc _).alloc _), ((Blk.new' (w := _) (cs := #[.int .i16 p.n0, .int .u8 (p.d0 : Int), .int .i16 p.n1, .int .u8 (p.d1 : Int), .int .i16 p.n2, .int .u8 (p.d2 : Int)]) (t := 26) (by first | rfl | (simp only [World.size_alloc]; done) | (simp only [World.size_alloc]; omega) | simp)).alloc _), (Blk.new' (w := _) (cs := #[.string ⟨#[]⟩, .string ⟨#[]⟩, .string ⟨#[]⟩]) (t := 30) (by first | rfl | (simp only [World.size_alloc]; done) | (simp only [World.size_alloc]; omega) | simp))⟩ ?_
  rintro w1 ⟨e1, bB0_1, bB1_1⟩
  have HX1 := Lib.hid e1; have HB0_1 := Lib.hid bB0_1; have HB1_1 := Lib.hid bB1_1
  have HGEB0 : Hid (w.heap.size ≤ w.heap.size) := Lib.hid (by first | omega | (simp only []; omega) | (simp; omega))
  have HGEB1 : Hid (w.heap.size ≤ w.heap.size + 1) := Lib.hid (by first | omega | (simp only []; omega) | (simp; omega))
  clear e1 bB0_1 bB1_1
  have hS1 : w1.cell? ⟨w.heap.size, 0, none⟩ = some (.int .i16 p.n0) ∧ w1.cell? ⟨w.heap.size, 1, none⟩ = some (.int .u8 (p.d0 : Int)) ∧ w1.cell? ⟨w.heap.size, 2, none⟩ = some (.int .i16 p.n1) ∧ w1.cell? ⟨w.heap.size, 3, none⟩ = some (.int .u8 (p.d1 : Int)) ∧ w1.cell? ⟨w.heap.size, 4, none⟩ = some (.int .i16 p.n2) ∧ w1.cell? ⟨w.heap.size, 5, none⟩ = some (.int .u8 (p.d2 : Int)) := ⟨HB0_1.out.cell 0 rfl, HB0_1.out.cell 1 rfl, HB0_1.out.cell 2 rfl, HB0_1.out.cell 3 rfl, HB0_1.out.cell 4 rfl, HB0_1.out.cell 5 rfl⟩
  have HS1 := Lib.hid hS1; clear hS1
  go_region_held3 (fun w' => w'.cell? ⟨w.heap.size, 0, none⟩ = some (.int .i16 p.n0) ∧ w'.cell? ⟨w.heap.size, 1, none⟩ = some (.int .u8 (p.d0 : Int)) ∧ w'.cell? ⟨w.heap.size, 2, none⟩ = some (.int .i16 p.n1) ∧ w'.cell? ⟨w.heap.size, 3, none⟩ = some (.int .u8 (p.d1 : Int)) ∧ w'.cell? ⟨w.heap.size, 4, none⟩ = some (.int .i16 p.n2) ∧ w'.cell? ⟨w.heap.size, 5, none⟩ = some (.int .u8 (p.d2 : Int)))
    (((try simp only [cell_set_ne (show w.heap.size ≠ w.heap.size + 1 from by first | omega | (simp only []; omega) | (simp; omega))]); exact keepsH6 (by repeat (first | assumption | exact Ext.refl _ | apply Ext.drew | apply Ext.alloc | (refine Ext.setCell ?_ (by first | omega | (simp only []; omega) | (simp; omega)) _) | (refine Ext.trans ?_ (by assumption)))) HS1.out)) ((first
      | (go_at_call 24; ((with_reducible refine (mk2_c p.n0 p.d0 _ (HG.out.ext (HX1.out.trans (by repeat (first | assumption | exact Ext.refl _ | apply Ext.drew | apply Ext.alloc | (refine Ext.setCell ?_ (by first | omega | (simp only []; omega) | (simp; omega)) _) | (refine Ext.trans ?_ (by assumption)))))) HP.out.a0 HP.out.b0 HP.out.c0).mono ?_); rintro e w2 ⟨rfl, e2⟩))
      | (go_at_call 24; ((with_reducible refine (mk2_c p.n1 p.d1 _ (HG.out.ext (HX1.out.trans (by repeat (first | assumption | exact Ext.refl _ | apply Ext.drew | apply Ext.alloc | (refine Ext.setCell ?_ (by first | omega | (simp only []; omega) | (simp; omega)) _) | (refine Ext.trans ?_ (by assumption)))))) HP.out.a1 HP.out.b1 HP.out.c1).mono ?_); rintro e w3 ⟨rfl, e3⟩))
      | (go_at_call 24; ((with_reducible refine (mk2_c p.n2 p.d2 _ (HG.out.ext (HX1.out.trans (by repeat (first | assumption | exact Ext.refl _ | apply Ext.drew | apply Ext.alloc | (refine Ext.setCell ?_ (by first | omega | (simp only []; omega) | (simp; omega)) _) | (refine Ext.trans ?_ (by assumption)))))) HP.out.a2 HP.out.b2 HP.out.c2).mono ?_); rintro e w4 ⟨rfl, e4⟩; have RB1 := Blk.ext HB1_1.out (w' := w4) (by repeat (first | assumption | exact Ext.refl _ | apply Ext.drew | (refine Ext.trans ?_ (by assumption)))); have cB1_0 := RB1.cell 0 rfl; have fB1_0 := RB1.free 0; have cB1_1 := RB1.cell 1 rfl; have fB1_1 := RB1.free 1; have cB1_2 := RB1.cell 2 rfl; have fB1_2 := RB1.free 2; have HRB1 := Lib.hid RB1; clear RB1))))
  refine wp_name (fun W => Ext w W ∧ Blk W (w.heap.size + 1) #[.string (qs (sm p.n0 p.d0)), .string (qs (sm p.n1 p.d1)), .string (qs (sm p.n2 p.d2))] 30) ⟨((((HX1.out.trans (by repeat (first | assumption | exact Ext.refl _ | apply Ext.drew | apply Ext.alloc | (refine Ext.trans ?_ (by assumption))))).setCell (by have := HGEB1.out; first | omega | (simp only []; omega) | (simp; omega)) _).setCell (by have := HGEB1.out; first | omega | (simp only []; omega) | (simp; omega)) _).setCell (by have := HGEB1.out; first | omega | (simp only []; omega) | (simp; omega)) _), ((((Blk.ext HB1_1.out (by repeat (first | assumption | exact Ext.refl _ | apply Ext.drew | apply Ext.alloc | (refine Ext.trans ?_ (by assumption))))).set 0 (.string (qs (sm p.n0 p.d0)))).set 1 (.string (qs (sm p.n1 p.d1)))).set 2 (.string (qs (sm p.n2 p.d2))))⟩ ?_
  clear cB1_0 fB1_0 cB1_1 fB1_1 cB1_2 fB1_2
  rintro w5 ⟨e5, bB1_5⟩
  have HX5 := Lib.hid e5; have HB1_5 := Lib.hid bB1_5
  clear e5 bB1_5
  go_wp2_with fail
  have gB1_0 := HB1_5.out.cell 0 rfl
  have gB1_1 := HB1_5.out.cell 1 rfl
  have gB1_2 := HB1_5.out.cell 2 rfl
  refine bodyPost_ret (v := .agg #[.string (qs (sm p.n0 p.d0)), .string (qs (sm p.n1 p.d1)), .string (qs (sm p.n2 p.d2))]) (by simp [results, Tryz.results14, go_sem, gB1_0, gB1_1, gB1_2]) rfl ⟨rfl, HX5.out⟩

theorem make_c (p : Pla) (w : World) (g : Gd w) (hp : PlaOk p) : Calls Tryz.prog 14 #[plc p] w (Ret w (vv (pvec p))) := make0_c p w g hp
/-- The first number that is not 0. -/
def ferr : List Int → Int
  | [] => 0
  | x :: l => if x = 0 then ferr l else x
theorem ferr_zero {l : List Int} (h : ∀ (i : Nat) (hi : i < l.length), l[i] = 0) : ferr l = 0 := by
  induction l with
  | nil => rfl
  | cons x l ih =>
    have e : x = 0 := h 0 (by simp)
    unfold ferr; rw [if_pos e]; exact ih (fun i hi => h (i + 1) (by simpa using hi))
theorem ferr_at {l : List Int} {k : Nat} (hk : k < l.length) (h : ∀ (i : Nat) (_ : i < k) (hi : i < l.length), l[i] = 0) (hne : l[k] ≠ 0) : ferr l = l[k] := by
  induction l generalizing k with
  | nil => simp at hk
  | cons x l ih =>
    cases k with
    | zero =>
      have e : x ≠ 0 := hne
      unfold ferr; rw [if_neg e]; rfl
    | succ k =>
      have e : x = 0 := h 0 (by omega) (by simp)
      unfold ferr; rw [if_pos e]
      exact ih (by simpa using hk) (fun i hi hl => h (i + 1) (by omega) (by simpa using hl)) hne
theorem Tryz.sizeErrno (w : World) : (sizeOf 32).run Tryz.prog w = .ok 1 w := by kernel_rfl
set_option maxRecDepth 100000 in
set_option maxHeartbeats 1000000 in
theorem first_c (l : List Int) (b n cap : Nat) (w : World) (hn : l.length = n) (hn9 : n ≤ 100) (hc : ∀ (i : Nat) (hi : i < l.length), w.cell? ⟨b, i, none⟩ = some (.int .i64 l[i])) :
    Calls Tryz.prog 26 #[.slice (some ⟨b, 0, none⟩) n cap] w fun e w' => e = .returned (.int .i64 (ferr l)) ∧ w = w' := by
  have HC := Lib.hid hc; have HN := Lib.hid hn
  clear hc hn
  go_enter Tryz.func26, Tryz.ntmps26
  go_wp2
  go_loop [3] (fun x => ∃ k : Nat, x = .int .i64 k ∧ k ≤ n ∧ Hid (∀ (i : Nat) (_ : i < k) (hi : i < l.length), l[i] = 0)) (fun x => n - (intOf x).toNat)
  case atStart => exact ⟨0, rfl, by omega, Lib.hid (fun i h => by omega)⟩
  case round =>
    obtain ⟨k, rfl, hk, HR⟩ := hrel
    by_cases hkn : k < n
    · have hks : k < l.length := by have := HN.out; omega
      obtain ⟨v, hv⟩ : ∃ v, v = l[k] := ⟨_, rfl⟩
      have c1 : w.cell? ⟨b, k, none⟩ = some (.int .i64 v) := by rw [hv]; exact HC.out k hks
      have hix := run_index 53 32 rfl Tryz.sizeErrno (ad := some ⟨b, 0, none⟩) (n := n) (cap := cap) (fun _ => rfl) k hkn
      have HV := Lib.hid hv
      clear hv
      by_cases h0 : v = 0
      · have HV0 : Hid (l[k] = 0) := Lib.hid (by rw [← HV.out]; exact h0)
        have t1 : (v != 0) = false := by simp [h0]
        clear h0
        go_wp2
        go_round
        case rel => exact ⟨k + 1, by go_num, by omega, Lib.hid (fun i h hi => by
          by_cases e : i = k
          · subst e; exact HV0.out
          · exact HR.out i (by omega) hi)⟩
        case measure => simp [intOf]; omega
      · have HV0 : Hid (l[k] ≠ 0) := Lib.hid (by rw [← HV.out]; exact h0)
        have t1 : (v != 0) = true := by simp [h0]
        go_wp2
        go_ret
        exact ⟨by rw [ferr_at hks (fun i h hi => HR.out i h hi) HV0.out, ← HV.out]; rfl, rfl⟩
    · obtain rfl : k = n := by omega
      go_wp2
      go_ret
      exact ⟨by rw [ferr_zero (fun i hi => HR.out i (by have := HN.out; omega) hi)]; rfl, rfl⟩
theorem first7_c (x0 x1 x2 x3 x4 x5 x6 : Int) (kb : Nat) (w : World) (hB : Blk w kb #[.int .i64 x0, .int .i64 x1, .int .i64 x2, .int .i64 x3, .int .i64 x4, .int .i64 x5, .int .i64 x6] 32) : Calls Tryz.prog 26 #[.slice (some ⟨kb, 0, none⟩) 7 7] w fun e w' => e = .returned (.int .i64 (ferr [x0, x1, x2, x3, x4, x5, x6])) ∧ w = w' :=
  first_c [x0, x1, x2, x3, x4, x5, x6] kb 7 7 w rfl (by decide) (fun i hi => match i, hi with | 0, _ => hB.cell 0 rfl | 1, _ => hB.cell 1 rfl | 2, _ => hB.cell 2 rfl | 3, _ => hB.cell 3 rfl | 4, _ => hB.cell 4 rfl | 5, _ => hB.cell 5 rfl | 6, _ => hB.cell 6 rfl)

theorem sadd_x (a b : V3) {k m : Nat} (w : World) (g : Gd w) (ha : VB k a) (hb : VB m b) (hk : k ≤ 1000) (hm : m ≤ 1000) : Calls Tryz.prog 38 #[vv a, vv b] w (Ret w (.agg #[.string (qs (a.x + b.x)), .string (qs (a.y + b.y)), .string (qs (a.z + b.z))])) := sadd_c a b w g ha hb hk hm
theorem ssub_x (a b : V3) {k m : Nat} (w : World) (g : Gd w) (ha : VB k a) (hb : VB m b) (hk : k ≤ 900) (hm : m ≤ 900) : Calls Tryz.prog 39 #[vv a, vv b] w (Ret w (.agg #[.string (qs (a.x - b.x)), .string (qs (a.y - b.y)), .string (qs (a.z - b.z))])) := ssub_c a b w g ha hb hk hm
theorem sscale_x (a : V3) (q : Rat) {k m : Nat} (w : World) (g : Gd w) (ha : VB k a) (hq : QB m q) (hk : k ≤ 1000) (hm : m ≤ 1000) : Calls Tryz.prog 23 #[vv a, .string (qs q)] w (Ret w (.agg #[.string (qs (a.x * q)), .string (qs (a.y * q)), .string (qs (a.z * q))])) := sscale_c a q w g ha hq hk hm
theorem sdot_x (a b : V3) {k m : Nat} (w : World) (g : Gd w) (ha : VB k a) (hb : VB m b) (hk : k ≤ 700) (hm : m ≤ 700) : Calls Tryz.prog 21 #[vv a, vv b] w (Ret w (.string (qs (a.x * b.x + (a.y * b.y + a.z * b.z))))) := sdot_c a b w g ha hb hk hm
theorem scross_x (a b : V3) {k m : Nat} (w : World) (g : Gd w) (ha : VB k a) (hb : VB m b) (hk : k ≤ 500) (hm : m ≤ 500) : Calls Tryz.prog 19 #[vv a, vv b] w (Ret w (.agg #[.string (qs (a.y * b.z - a.z * b.y)), .string (qs (a.z * b.x - a.x * b.z)), .string (qs (a.x * b.y - a.y * b.x))])) :=
  scross_c a b w g (k := max k m) (ha.mono (Nat.le_max_left _ _)) (hb.mono (Nat.le_max_right _ _)) (by omega)
end Go.Proofs.YtglppcmegocphaaGreatDoor
