/- Part 29 of the proof: L9. -/
import Derived.Test.YtglppcmegocphaaGreatDoorQT1
import Derived.Test.YtglppcmegocphaaGreatDoorQT2
import Derived.Test.YtglppcmegocphaaGreatDoorQT3
import Derived.Test.YtglppcmegocphaaGreatDoorQT4
import Derived.Test.YtglppcmegocphaaGreatDoorQT5
import Derived.Test.YtglppcmegocphaaGreatDoorQT6
import Derived.Test.YtglppcmegocphaaGreatDoorQT7
import Derived.Test.YtglppcmegocphaaGreatDoorQT8
import Derived.Test.YtglppcmegocphaaGreatDoorQT9
import Derived.Test.YtglppcmegocphaaGreatDoorQT10
import Derived.Test.YtglppcmegocphaaGreatDoorQT11
import Derived.Test.YtglppcmegocphaaGreatDoorQT12
import Derived.Test.YtglppcmegocphaaGreatDoorQT13
import Derived.Test.YtglppcmegocphaaGreatDoorQT14
import Derived.Test.YtglppcmegocphaaGreatDoorQT15
import Derived.Test.YtglppcmegocphaaGreatDoorQT16
import Derived.Test.YtglppcmegocphaaGreatDoorQT17
import Derived.Test.YtglppcmegocphaaGreatDoorQT18
import Derived.Test.YtglppcmegocphaaGreatDoorQT19
import Derived.Test.YtglppcmegocphaaGreatDoorQT20
import Derived.Test.YtglppcmegocphaaGreatDoorQT21
import Derived.Test.YtglppcmegocphaaGreatDoorQT22
import Derived.Test.YtglppcmegocphaaGreatDoorQT23
import Derived.Test.YtglppcmegocphaaGreatDoorQT24
import Derived.Test.YtglppcmegocphaaGreatDoorQT25
import Derived.Test.YtglppcmegocphaaGreatDoorQT26
import Derived.Test.YtglppcmegocphaaGreatDoorQT27
import Derived.Test.YtglppcmegocphaaGreatDoorQT28
namespace Go.Proofs.YtglppcmegocphaaGreatDoor
open Go Go.RowKit
def vcr (a b : V3) : V3 := ⟨a.y * b.z - a.z * b.y, a.z * b.x - a.x * b.z, a.x * b.y - a.y * b.x⟩
theorem vcr_b {a b : V3} (ha : VB 5 a) (hb : VB 5 b) : VB 21 (vcr a b) := ⟨(ha.y.mul hb.z).sub (ha.z.mul hb.y), (ha.z.mul hb.x).sub (ha.x.mul hb.z), (ha.x.mul hb.y).sub (ha.y.mul hb.x)⟩
theorem vcr_c (a b D : V3) (w : World) (g : Gd w) (hD : vcr a b = D) (ha : VB 5 a) (hb : VB 5 b) : Calls Tryz.prog 19 #[vv a, vv b] w (Ret w (vv D)) := by
  subst hD; exact scross_x a b w g ha hb (by decide) (by decide)
theorem bne_t {a b : List UInt8} (h : (a == b) = false) : (a != b) = true := by rw [bne, h]; rfl
theorem bne_f {a b : List UInt8} (h : (a == b) = true) : (a != b) = false := by rw [bne, h]; rfl
theorem quo_b {x y z u d : Rat} (hx : QB 5 x) (hy : QB 5 y) (hz : QB 5 z) (hu : QB 5 u) (hd : QB 21 d) : QB 42 ((x * y - z * u) / d) := ((hx.mul hy).sub (hz.mul hu)).div hd (by decide)

theorem common_0 (a b D : V3) (k m U V : Rat) (w : World) (g : Gd w) (hD : vcr a b = D) (hU : (k * b.z - a.z * m) / D.x = U) (hV : (a.y * m - k * b.y) / D.x = V) (ha : VB 5 a) (hb : VB 5 b) (hk : QB 5 k) (hm : QB 5 m) (hz : ¬ (a.x = 0 ∧ a.y = 0 ∧ a.z = 0)) (hy : ¬ (b.x = 0 ∧ b.y = 0 ∧ b.z = 0))  (h0 : D.x ≠ 0) :
    Calls Tryz.prog 25 #[.agg #[.string (qs a.x), .string (qs a.y), .string (qs a.z), .string (qs k)], .agg #[.string (qs b.x), .string (qs b.y), .string (qs b.z), .string (qs m)]] w (Ret w (.tuple #[.agg #[.string ⟨#[48]⟩, .string (qs U), .string (qs V)], vv D, .int .i64 0])) := by
  subst hU; subst hV; subst hD
  exact vCommon_0 ⟨a, k⟩ ⟨b, m⟩ w g (ha.mono (by decide)) (hk.mono (by decide)) (hb.mono (by decide)) (hm.mono (by decide)) hz hy ((vcr_b ha hb).mono (by decide)) ((quo_b hk hb.z ha.z hm (vcr_b ha hb).x).mono (by decide)) ((quo_b ha.y hm hk hb.y (vcr_b ha hb).x).mono (by decide)) h0
theorem common_b0 {a b D : V3} {k m U V : Rat} (hD : vcr a b = D) (hU : (k * b.z - a.z * m) / D.x = U) (hV : (a.y * m - k * b.y) / D.x = V) (h0 : D.x ≠ 0) : dotl a ⟨0, U, V⟩ - k = 0 ∧ dotl b ⟨0, U, V⟩ - m = 0 := by
  have e1 : U * D.x = k * b.z - a.z * m := by rw [← hU]; exact Rat.div_mul_cancel h0
  have e2 : V * D.x = a.y * m - k * b.y := by rw [← hV]; exact Rat.div_mul_cancel h0
  have e3 : D.x = a.y * b.z - a.z * b.y := by rw [← hD]; rfl
  unfold dotl
  constructor
  · have : (a.x * 0 + a.y * U + a.z * V - k) * D.x = 0 := by grind
    exact (Rat.mul_eq_zero.1 this).resolve_right h0
  · have : (b.x * 0 + b.y * U + b.z * V - m) * D.x = 0 := by grind
    exact (Rat.mul_eq_zero.1 this).resolve_right h0
theorem place_0 (n : V3) (k U V : Rat) (w : World) (g : Gd w) (hB : dotl n ⟨0, U, V⟩ - k = 0) (hn : VB 5 n) (hk : QB 5 k) (hU : QB 42 U) (hV : QB 42 V) :
    Calls Tryz.prog 28 #[.agg #[.string (qs n.x), .string (qs n.y), .string (qs n.z), .string (qs k)], .agg #[.string ⟨#[48]⟩, .string (qs U), .string (qs V)]] w (Ret w (.string ⟨#[48]⟩)) := by
  have z : QB 42 0 := (⟨by decide, by decide⟩ : QB 1 0).mono (by decide)
  have h : Calls Tryz.prog 28 #[.agg #[.string (qs n.x), .string (qs n.y), .string (qs n.z), .string (qs k)], .agg #[.string (qs 0), .string (qs U), .string (qs V)]] w (Ret w (.string ⟨#[48]⟩)) := beyond_0 n ⟨0, U, V⟩ k w g hB hn hk (⟨z, hU, hV⟩ : VB 42 _) (by decide) (by decide)
  rwa [qs_zero] at h

theorem common_1 (a b D : V3) (k m U V : Rat) (w : World) (g : Gd w) (hD : vcr a b = D) (hU : (k * b.x - a.x * m) / D.y = U) (hV : (a.z * m - k * b.z) / D.y = V) (ha : VB 5 a) (hb : VB 5 b) (hk : QB 5 k) (hm : QB 5 m) (hz : ¬ (a.x = 0 ∧ a.y = 0 ∧ a.z = 0)) (hy : ¬ (b.x = 0 ∧ b.y = 0 ∧ b.z = 0)) (h0 : D.x = 0) (h1 : D.y ≠ 0) :
    Calls Tryz.prog 25 #[.agg #[.string (qs a.x), .string (qs a.y), .string (qs a.z), .string (qs k)], .agg #[.string (qs b.x), .string (qs b.y), .string (qs b.z), .string (qs m)]] w (Ret w (.tuple #[.agg #[.string (qs V), .string ⟨#[48]⟩, .string (qs U)], vv D, .int .i64 0])) := by
  subst hU; subst hV; subst hD
  exact vCommon_1 ⟨a, k⟩ ⟨b, m⟩ w g (ha.mono (by decide)) (hk.mono (by decide)) (hb.mono (by decide)) (hm.mono (by decide)) hz hy ((vcr_b ha hb).mono (by decide)) ((quo_b hk hb.x ha.x hm (vcr_b ha hb).y).mono (by decide)) ((quo_b ha.z hm hk hb.z (vcr_b ha hb).y).mono (by decide)) h0 h1
theorem common_b1 {a b D : V3} {k m U V : Rat} (hD : vcr a b = D) (hU : (k * b.x - a.x * m) / D.y = U) (hV : (a.z * m - k * b.z) / D.y = V) (h0 : D.y ≠ 0) : dotl a ⟨V, 0, U⟩ - k = 0 ∧ dotl b ⟨V, 0, U⟩ - m = 0 := by
  have e1 : U * D.y = k * b.x - a.x * m := by rw [← hU]; exact Rat.div_mul_cancel h0
  have e2 : V * D.y = a.z * m - k * b.z := by rw [← hV]; exact Rat.div_mul_cancel h0
  have e3 : D.y = a.z * b.x - a.x * b.z := by rw [← hD]; rfl
  unfold dotl
  constructor
  · have : (a.x * V + a.y * 0 + a.z * U - k) * D.y = 0 := by grind
    exact (Rat.mul_eq_zero.1 this).resolve_right h0
  · have : (b.x * V + b.y * 0 + b.z * U - m) * D.y = 0 := by grind
    exact (Rat.mul_eq_zero.1 this).resolve_right h0
theorem place_1 (n : V3) (k U V : Rat) (w : World) (g : Gd w) (hB : dotl n ⟨V, 0, U⟩ - k = 0) (hn : VB 5 n) (hk : QB 5 k) (hU : QB 42 U) (hV : QB 42 V) :
    Calls Tryz.prog 28 #[.agg #[.string (qs n.x), .string (qs n.y), .string (qs n.z), .string (qs k)], .agg #[.string (qs V), .string ⟨#[48]⟩, .string (qs U)]] w (Ret w (.string ⟨#[48]⟩)) := by
  have z : QB 42 0 := (⟨by decide, by decide⟩ : QB 1 0).mono (by decide)
  have h : Calls Tryz.prog 28 #[.agg #[.string (qs n.x), .string (qs n.y), .string (qs n.z), .string (qs k)], .agg #[.string (qs V), .string (qs 0), .string (qs U)]] w (Ret w (.string ⟨#[48]⟩)) := beyond_0 n ⟨V, 0, U⟩ k w g hB hn hk (⟨hV, z, hU⟩ : VB 42 _) (by decide) (by decide)
  rwa [qs_zero] at h

theorem common_2 (a b D : V3) (k m U V : Rat) (w : World) (g : Gd w) (hD : vcr a b = D) (hU : (k * b.y - a.y * m) / D.z = U) (hV : (a.x * m - k * b.x) / D.z = V) (ha : VB 5 a) (hb : VB 5 b) (hk : QB 5 k) (hm : QB 5 m) (hz : ¬ (a.x = 0 ∧ a.y = 0 ∧ a.z = 0)) (hy : ¬ (b.x = 0 ∧ b.y = 0 ∧ b.z = 0)) (h0 : D.x = 0) (h1 : D.y = 0) (h2 : D.z ≠ 0) :
    Calls Tryz.prog 25 #[.agg #[.string (qs a.x), .string (qs a.y), .string (qs a.z), .string (qs k)], .agg #[.string (qs b.x), .string (qs b.y), .string (qs b.z), .string (qs m)]] w (Ret w (.tuple #[.agg #[.string (qs U), .string (qs V), .string ⟨#[48]⟩], vv D, .int .i64 0])) := by
  subst hU; subst hV; subst hD
  exact vCommon_2 ⟨a, k⟩ ⟨b, m⟩ w g (ha.mono (by decide)) (hk.mono (by decide)) (hb.mono (by decide)) (hm.mono (by decide)) hz hy ((vcr_b ha hb).mono (by decide)) ((quo_b hk hb.y ha.y hm (vcr_b ha hb).z).mono (by decide)) ((quo_b ha.x hm hk hb.x (vcr_b ha hb).z).mono (by decide)) h0 h1 h2
theorem common_b2 {a b D : V3} {k m U V : Rat} (hD : vcr a b = D) (hU : (k * b.y - a.y * m) / D.z = U) (hV : (a.x * m - k * b.x) / D.z = V) (h0 : D.z ≠ 0) : dotl a ⟨U, V, 0⟩ - k = 0 ∧ dotl b ⟨U, V, 0⟩ - m = 0 := by
  have e1 : U * D.z = k * b.y - a.y * m := by rw [← hU]; exact Rat.div_mul_cancel h0
  have e2 : V * D.z = a.x * m - k * b.x := by rw [← hV]; exact Rat.div_mul_cancel h0
  have e3 : D.z = a.x * b.y - a.y * b.x := by rw [← hD]; rfl
  unfold dotl
  constructor
  · have : (a.x * U + a.y * V + a.z * 0 - k) * D.z = 0 := by grind
    exact (Rat.mul_eq_zero.1 this).resolve_right h0
  · have : (b.x * U + b.y * V + b.z * 0 - m) * D.z = 0 := by grind
    exact (Rat.mul_eq_zero.1 this).resolve_right h0
theorem place_2 (n : V3) (k U V : Rat) (w : World) (g : Gd w) (hB : dotl n ⟨U, V, 0⟩ - k = 0) (hn : VB 5 n) (hk : QB 5 k) (hU : QB 42 U) (hV : QB 42 V) :
    Calls Tryz.prog 28 #[.agg #[.string (qs n.x), .string (qs n.y), .string (qs n.z), .string (qs k)], .agg #[.string (qs U), .string (qs V), .string ⟨#[48]⟩]] w (Ret w (.string ⟨#[48]⟩)) := by
  have z : QB 42 0 := (⟨by decide, by decide⟩ : QB 1 0).mono (by decide)
  have h : Calls Tryz.prog 28 #[.agg #[.string (qs n.x), .string (qs n.y), .string (qs n.z), .string (qs k)], .agg #[.string (qs U), .string (qs V), .string (qs 0)]] w (Ret w (.string ⟨#[48]⟩)) := beyond_0 n ⟨U, V, 0⟩ k w g hB hn hk (⟨hU, hV, z⟩ : VB 42 _) (by decide) (by decide)
  rwa [qs_zero] at h

set_option maxRecDepth 100000 in
set_option maxHeartbeats 16000000 in
theorem common_walk_pz (p q : Pla) (n : Int) (d : Nat) (l : Int) (e : Nat) (w : World) (g : Gd w) (hp : PlaOk p) (hq : PlaOk q) (hn : -32768 ≤ n ∧ n ≤ 32767 ∧ d ≤ 255) (hl : -32768 ≤ l ∧ l ≤ 32767 ∧ e ≤ 255) (hz : (pvec p).x = 0 ∧ (pvec p).y = 0 ∧ (pvec p).z = 0) (hy : (pvec q).x = 0 ∧ (pvec q).y = 0 ∧ (pvec q).z = 0) : Calls Tryz.prog 4 #[.agg #[.int .i16 p.n0, .int .u8 (p.d0 : Int), .int .i16 p.n1, .int .u8 (p.d1 : Int), .int .i16 p.n2, .int .u8 (p.d2 : Int), .int .i16 q.n0, .int .u8 (q.d0 : Int), .int .i16 q.n1, .int .u8 (q.d1 : Int), .int .i16 q.n2, .int .u8 (q.d2 : Int)], .agg #[.int .i16 n, .int .u8 (d : Int), .int .i16 l, .int .u8 (e : Int)]] w (Ret w (.bool true)) := by
  have Hp := Lib.hid hp
  have Hq := Lib.hid hq
  have HG := Lib.hid g
  clear hp hq g
  have HZ0 := Lib.hid hz; have HY0 := Lib.hid hy; clear hz hy
  obtain ⟨a, ea⟩ : ∃ a, pvec p = a := ⟨_, rfl⟩
  have HaE := Lib.hid ea; have Ha : Hid (VB 5 a) := Lib.hid (ea ▸ Hp.out.v); clear ea
  obtain ⟨b, eb⟩ : ∃ b, pvec q = b := ⟨_, rfl⟩
  have HbE := Lib.hid eb; have Hb : Hid (VB 5 b) := Lib.hid (eb ▸ Hq.out.v); clear eb
  have Hk0 := Lib.hid hn; clear hn
  obtain ⟨k, ek⟩ : ∃ k, sm n d = k := ⟨_, rfl⟩
  have HkE := Lib.hid ek; have Hk : Hid (QB 5 k) := Lib.hid (ek ▸ sm_qb Hk0.out.1 Hk0.out.2.1 Hk0.out.2.2); clear ek
  have Hm0 := Lib.hid hl; clear hl
  obtain ⟨m, em⟩ : ∃ m, sm l e = m := ⟨_, rfl⟩
  have HmE := Lib.hid em; have Hm : Hid (QB 5 m) := Lib.hid (em ▸ sm_qb Hm0.out.1 Hm0.out.2.1 Hm0.out.2.2); clear em
  obtain ⟨D, eD⟩ : ∃ D, vcr a b = D := ⟨_, rfl⟩
  have HDE := Lib.hid eD; have HD : Hid (VB 21 D) := Lib.hid (eD ▸ vcr_b Ha.out Hb.out); clear eD
  have HZ : Hid ((a.x = 0 ∧ a.y = 0 ∧ a.z = 0)) := Lib.hid (HaE.out ▸ HZ0.out)
  have HY : Hid ((b.x = 0 ∧ b.y = 0 ∧ b.z = 0)) := Lib.hid (HbE.out ▸ HY0.out)
  go_enter Tryz.func4, Tryz.ntmps4
  go_wp2_with fail
  refine (known_c _ (HG.out.ext (((Ext.refl w).alloc _).alloc _))).mono ?_; rintro e w1 ⟨rfl, e1⟩
  have HX1 : Hid (Ext w w1) := Lib.hid ((((Ext.refl w).alloc _).alloc _).trans e1)
  have HB0_1 : Hid (Blk w1 (w.heap.size) #[.int .i16 p.n0, .int .u8 (p.d0 : Int), .int .i16 p.n1, .int .u8 (p.d1 : Int), .int .i16 p.n2, .int .u8 (p.d2 : Int), .int .i16 q.n0, .int .u8 (q.d0 : Int), .int .i16 q.n1, .int .u8 (q.d1 : Int), .int .i16 q.n2, .int .u8 (q.d2 : Int)] 44) := Lib.hid (Blk.ext ((Blk.new' (w := _) (cs := #[.int .i16 p.n0, .int .u8 (p.d0 : Int), .int .i16 p.n1, .int .u8 (p.d1 : Int), .int .i16 p.n2, .int .u8 (p.d2 : Int), .int .i16 q.n0, .int .u8 (q.d0 : Int), .int .i16 q.n1, .int .u8 (q.d1 : Int), .int .i16 q.n2, .int .u8 (q.d2 : Int)]) (t := 44) (by first | rfl | (simp only [World.size_alloc]; done) | (simp only [World.size_alloc]; omega) | simp)).alloc _) e1)
  have HB1_1 : Hid (Blk w1 (w.heap.size + 1) #[.int .i16 n, .int .u8 (d : Int), .int .i16 l, .int .u8 (e : Int)] 45) := Lib.hid (Blk.ext (Blk.new' (w := _) (cs := #[.int .i16 n, .int .u8 (d : Int), .int .i16 l, .int .u8 (e : Int)]) (t := 45) (by first | rfl | (simp only [World.size_alloc]; done) | (simp only [World.size_alloc]; omega) | simp)) e1)
  have HGEB0 : Hid (w.heap.size ≤ w.heap.size) := Lib.hid (by first | omega | (simp only []; omega) | (simp; omega))
  have HGEB1 : Hid (w.heap.size ≤ w.heap.size + 1) := Lib.hid (by first | omega | (simp only []; omega) | (simp; omega))
  clear e1
  go_wp2_with fail
  refine wp_name (fun W => Ext w W ∧ Blk W (w.heap.size) #[.int .i16 p.n0, .int .u8 (p.d0 : Int), .int .i16 p.n1, .int .u8 (p.d1 : Int), .int .i16 p.n2, .int .u8 (p.d2 : Int), .int .i16 q.n0, .int .u8 (q.d0 : Int), .int .i16 q.n1, .int .u8 (q.d1 : Int), .int .i16 q.n2, .int .u8 (q.d2 : Int)] 44 ∧ Blk W (w.heap.size + 1) #[.int .i16 n, .int .u8 (d : Int), .int .i16 l, .int .u8 (e : Int)] 45) ⟨HX1.out, HB0_1.out, HB1_1.out⟩ ?_
  rintro w2 ⟨e2, bB0_2, bB1_2⟩
  have HX2 := Lib.hid e2; have HB0_2 := Lib.hid bB0_2; have HB1_2 := Lib.hid bB1_2
  clear e2 bB0_2 bB1_2
  refine region_lin [.val (.pointer (some ⟨w.heap.size, 0, none⟩)), .val (.agg #[.int .i16 p.n0, .int .u8 (p.d0 : Int), .int .i16 p.n1, .int .u8 (p.d1 : Int), .int .i16 p.n2, .int .u8 (p.d2 : Int)]), .val (.agg #[.string (qs a.x), .string (qs a.y), .string (qs a.z)]), .val (.pointer (some ⟨w.heap.size + 1, 0, none⟩)), .val (.agg #[.int .i16 n, .int .u8 (d : Int)]), .val (.string (qs k)), .val (.agg #[.string (qs a.x), .string (qs a.y), .string (qs a.z), .string (qs k)]), .val (.pointer (some ⟨w.heap.size, 6, none⟩)), .val (.agg #[.int .i16 q.n0, .int .u8 (q.d0 : Int), .int .i16 q.n1, .int .u8 (q.d1 : Int), .int .i16 q.n2, .int .u8 (q.d2 : Int)]), .val (.agg #[.string (qs b.x), .string (qs b.y), .string (qs b.z)]), .val (.pointer (some ⟨w.heap.size + 1, 2, none⟩)), .val (.agg #[.int .i16 l, .int .u8 (e : Int)]), .val (.string (qs m)), .val (.agg #[.string (qs b.x), .string (qs b.y), .string (qs b.z), .string (qs m)]), .mem (fun b_ => .pointer (some ⟨b_, 0, none⟩)) #[.string ⟨#[]⟩, .string ⟨#[]⟩, .string ⟨#[]⟩, .string ⟨#[]⟩] 48 (Option.some 16), .mem (fun b_ => .pointer (some ⟨b_, 0, none⟩)) #[.string ⟨#[]⟩, .string ⟨#[]⟩, .string ⟨#[]⟩, .string ⟨#[]⟩] 48 (Option.some 17), .put 14 #[.string (qs a.x), .string (qs a.y), .string (qs a.z), .string (qs k)], .put 15 #[.string (qs b.x), .string (qs b.y), .string (qs b.z), .string (qs m)]] (by kernel_rfl) (by kernel_rfl) (by kernel_rfl) ?_ (fun g2 w3 hx_ hm_ hne_ => ?_)
  · skip
    refine RnL.cons (fun g2 A_ W_ hs_ => ?_) ?_
    · have q2_ := (hs_.old 2 (by kernel_rfl) : A_.tmps[2]?.getD undef = .pointer (some ⟨w.heap.size, 0, none⟩))
      refine Rn.val fun K_ hK_ => ?_
      go_simp
      exact hK_.out _ (Ext.refl _)
    refine RnL.cons (fun g2 A_ W_ hs_ => ?_) ?_
    · have q14_ := hs_.val 0 rfl rfl rfl
      have cB0_0 := (HB0_2.out.drew.ext hs_.1).cell 0 rfl
      have cB0_1 := (HB0_2.out.drew.ext hs_.1).cell 1 rfl
      have cB0_2 := (HB0_2.out.drew.ext hs_.1).cell 2 rfl
      have cB0_3 := (HB0_2.out.drew.ext hs_.1).cell 3 rfl
      have cB0_4 := (HB0_2.out.drew.ext hs_.1).cell 4 rfl
      have cB0_5 := (HB0_2.out.drew.ext hs_.1).cell 5 rfl
      refine Rn.val fun K_ hK_ => ?_
      go_simp
      exact hK_.out _ (Ext.refl _)
    refine RnL.cons (fun g2 A_ W_ hs_ => ?_) ?_
    · have q15_ := hs_.val 1 rfl rfl rfl
      refine Rn.val fun K_ hK_ => ?_
      go_simp
      refine ((HaE.out ▸ make_c p _ (HG.out.ext (HX2.out.drew.trans hs_.1)) Hp.out)).mono ?_; rintro e W9_ ⟨rfl, e9_⟩; exact hK_.out _ e9_
    refine RnL.cons (fun g2 A_ W_ hs_ => ?_) ?_
    · have q3_ := (hs_.old 3 (by kernel_rfl) : A_.tmps[3]?.getD undef = .pointer (some ⟨w.heap.size + 1, 0, none⟩))
      refine Rn.val fun K_ hK_ => ?_
      go_simp
      exact hK_.out _ (Ext.refl _)
    refine RnL.cons (fun g2 A_ W_ hs_ => ?_) ?_
    · have q17_ := hs_.val 3 rfl rfl rfl
      have cB1_0 := (HB1_2.out.drew.ext hs_.1).cell 0 rfl
      have cB1_1 := (HB1_2.out.drew.ext hs_.1).cell 1 rfl
      refine Rn.val fun K_ hK_ => ?_
      go_simp
      exact hK_.out _ (Ext.refl _)
    refine RnL.cons (fun g2 A_ W_ hs_ => ?_) ?_
    · have q18_ := hs_.val 4 rfl rfl rfl
      refine Rn.val fun K_ hK_ => ?_
      go_simp
      refine ((HkE.out ▸ mk2_c n d _ (HG.out.ext (HX2.out.drew.trans hs_.1)) Hk0.out.1 Hk0.out.2.1 Hk0.out.2.2)).mono ?_; rintro e W9_ ⟨rfl, e9_⟩; exact hK_.out _ e9_
    refine RnL.cons (fun g2 A_ W_ hs_ => ?_) ?_
    · have q16_ := hs_.val 2 rfl rfl rfl
      have q19_ := hs_.val 5 rfl rfl rfl
      refine Rn.val fun K_ hK_ => ?_
      go_simp
      exact hK_.out _ (Ext.refl _)
    refine RnL.cons (fun g2 A_ W_ hs_ => ?_) ?_
    · have q2_ := (hs_.old 2 (by kernel_rfl) : A_.tmps[2]?.getD undef = .pointer (some ⟨w.heap.size, 0, none⟩))
      refine Rn.val fun K_ hK_ => ?_
      go_simp
      exact hK_.out _ (Ext.refl _)
    refine RnL.cons (fun g2 A_ W_ hs_ => ?_) ?_
    · have q21_ := hs_.val 7 rfl rfl rfl
      have cB0_6 := (HB0_2.out.drew.ext hs_.1).cell 6 rfl
      have cB0_7 := (HB0_2.out.drew.ext hs_.1).cell 7 rfl
      have cB0_8 := (HB0_2.out.drew.ext hs_.1).cell 8 rfl
      have cB0_9 := (HB0_2.out.drew.ext hs_.1).cell 9 rfl
      have cB0_10 := (HB0_2.out.drew.ext hs_.1).cell 10 rfl
      have cB0_11 := (HB0_2.out.drew.ext hs_.1).cell 11 rfl
      refine Rn.val fun K_ hK_ => ?_
      go_simp
      exact hK_.out _ (Ext.refl _)
    refine RnL.cons (fun g2 A_ W_ hs_ => ?_) ?_
    · have q22_ := hs_.val 8 rfl rfl rfl
      refine Rn.val fun K_ hK_ => ?_
      go_simp
      refine ((HbE.out ▸ make_c q _ (HG.out.ext (HX2.out.drew.trans hs_.1)) Hq.out)).mono ?_; rintro e W9_ ⟨rfl, e9_⟩; exact hK_.out _ e9_
    refine RnL.cons (fun g2 A_ W_ hs_ => ?_) ?_
    · have q3_ := (hs_.old 3 (by kernel_rfl) : A_.tmps[3]?.getD undef = .pointer (some ⟨w.heap.size + 1, 0, none⟩))
      refine Rn.val fun K_ hK_ => ?_
      go_simp
      exact hK_.out _ (Ext.refl _)
    refine RnL.cons (fun g2 A_ W_ hs_ => ?_) ?_
    · have q24_ := hs_.val 10 rfl rfl rfl
      have cB1_2 := (HB1_2.out.drew.ext hs_.1).cell 2 rfl
      have cB1_3 := (HB1_2.out.drew.ext hs_.1).cell 3 rfl
      refine Rn.val fun K_ hK_ => ?_
      go_simp
      exact hK_.out _ (Ext.refl _)
    refine RnL.cons (fun g2 A_ W_ hs_ => ?_) ?_
    · have q25_ := hs_.val 11 rfl rfl rfl
      refine Rn.val fun K_ hK_ => ?_
      go_simp
      refine ((HmE.out ▸ mk2_c l e _ (HG.out.ext (HX2.out.drew.trans hs_.1)) Hm0.out.1 Hm0.out.2.1 Hm0.out.2.2)).mono ?_; rintro e W9_ ⟨rfl, e9_⟩; exact hK_.out _ e9_
    refine RnL.cons (fun g2 A_ W_ hs_ => ?_) ?_
    · have q23_ := hs_.val 9 rfl rfl rfl
      have q26_ := hs_.val 12 rfl rfl rfl
      refine Rn.val fun K_ hK_ => ?_
      go_simp
      exact hK_.out _ (Ext.refl _)
    refine RnL.cons (fun g2 A_ W_ hs_ => ?_) ?_
    · refine Rn.mem fun K_ hK_ => ?_
      go_simp
      exact hK_.out
    refine RnL.cons (fun g2 A_ W_ hs_ => ?_) ?_
    · refine Rn.mem fun K_ hK_ => ?_
      go_simp
      exact hK_.out
    refine RnL.cons (fun g2 A_ W_ hs_ => ?_) ?_
    · have q5_ := (hs_.mem 14 rfl rfl rfl).1
      have q20_ := hs_.val 6 rfl rfl rfl
      refine Rn.put (z := #[.string ⟨#[]⟩, .string ⟨#[]⟩, .string ⟨#[]⟩, .string ⟨#[]⟩]) (t := 48) rfl fun hB K_ hK_ => ?_
      have c_0 := hB.cell 0 rfl; have f_0 := hB.free 0
      have c_1 := hB.cell 1 rfl; have f_1 := hB.free 1
      have c_2 := hB.cell 2 rfl; have f_2 := hB.free 2
      have c_3 := hB.cell 3 rfl; have f_3 := hB.free 3
      have HB := Lib.hid hB; clear hB
      go_simp
      exact hK_.out _ (((((Only.refl _ _).set 0 _).set 1 _).set 2 _).set 3 _) ((((HB.out.set 0 _).set 1 _).set 2 _).set 3 _)
    refine RnL.cons (fun g2 A_ W_ hs_ => ?_) ?_
    · have q6_ := (hs_.mem 15 rfl rfl rfl).1
      have q27_ := hs_.val 13 rfl rfl rfl
      refine Rn.put (z := #[.string ⟨#[]⟩, .string ⟨#[]⟩, .string ⟨#[]⟩, .string ⟨#[]⟩]) (t := 48) rfl fun hB K_ hK_ => ?_
      have c_0 := hB.cell 0 rfl; have f_0 := hB.free 0
      have c_1 := hB.cell 1 rfl; have f_1 := hB.free 1
      have c_2 := hB.cell 2 rfl; have f_2 := hB.free 2
      have c_3 := hB.cell 3 rfl; have f_3 := hB.free 3
      have HB := Lib.hid hB; clear hB
      go_simp
      exact hK_.out _ (((((Only.refl _ _).set 0 _).set 1 _).set 2 _).set 3 _) ((((HB.out.set 0 _).set 1 _).set 2 _).set 3 _)
    exact RnL.nil
  simp only [fs, Kd.value, puts, Act.put, List.setIfInBounds_toArray, List.set_cons_zero, List.set_cons_succ, Nat.reduceAdd]
  have HX3 : Hid (Ext w w3) := Lib.hid (HX2.out.drew.trans hx_)
  have HB2_3 : Hid (Blk w3 (g2 14) #[.string (qs a.x), .string (qs a.y), .string (qs a.z), .string (qs k)] 48) := Lib.hid (hm_ 14 _ _ _ _ rfl).2; have HGEB2 : Hid (w.heap.size ≤ g2 14) := Lib.hid (Nat.le_trans HX2.out.size (hm_ 14 _ _ _ _ rfl).1)
  have HB3_3 : Hid (Blk w3 (g2 15) #[.string (qs b.x), .string (qs b.y), .string (qs b.z), .string (qs m)] 48) := Lib.hid (hm_ 15 _ _ _ _ rfl).2; have HGEB3 : Hid (w.heap.size ≤ g2 15) := Lib.hid (Nat.le_trans HX2.out.size (hm_ 15 _ _ _ _ rfl).1)
  have HNEB2B3 : Hid (g2 14 ≠ g2 15) := Lib.hid (hne_ 14 15 (by decide) ⟨_, _, _, _, rfl⟩ ⟨_, _, _, _, rfl⟩)
  clear hx_ hm_ hne_
  generalize g2 14 = i2 at *
  generalize g2 15 = i3 at *
  clear g2
  have c2_0 := HB2_3.out.cell 0 rfl
  have c2_1 := HB2_3.out.cell 1 rfl
  have c2_2 := HB2_3.out.cell 2 rfl
  have c2_3 := HB2_3.out.cell 3 rfl
  have c3_0 := HB3_3.out.cell 0 rfl
  have c3_1 := HB3_3.out.cell 1 rfl
  have c3_2 := HB3_3.out.cell 2 rfl
  have c3_3 := HB3_3.out.cell 3 rfl
  go_wp2_with fail
  refine (vCommon_p ⟨a, k⟩ ⟨b, m⟩ _ (HG.out.ext HX3.out) (Ha.out.mono (by decide)) (Hk.out.mono (by decide)) (Hb.out.mono (by decide)) (Hm.out.mono (by decide)) HZ.out).mono ?_; rintro e w4 ⟨rfl, e4⟩
  have HX4 : Hid (Ext w w4) := Lib.hid (HX3.out.trans e4)
  have HB2_4 := Lib.hid (Blk.ext HB2_3.out e4)
  have HB3_4 := Lib.hid (Blk.ext HB3_3.out e4)
  clear e4 c2_0 c2_1 c2_2 c2_3 c3_0 c3_1 c3_2 c3_3
  go_wp2_with fail
  refine wp_name (fun W => Ext w W ∧ Blk W (i2) #[.string (qs a.x), .string (qs a.y), .string (qs a.z), .string (qs k)] 48 ∧ Blk W (i3) #[.string (qs b.x), .string (qs b.y), .string (qs b.z), .string (qs m)] 48 ∧ Blk W (w4.heap.size) #[.string ⟨#[]⟩, .string ⟨#[]⟩, .string ⟨#[]⟩] 30 ∧ Blk W (w4.heap.size + 1) #[.string ⟨#[]⟩, .string ⟨#[]⟩, .string ⟨#[]⟩] 30) ⟨((HX4.out.alloc _).alloc _), ((HB2_4.out.alloc _).alloc _), ((HB3_4.out.alloc _).alloc _), ((Blk.new' (w := _) (cs := #[.string ⟨#[]⟩, .string ⟨#[]⟩, .string ⟨#[]⟩]) (t := 30) (by first | rfl | (simp only [World.size_alloc]; done) | (simp only [World.size_alloc]; omega) | simp)).alloc _), (Blk.new' (w := _) (cs := #[.string ⟨#[]⟩, .string ⟨#[]⟩, .string ⟨#[]⟩]) (t := 30) (by first | rfl | (simp only [World.size_alloc]; done) | (simp only [World.size_alloc]; omega) | simp))⟩ ?_
  rintro w5 ⟨e5, bB2_5, bB3_5, bB4_5, bB5_5⟩
  have HX5 := Lib.hid e5; have HB2_5 := Lib.hid bB2_5; have HB3_5 := Lib.hid bB3_5; have HB4_5 := Lib.hid bB4_5; have HB5_5 := Lib.hid bB5_5
  have HGEB4 : Hid (w.heap.size ≤ w4.heap.size) := Lib.hid (by have := HX4.out.size; first | omega | (simp only []; omega) | (simp; omega))
  have HGEB5 : Hid (w.heap.size ≤ w4.heap.size + 1) := Lib.hid (by have := HX4.out.size; first | omega | (simp only []; omega) | (simp; omega))
  clear e5 bB2_5 bB3_5 bB4_5 bB5_5
  refine region_lin [.val (.agg #[.string (qs a.x), .string (qs a.y), .string (qs a.z), .string (qs k)]), .val (.int .i64 17), .val (.agg #[.string (qs b.x), .string (qs b.y), .string (qs b.z), .string (qs m)]), .val (.int .i64 17), .mem (fun b_ => .slice (some ⟨b_, 0, none⟩) 2 2) #[.int .i64 17, .int .i64 17] 32 Option.none, .val (.int .i64 17), .val (.int .i64 17)] (by kernel_rfl) (by kernel_rfl) (by kernel_rfl) ?_ (fun g5 w6 hx_ hm_ hne_ => ?_)
  · skip
    refine RnL.cons (fun g5 A_ W_ hs_ => ?_) ?_
    · have q5_ := (hs_.old 5 (by kernel_rfl) : A_.tmps[5]?.getD undef = .pointer (some ⟨i2, 0, none⟩))
      have cB2_0 := (HB2_5.out.drew.ext hs_.1).cell 0 rfl
      have cB2_1 := (HB2_5.out.drew.ext hs_.1).cell 1 rfl
      have cB2_2 := (HB2_5.out.drew.ext hs_.1).cell 2 rfl
      have cB2_3 := (HB2_5.out.drew.ext hs_.1).cell 3 rfl
      refine Rn.val fun K_ hK_ => ?_
      go_simp
      exact hK_.out _ (Ext.refl _)
    refine RnL.cons (fun g5 A_ W_ hs_ => ?_) ?_
    · have q35_ := hs_.val 0 rfl rfl rfl
      refine Rn.val fun K_ hK_ => ?_
      go_simp
      refine (scp_z ⟨a, k⟩ _ (HG.out.ext (HX5.out.drew.trans hs_.1)) (Ha.out.mono (by decide)) (Hk.out.mono (by decide)) HZ.out).mono ?_; rintro e W9_ ⟨rfl, e9_⟩; exact hK_.out _ e9_
    refine RnL.cons (fun g5 A_ W_ hs_ => ?_) ?_
    · have q6_ := (hs_.old 6 (by kernel_rfl) : A_.tmps[6]?.getD undef = .pointer (some ⟨i3, 0, none⟩))
      have cB3_0 := (HB3_5.out.drew.ext hs_.1).cell 0 rfl
      have cB3_1 := (HB3_5.out.drew.ext hs_.1).cell 1 rfl
      have cB3_2 := (HB3_5.out.drew.ext hs_.1).cell 2 rfl
      have cB3_3 := (HB3_5.out.drew.ext hs_.1).cell 3 rfl
      refine Rn.val fun K_ hK_ => ?_
      go_simp
      exact hK_.out _ (Ext.refl _)
    refine RnL.cons (fun g5 A_ W_ hs_ => ?_) ?_
    · have q37_ := hs_.val 2 rfl rfl rfl
      refine Rn.val fun K_ hK_ => ?_
      go_simp
      refine (scp_z ⟨b, m⟩ _ (HG.out.ext (HX5.out.drew.trans hs_.1)) (Hb.out.mono (by decide)) (Hm.out.mono (by decide)) HY.out).mono ?_; rintro e W9_ ⟨rfl, e9_⟩; exact hK_.out _ e9_
    refine RnL.cons (fun g5 A_ W_ hs_ => ?_) ?_
    · have q36_ := hs_.val 1 rfl rfl rfl
      have q38_ := hs_.val 3 rfl rfl rfl
      refine Rn.mem fun K_ hK_ => ?_
      go_simp
      exact hK_.out
    refine RnL.cons (fun g5 A_ W_ hs_ => ?_) ?_
    · have q39_ := (hs_.mem 4 rfl rfl rfl).1
      refine Rn.val fun K_ hK_ => ?_
      go_simp
      refine (((by decide : ferr [17, 17] = 17) ▸ first2_c 17 17 (g5 4) _ ((hs_.mem 4 rfl rfl rfl).2.2 rfl))).mono ?_; rintro e _ ⟨rfl, rfl⟩; exact hK_.out _ (Ext.refl _)
    refine RnL.cons (fun g5 A_ W_ hs_ => ?_) ?_
    · have q40_ := hs_.val 5 rfl rfl rfl
      refine Rn.val fun K_ hK_ => ?_
      go_simp
      exact hK_.out _ (Ext.refl _)
    exact RnL.nil
  simp only [fs, Kd.value, puts, Act.put, List.setIfInBounds_toArray, List.set_cons_zero, List.set_cons_succ, Nat.reduceAdd]
  have HX6 : Hid (Ext w w6) := Lib.hid (HX5.out.drew.trans hx_)
  have HB2_6 := Lib.hid (HB2_5.out.drew.ext hx_)
  have HB3_6 := Lib.hid (HB3_5.out.drew.ext hx_)
  have HB4_6 := Lib.hid (HB4_5.out.drew.ext hx_)
  have HB5_6 := Lib.hid (HB5_5.out.drew.ext hx_)
  have HB6_6 : Hid (Blk w6 (g5 4) #[.int .i64 17, .int .i64 17] 32) := Lib.hid (hm_ 4 _ _ _ _ rfl).2; have HGEB6 : Hid (w.heap.size ≤ g5 4) := Lib.hid (Nat.le_trans HX5.out.size (hm_ 4 _ _ _ _ rfl).1)
  have HNEB2B6 : Hid (i2 ≠ g5 4) := Lib.hid (Nat.ne_of_lt (Nat.lt_of_lt_of_le HB2_5.out.lt (hm_ 4 _ _ _ _ rfl).1))
  have HNEB3B6 : Hid (i3 ≠ g5 4) := Lib.hid (Nat.ne_of_lt (Nat.lt_of_lt_of_le HB3_5.out.lt (hm_ 4 _ _ _ _ rfl).1))
  have HNEB4B6 : Hid (w4.heap.size ≠ g5 4) := Lib.hid (Nat.ne_of_lt (Nat.lt_of_lt_of_le HB4_5.out.lt (hm_ 4 _ _ _ _ rfl).1))
  have HNEB5B6 : Hid (w4.heap.size + 1 ≠ g5 4) := Lib.hid (Nat.ne_of_lt (Nat.lt_of_lt_of_le HB5_5.out.lt (hm_ 4 _ _ _ _ rfl).1))
  clear hx_ hm_ hne_
  generalize g5 4 = i6 at *
  clear g5
  have c2_0 := HB2_6.out.cell 0 rfl
  have c2_1 := HB2_6.out.cell 1 rfl
  have c2_2 := HB2_6.out.cell 2 rfl
  have c3_0 := HB3_6.out.cell 0 rfl
  have c3_1 := HB3_6.out.cell 1 rfl
  have c3_2 := HB3_6.out.cell 2 rfl
  go_wp2_with fail
  refine (vcr_c a b D _ (HG.out.ext HX6.out) HDE.out Ha.out Hb.out).mono ?_; rintro e w7 ⟨rfl, e7⟩
  have HX7 : Hid (Ext w w7) := Lib.hid (HX6.out.trans e7)
  have HB4_7 := Lib.hid (Blk.ext HB4_6.out e7)
  have HB5_7 := Lib.hid (Blk.ext HB5_6.out e7)
  clear e7 c2_0 c2_1 c2_2 c3_0 c3_1 c3_2
  go_upto_region 7 with fail
  refine wp_name (fun W => Ext w W ∧ Blk W (w4.heap.size) #[.string ⟨#[]⟩, .string ⟨#[]⟩, .string ⟨#[]⟩] 30 ∧ Blk W (w4.heap.size + 1) #[.string ⟨#[]⟩, .string ⟨#[]⟩, .string ⟨#[]⟩] 30 ∧ Blk W (w7.heap.size) #[.string (qs D.x), .string (qs D.y), .string (qs D.z)] 30) ⟨(HX7.out.alloc _), (HB4_7.out.alloc _), (HB5_7.out.alloc _), (Blk.new' (w := _) (cs := #[.string (qs D.x), .string (qs D.y), .string (qs D.z)]) (t := 30) (by first | rfl | (simp only [World.size_alloc]; done) | (simp only [World.size_alloc]; omega) | simp))⟩ ?_
  rintro w8 ⟨e8, bB4_8, bB5_8, bB7_8⟩
  have HX8 := Lib.hid e8; have HB4_8 := Lib.hid bB4_8; have HB5_8 := Lib.hid bB5_8; have HB7_8 := Lib.hid bB7_8
  have HGEB7 : Hid (w.heap.size ≤ w7.heap.size) := Lib.hid (by have := HX7.out.size; first | omega | (simp only []; omega) | (simp; omega))
  clear e8 bB4_8 bB5_8 bB7_8
  have c4_0 := HB4_8.out.cell 0 rfl
  have c4_1 := HB4_8.out.cell 1 rfl
  have c4_2 := HB4_8.out.cell 2 rfl
  have c5_0 := HB5_8.out.cell 0 rfl
  have c5_1 := HB5_8.out.cell 1 rfl
  have c5_2 := HB5_8.out.cell 2 rfl
  go_wp2
  go_ret
  exact ⟨rfl, HX8.out⟩

set_option maxRecDepth 100000 in
set_option maxHeartbeats 16000000 in
theorem common_walk_pn (p q : Pla) (n : Int) (d : Nat) (l : Int) (e : Nat) (w : World) (g : Gd w) (hp : PlaOk p) (hq : PlaOk q) (hn : -32768 ≤ n ∧ n ≤ 32767 ∧ d ≤ 255) (hl : -32768 ≤ l ∧ l ≤ 32767 ∧ e ≤ 255) (hz : (pvec p).x = 0 ∧ (pvec p).y = 0 ∧ (pvec p).z = 0) (hy : ¬ ((pvec q).x = 0 ∧ (pvec q).y = 0 ∧ (pvec q).z = 0)) : Calls Tryz.prog 4 #[.agg #[.int .i16 p.n0, .int .u8 (p.d0 : Int), .int .i16 p.n1, .int .u8 (p.d1 : Int), .int .i16 p.n2, .int .u8 (p.d2 : Int), .int .i16 q.n0, .int .u8 (q.d0 : Int), .int .i16 q.n1, .int .u8 (q.d1 : Int), .int .i16 q.n2, .int .u8 (q.d2 : Int)], .agg #[.int .i16 n, .int .u8 (d : Int), .int .i16 l, .int .u8 (e : Int)]] w (Ret w (.bool true)) := by
  have Hp := Lib.hid hp
  have Hq := Lib.hid hq
  have HG := Lib.hid g
  clear hp hq g
  have HZ0 := Lib.hid hz; have HY0 := Lib.hid hy; clear hz hy
  obtain ⟨a, ea⟩ : ∃ a, pvec p = a := ⟨_, rfl⟩
  have HaE := Lib.hid ea; have Ha : Hid (VB 5 a) := Lib.hid (ea ▸ Hp.out.v); clear ea
  obtain ⟨b, eb⟩ : ∃ b, pvec q = b := ⟨_, rfl⟩
  have HbE := Lib.hid eb; have Hb : Hid (VB 5 b) := Lib.hid (eb ▸ Hq.out.v); clear eb
  have Hk0 := Lib.hid hn; clear hn
  obtain ⟨k, ek⟩ : ∃ k, sm n d = k := ⟨_, rfl⟩
  have HkE := Lib.hid ek; have Hk : Hid (QB 5 k) := Lib.hid (ek ▸ sm_qb Hk0.out.1 Hk0.out.2.1 Hk0.out.2.2); clear ek
  have Hm0 := Lib.hid hl; clear hl
  obtain ⟨m, em⟩ : ∃ m, sm l e = m := ⟨_, rfl⟩
  have HmE := Lib.hid em; have Hm : Hid (QB 5 m) := Lib.hid (em ▸ sm_qb Hm0.out.1 Hm0.out.2.1 Hm0.out.2.2); clear em
  obtain ⟨D, eD⟩ : ∃ D, vcr a b = D := ⟨_, rfl⟩
  have HDE := Lib.hid eD; have HD : Hid (VB 21 D) := Lib.hid (eD ▸ vcr_b Ha.out Hb.out); clear eD
  have HZ : Hid ((a.x = 0 ∧ a.y = 0 ∧ a.z = 0)) := Lib.hid (HaE.out ▸ HZ0.out)
  have HY : Hid (¬ (b.x = 0 ∧ b.y = 0 ∧ b.z = 0)) := Lib.hid (HbE.out ▸ HY0.out)
  go_enter Tryz.func4, Tryz.ntmps4
  go_wp2_with fail
  refine (known_c _ (HG.out.ext (((Ext.refl w).alloc _).alloc _))).mono ?_; rintro e w1 ⟨rfl, e1⟩
  have HX1 : Hid (Ext w w1) := Lib.hid ((((Ext.refl w).alloc _).alloc _).trans e1)
  have HB0_1 : Hid (Blk w1 (w.heap.size) #[.int .i16 p.n0, .int .u8 (p.d0 : Int), .int .i16 p.n1, .int .u8 (p.d1 : Int), .int .i16 p.n2, .int .u8 (p.d2 : Int), .int .i16 q.n0, .int .u8 (q.d0 : Int), .int .i16 q.n1, .int .u8 (q.d1 : Int), .int .i16 q.n2, .int .u8 (q.d2 : Int)] 44) := Lib.hid (Blk.ext ((Blk.new' (w := _) (cs := #[.int .i16 p.n0, .int .u8 (p.d0 : Int), .int .i16 p.n1, .int .u8 (p.d1 : Int), .int .i16 p.n2, .int .u8 (p.d2 : Int), .int .i16 q.n0, .int .u8 (q.d0 : Int), .int .i16 q.n1, .int .u8 (q.d1 : Int), .int .i16 q.n2, .int .u8 (q.d2 : Int)]) (t := 44) (by first | rfl | (simp only [World.size_alloc]; done) | (simp only [World.size_alloc]; omega) | simp)).alloc _) e1)
  have HB1_1 : Hid (Blk w1 (w.heap.size + 1) #[.int .i16 n, .int .u8 (d : Int), .int .i16 l, .int .u8 (e : Int)] 45) := Lib.hid (Blk.ext (Blk.new' (w := _) (cs := #[.int .i16 n, .int .u8 (d : Int), .int .i16 l, .int .u8 (e : Int)]) (t := 45) (by first | rfl | (simp only [World.size_alloc]; done) | (simp only [World.size_alloc]; omega) | simp)) e1)
  have HGEB0 : Hid (w.heap.size ≤ w.heap.size) := Lib.hid (by first | omega | (simp only []; omega) | (simp; omega))
  have HGEB1 : Hid (w.heap.size ≤ w.heap.size + 1) := Lib.hid (by first | omega | (simp only []; omega) | (simp; omega))
  clear e1
  go_wp2_with fail
  refine wp_name (fun W => Ext w W ∧ Blk W (w.heap.size) #[.int .i16 p.n0, .int .u8 (p.d0 : Int), .int .i16 p.n1, .int .u8 (p.d1 : Int), .int .i16 p.n2, .int .u8 (p.d2 : Int), .int .i16 q.n0, .int .u8 (q.d0 : Int), .int .i16 q.n1, .int .u8 (q.d1 : Int), .int .i16 q.n2, .int .u8 (q.d2 : Int)] 44 ∧ Blk W (w.heap.size + 1) #[.int .i16 n, .int .u8 (d : Int), .int .i16 l, .int .u8 (e : Int)] 45) ⟨HX1.out, HB0_1.out, HB1_1.out⟩ ?_
  rintro w2 ⟨e2, bB0_2, bB1_2⟩
  have HX2 := Lib.hid e2; have HB0_2 := Lib.hid bB0_2; have HB1_2 := Lib.hid bB1_2
  clear e2 bB0_2 bB1_2
  refine region_lin [.val (.pointer (some ⟨w.heap.size, 0, none⟩)), .val (.agg #[.int .i16 p.n0, .int .u8 (p.d0 : Int), .int .i16 p.n1, .int .u8 (p.d1 : Int), .int .i16 p.n2, .int .u8 (p.d2 : Int)]), .val (.agg #[.string (qs a.x), .string (qs a.y), .string (qs a.z)]), .val (.pointer (some ⟨w.heap.size + 1, 0, none⟩)), .val (.agg #[.int .i16 n, .int .u8 (d : Int)]), .val (.string (qs k)), .val (.agg #[.string (qs a.x), .string (qs a.y), .string (qs a.z), .string (qs k)]), .val (.pointer (some ⟨w.heap.size, 6, none⟩)), .val (.agg #[.int .i16 q.n0, .int .u8 (q.d0 : Int), .int .i16 q.n1, .int .u8 (q.d1 : Int), .int .i16 q.n2, .int .u8 (q.d2 : Int)]), .val (.agg #[.string (qs b.x), .string (qs b.y), .string (qs b.z)]), .val (.pointer (some ⟨w.heap.size + 1, 2, none⟩)), .val (.agg #[.int .i16 l, .int .u8 (e : Int)]), .val (.string (qs m)), .val (.agg #[.string (qs b.x), .string (qs b.y), .string (qs b.z), .string (qs m)]), .mem (fun b_ => .pointer (some ⟨b_, 0, none⟩)) #[.string ⟨#[]⟩, .string ⟨#[]⟩, .string ⟨#[]⟩, .string ⟨#[]⟩] 48 (Option.some 16), .mem (fun b_ => .pointer (some ⟨b_, 0, none⟩)) #[.string ⟨#[]⟩, .string ⟨#[]⟩, .string ⟨#[]⟩, .string ⟨#[]⟩] 48 (Option.some 17), .put 14 #[.string (qs a.x), .string (qs a.y), .string (qs a.z), .string (qs k)], .put 15 #[.string (qs b.x), .string (qs b.y), .string (qs b.z), .string (qs m)]] (by kernel_rfl) (by kernel_rfl) (by kernel_rfl) ?_ (fun g2 w3 hx_ hm_ hne_ => ?_)
  · skip
    refine RnL.cons (fun g2 A_ W_ hs_ => ?_) ?_
    · have q2_ := (hs_.old 2 (by kernel_rfl) : A_.tmps[2]?.getD undef = .pointer (some ⟨w.heap.size, 0, none⟩))
      refine Rn.val fun K_ hK_ => ?_
      go_simp
      exact hK_.out _ (Ext.refl _)
    refine RnL.cons (fun g2 A_ W_ hs_ => ?_) ?_
    · have q14_ := hs_.val 0 rfl rfl rfl
      have cB0_0 := (HB0_2.out.drew.ext hs_.1).cell 0 rfl
      have cB0_1 := (HB0_2.out.drew.ext hs_.1).cell 1 rfl
      have cB0_2 := (HB0_2.out.drew.ext hs_.1).cell 2 rfl
      have cB0_3 := (HB0_2.out.drew.ext hs_.1).cell 3 rfl
      have cB0_4 := (HB0_2.out.drew.ext hs_.1).cell 4 rfl
      have cB0_5 := (HB0_2.out.drew.ext hs_.1).cell 5 rfl
      refine Rn.val fun K_ hK_ => ?_
      go_simp
      exact hK_.out _ (Ext.refl _)
    refine RnL.cons (fun g2 A_ W_ hs_ => ?_) ?_
    · have q15_ := hs_.val 1 rfl rfl rfl
      refine Rn.val fun K_ hK_ => ?_
      go_simp
      refine ((HaE.out ▸ make_c p _ (HG.out.ext (HX2.out.drew.trans hs_.1)) Hp.out)).mono ?_; rintro e W9_ ⟨rfl, e9_⟩; exact hK_.out _ e9_
    refine RnL.cons (fun g2 A_ W_ hs_ => ?_) ?_
    · have q3_ := (hs_.old 3 (by kernel_rfl) : A_.tmps[3]?.getD undef = .pointer (some ⟨w.heap.size + 1, 0, none⟩))
      refine Rn.val fun K_ hK_ => ?_
      go_simp
      exact hK_.out _ (Ext.refl _)
    refine RnL.cons (fun g2 A_ W_ hs_ => ?_) ?_
    · have q17_ := hs_.val 3 rfl rfl rfl
      have cB1_0 := (HB1_2.out.drew.ext hs_.1).cell 0 rfl
      have cB1_1 := (HB1_2.out.drew.ext hs_.1).cell 1 rfl
      refine Rn.val fun K_ hK_ => ?_
      go_simp
      exact hK_.out _ (Ext.refl _)
    refine RnL.cons (fun g2 A_ W_ hs_ => ?_) ?_
    · have q18_ := hs_.val 4 rfl rfl rfl
      refine Rn.val fun K_ hK_ => ?_
      go_simp
      refine ((HkE.out ▸ mk2_c n d _ (HG.out.ext (HX2.out.drew.trans hs_.1)) Hk0.out.1 Hk0.out.2.1 Hk0.out.2.2)).mono ?_; rintro e W9_ ⟨rfl, e9_⟩; exact hK_.out _ e9_
    refine RnL.cons (fun g2 A_ W_ hs_ => ?_) ?_
    · have q16_ := hs_.val 2 rfl rfl rfl
      have q19_ := hs_.val 5 rfl rfl rfl
      refine Rn.val fun K_ hK_ => ?_
      go_simp
      exact hK_.out _ (Ext.refl _)
    refine RnL.cons (fun g2 A_ W_ hs_ => ?_) ?_
    · have q2_ := (hs_.old 2 (by kernel_rfl) : A_.tmps[2]?.getD undef = .pointer (some ⟨w.heap.size, 0, none⟩))
      refine Rn.val fun K_ hK_ => ?_
      go_simp
      exact hK_.out _ (Ext.refl _)
    refine RnL.cons (fun g2 A_ W_ hs_ => ?_) ?_
    · have q21_ := hs_.val 7 rfl rfl rfl
      have cB0_6 := (HB0_2.out.drew.ext hs_.1).cell 6 rfl
      have cB0_7 := (HB0_2.out.drew.ext hs_.1).cell 7 rfl
      have cB0_8 := (HB0_2.out.drew.ext hs_.1).cell 8 rfl
      have cB0_9 := (HB0_2.out.drew.ext hs_.1).cell 9 rfl
      have cB0_10 := (HB0_2.out.drew.ext hs_.1).cell 10 rfl
      have cB0_11 := (HB0_2.out.drew.ext hs_.1).cell 11 rfl
      refine Rn.val fun K_ hK_ => ?_
      go_simp
      exact hK_.out _ (Ext.refl _)
    refine RnL.cons (fun g2 A_ W_ hs_ => ?_) ?_
    · have q22_ := hs_.val 8 rfl rfl rfl
      refine Rn.val fun K_ hK_ => ?_
      go_simp
      refine ((HbE.out ▸ make_c q _ (HG.out.ext (HX2.out.drew.trans hs_.1)) Hq.out)).mono ?_; rintro e W9_ ⟨rfl, e9_⟩; exact hK_.out _ e9_
    refine RnL.cons (fun g2 A_ W_ hs_ => ?_) ?_
    · have q3_ := (hs_.old 3 (by kernel_rfl) : A_.tmps[3]?.getD undef = .pointer (some ⟨w.heap.size + 1, 0, none⟩))
      refine Rn.val fun K_ hK_ => ?_
      go_simp
      exact hK_.out _ (Ext.refl _)
    refine RnL.cons (fun g2 A_ W_ hs_ => ?_) ?_
    · have q24_ := hs_.val 10 rfl rfl rfl
      have cB1_2 := (HB1_2.out.drew.ext hs_.1).cell 2 rfl
      have cB1_3 := (HB1_2.out.drew.ext hs_.1).cell 3 rfl
      refine Rn.val fun K_ hK_ => ?_
      go_simp
      exact hK_.out _ (Ext.refl _)
    refine RnL.cons (fun g2 A_ W_ hs_ => ?_) ?_
    · have q25_ := hs_.val 11 rfl rfl rfl
      refine Rn.val fun K_ hK_ => ?_
      go_simp
      refine ((HmE.out ▸ mk2_c l e _ (HG.out.ext (HX2.out.drew.trans hs_.1)) Hm0.out.1 Hm0.out.2.1 Hm0.out.2.2)).mono ?_; rintro e W9_ ⟨rfl, e9_⟩; exact hK_.out _ e9_
    refine RnL.cons (fun g2 A_ W_ hs_ => ?_) ?_
    · have q23_ := hs_.val 9 rfl rfl rfl
      have q26_ := hs_.val 12 rfl rfl rfl
      refine Rn.val fun K_ hK_ => ?_
      go_simp
      exact hK_.out _ (Ext.refl _)
    refine RnL.cons (fun g2 A_ W_ hs_ => ?_) ?_
    · refine Rn.mem fun K_ hK_ => ?_
      go_simp
      exact hK_.out
    refine RnL.cons (fun g2 A_ W_ hs_ => ?_) ?_
    · refine Rn.mem fun K_ hK_ => ?_
      go_simp
      exact hK_.out
    refine RnL.cons (fun g2 A_ W_ hs_ => ?_) ?_
    · have q5_ := (hs_.mem 14 rfl rfl rfl).1
      have q20_ := hs_.val 6 rfl rfl rfl
      refine Rn.put (z := #[.string ⟨#[]⟩, .string ⟨#[]⟩, .string ⟨#[]⟩, .string ⟨#[]⟩]) (t := 48) rfl fun hB K_ hK_ => ?_
      have c_0 := hB.cell 0 rfl; have f_0 := hB.free 0
      have c_1 := hB.cell 1 rfl; have f_1 := hB.free 1
      have c_2 := hB.cell 2 rfl; have f_2 := hB.free 2
      have c_3 := hB.cell 3 rfl; have f_3 := hB.free 3
      have HB := Lib.hid hB; clear hB
      go_simp
      exact hK_.out _ (((((Only.refl _ _).set 0 _).set 1 _).set 2 _).set 3 _) ((((HB.out.set 0 _).set 1 _).set 2 _).set 3 _)
    refine RnL.cons (fun g2 A_ W_ hs_ => ?_) ?_
    · have q6_ := (hs_.mem 15 rfl rfl rfl).1
      have q27_ := hs_.val 13 rfl rfl rfl
      refine Rn.put (z := #[.string ⟨#[]⟩, .string ⟨#[]⟩, .string ⟨#[]⟩, .string ⟨#[]⟩]) (t := 48) rfl fun hB K_ hK_ => ?_
      have c_0 := hB.cell 0 rfl; have f_0 := hB.free 0
      have c_1 := hB.cell 1 rfl; have f_1 := hB.free 1
      have c_2 := hB.cell 2 rfl; have f_2 := hB.free 2
      have c_3 := hB.cell 3 rfl; have f_3 := hB.free 3
      have HB := Lib.hid hB; clear hB
      go_simp
      exact hK_.out _ (((((Only.refl _ _).set 0 _).set 1 _).set 2 _).set 3 _) ((((HB.out.set 0 _).set 1 _).set 2 _).set 3 _)
    exact RnL.nil
  simp only [fs, Kd.value, puts, Act.put, List.setIfInBounds_toArray, List.set_cons_zero, List.set_cons_succ, Nat.reduceAdd]
  have HX3 : Hid (Ext w w3) := Lib.hid (HX2.out.drew.trans hx_)
  have HB2_3 : Hid (Blk w3 (g2 14) #[.string (qs a.x), .string (qs a.y), .string (qs a.z), .string (qs k)] 48) := Lib.hid (hm_ 14 _ _ _ _ rfl).2; have HGEB2 : Hid (w.heap.size ≤ g2 14) := Lib.hid (Nat.le_trans HX2.out.size (hm_ 14 _ _ _ _ rfl).1)
  have HB3_3 : Hid (Blk w3 (g2 15) #[.string (qs b.x), .string (qs b.y), .string (qs b.z), .string (qs m)] 48) := Lib.hid (hm_ 15 _ _ _ _ rfl).2; have HGEB3 : Hid (w.heap.size ≤ g2 15) := Lib.hid (Nat.le_trans HX2.out.size (hm_ 15 _ _ _ _ rfl).1)
  have HNEB2B3 : Hid (g2 14 ≠ g2 15) := Lib.hid (hne_ 14 15 (by decide) ⟨_, _, _, _, rfl⟩ ⟨_, _, _, _, rfl⟩)
  clear hx_ hm_ hne_
  generalize g2 14 = i2 at *
  generalize g2 15 = i3 at *
  clear g2
  have c2_0 := HB2_3.out.cell 0 rfl
  have c2_1 := HB2_3.out.cell 1 rfl
  have c2_2 := HB2_3.out.cell 2 rfl
  have c2_3 := HB2_3.out.cell 3 rfl
  have c3_0 := HB3_3.out.cell 0 rfl
  have c3_1 := HB3_3.out.cell 1 rfl
  have c3_2 := HB3_3.out.cell 2 rfl
  have c3_3 := HB3_3.out.cell 3 rfl
  go_wp2_with fail
  refine (vCommon_p ⟨a, k⟩ ⟨b, m⟩ _ (HG.out.ext HX3.out) (Ha.out.mono (by decide)) (Hk.out.mono (by decide)) (Hb.out.mono (by decide)) (Hm.out.mono (by decide)) HZ.out).mono ?_; rintro e w4 ⟨rfl, e4⟩
  have HX4 : Hid (Ext w w4) := Lib.hid (HX3.out.trans e4)
  have HB2_4 := Lib.hid (Blk.ext HB2_3.out e4)
  have HB3_4 := Lib.hid (Blk.ext HB3_3.out e4)
  clear e4 c2_0 c2_1 c2_2 c2_3 c3_0 c3_1 c3_2 c3_3
  go_wp2_with fail
  refine wp_name (fun W => Ext w W ∧ Blk W (i2) #[.string (qs a.x), .string (qs a.y), .string (qs a.z), .string (qs k)] 48 ∧ Blk W (i3) #[.string (qs b.x), .string (qs b.y), .string (qs b.z), .string (qs m)] 48 ∧ Blk W (w4.heap.size) #[.string ⟨#[]⟩, .string ⟨#[]⟩, .string ⟨#[]⟩] 30 ∧ Blk W (w4.heap.size + 1) #[.string ⟨#[]⟩, .string ⟨#[]⟩, .string ⟨#[]⟩] 30) ⟨((HX4.out.alloc _).alloc _), ((HB2_4.out.alloc _).alloc _), ((HB3_4.out.alloc _).alloc _), ((Blk.new' (w := _) (cs := #[.string ⟨#[]⟩, .string ⟨#[]⟩, .string ⟨#[]⟩]) (t := 30) (by first | rfl | (simp only [World.size_alloc]; done) | (simp only [World.size_alloc]; omega) | simp)).alloc _), (Blk.new' (w := _) (cs := #[.string ⟨#[]⟩, .string ⟨#[]⟩, .string ⟨#[]⟩]) (t := 30) (by first | rfl | (simp only [World.size_alloc]; done) | (simp only [World.size_alloc]; omega) | simp))⟩ ?_
  rintro w5 ⟨e5, bB2_5, bB3_5, bB4_5, bB5_5⟩
  have HX5 := Lib.hid e5; have HB2_5 := Lib.hid bB2_5; have HB3_5 := Lib.hid bB3_5; have HB4_5 := Lib.hid bB4_5; have HB5_5 := Lib.hid bB5_5
  have HGEB4 : Hid (w.heap.size ≤ w4.heap.size) := Lib.hid (by have := HX4.out.size; first | omega | (simp only []; omega) | (simp; omega))
  have HGEB5 : Hid (w.heap.size ≤ w4.heap.size + 1) := Lib.hid (by have := HX4.out.size; first | omega | (simp only []; omega) | (simp; omega))
  clear e5 bB2_5 bB3_5 bB4_5 bB5_5
  refine region_lin [.val (.agg #[.string (qs a.x), .string (qs a.y), .string (qs a.z), .string (qs k)]), .val (.int .i64 17), .val (.agg #[.string (qs b.x), .string (qs b.y), .string (qs b.z), .string (qs m)]), .val (.int .i64 0), .mem (fun b_ => .slice (some ⟨b_, 0, none⟩) 2 2) #[.int .i64 17, .int .i64 0] 32 Option.none, .val (.int .i64 17), .val (.int .i64 17)] (by kernel_rfl) (by kernel_rfl) (by kernel_rfl) ?_ (fun g5 w6 hx_ hm_ hne_ => ?_)
  · skip
    refine RnL.cons (fun g5 A_ W_ hs_ => ?_) ?_
    · have q5_ := (hs_.old 5 (by kernel_rfl) : A_.tmps[5]?.getD undef = .pointer (some ⟨i2, 0, none⟩))
      have cB2_0 := (HB2_5.out.drew.ext hs_.1).cell 0 rfl
      have cB2_1 := (HB2_5.out.drew.ext hs_.1).cell 1 rfl
      have cB2_2 := (HB2_5.out.drew.ext hs_.1).cell 2 rfl
      have cB2_3 := (HB2_5.out.drew.ext hs_.1).cell 3 rfl
      refine Rn.val fun K_ hK_ => ?_
      go_simp
      exact hK_.out _ (Ext.refl _)
    refine RnL.cons (fun g5 A_ W_ hs_ => ?_) ?_
    · have q35_ := hs_.val 0 rfl rfl rfl
      refine Rn.val fun K_ hK_ => ?_
      go_simp
      refine (scp_z ⟨a, k⟩ _ (HG.out.ext (HX5.out.drew.trans hs_.1)) (Ha.out.mono (by decide)) (Hk.out.mono (by decide)) HZ.out).mono ?_; rintro e W9_ ⟨rfl, e9_⟩; exact hK_.out _ e9_
    refine RnL.cons (fun g5 A_ W_ hs_ => ?_) ?_
    · have q6_ := (hs_.old 6 (by kernel_rfl) : A_.tmps[6]?.getD undef = .pointer (some ⟨i3, 0, none⟩))
      have cB3_0 := (HB3_5.out.drew.ext hs_.1).cell 0 rfl
      have cB3_1 := (HB3_5.out.drew.ext hs_.1).cell 1 rfl
      have cB3_2 := (HB3_5.out.drew.ext hs_.1).cell 2 rfl
      have cB3_3 := (HB3_5.out.drew.ext hs_.1).cell 3 rfl
      refine Rn.val fun K_ hK_ => ?_
      go_simp
      exact hK_.out _ (Ext.refl _)
    refine RnL.cons (fun g5 A_ W_ hs_ => ?_) ?_
    · have q37_ := hs_.val 2 rfl rfl rfl
      refine Rn.val fun K_ hK_ => ?_
      go_simp
      refine (scp_n ⟨b, m⟩ _ (HG.out.ext (HX5.out.drew.trans hs_.1)) (Hb.out.mono (by decide)) (Hm.out.mono (by decide)) HY.out).mono ?_; rintro e W9_ ⟨rfl, e9_⟩; exact hK_.out _ e9_
    refine RnL.cons (fun g5 A_ W_ hs_ => ?_) ?_
    · have q36_ := hs_.val 1 rfl rfl rfl
      have q38_ := hs_.val 3 rfl rfl rfl
      refine Rn.mem fun K_ hK_ => ?_
      go_simp
      exact hK_.out
    refine RnL.cons (fun g5 A_ W_ hs_ => ?_) ?_
    · have q39_ := (hs_.mem 4 rfl rfl rfl).1
      refine Rn.val fun K_ hK_ => ?_
      go_simp
      refine (((by decide : ferr [17, 0] = 17) ▸ first2_c 17 0 (g5 4) _ ((hs_.mem 4 rfl rfl rfl).2.2 rfl))).mono ?_; rintro e _ ⟨rfl, rfl⟩; exact hK_.out _ (Ext.refl _)
    refine RnL.cons (fun g5 A_ W_ hs_ => ?_) ?_
    · have q40_ := hs_.val 5 rfl rfl rfl
      refine Rn.val fun K_ hK_ => ?_
      go_simp
      exact hK_.out _ (Ext.refl _)
    exact RnL.nil
  simp only [fs, Kd.value, puts, Act.put, List.setIfInBounds_toArray, List.set_cons_zero, List.set_cons_succ, Nat.reduceAdd]
  have HX6 : Hid (Ext w w6) := Lib.hid (HX5.out.drew.trans hx_)
  have HB2_6 := Lib.hid (HB2_5.out.drew.ext hx_)
  have HB3_6 := Lib.hid (HB3_5.out.drew.ext hx_)
  have HB4_6 := Lib.hid (HB4_5.out.drew.ext hx_)
  have HB5_6 := Lib.hid (HB5_5.out.drew.ext hx_)
  have HB6_6 : Hid (Blk w6 (g5 4) #[.int .i64 17, .int .i64 0] 32) := Lib.hid (hm_ 4 _ _ _ _ rfl).2; have HGEB6 : Hid (w.heap.size ≤ g5 4) := Lib.hid (Nat.le_trans HX5.out.size (hm_ 4 _ _ _ _ rfl).1)
  have HNEB2B6 : Hid (i2 ≠ g5 4) := Lib.hid (Nat.ne_of_lt (Nat.lt_of_lt_of_le HB2_5.out.lt (hm_ 4 _ _ _ _ rfl).1))
  have HNEB3B6 : Hid (i3 ≠ g5 4) := Lib.hid (Nat.ne_of_lt (Nat.lt_of_lt_of_le HB3_5.out.lt (hm_ 4 _ _ _ _ rfl).1))
  have HNEB4B6 : Hid (w4.heap.size ≠ g5 4) := Lib.hid (Nat.ne_of_lt (Nat.lt_of_lt_of_le HB4_5.out.lt (hm_ 4 _ _ _ _ rfl).1))
  have HNEB5B6 : Hid (w4.heap.size + 1 ≠ g5 4) := Lib.hid (Nat.ne_of_lt (Nat.lt_of_lt_of_le HB5_5.out.lt (hm_ 4 _ _ _ _ rfl).1))
  clear hx_ hm_ hne_
  generalize g5 4 = i6 at *
  clear g5
  have c2_0 := HB2_6.out.cell 0 rfl
  have c2_1 := HB2_6.out.cell 1 rfl
  have c2_2 := HB2_6.out.cell 2 rfl
  have c3_0 := HB3_6.out.cell 0 rfl
  have c3_1 := HB3_6.out.cell 1 rfl
  have c3_2 := HB3_6.out.cell 2 rfl
  go_wp2_with fail
  refine (vcr_c a b D _ (HG.out.ext HX6.out) HDE.out Ha.out Hb.out).mono ?_; rintro e w7 ⟨rfl, e7⟩
  have HX7 : Hid (Ext w w7) := Lib.hid (HX6.out.trans e7)
  have HB4_7 := Lib.hid (Blk.ext HB4_6.out e7)
  have HB5_7 := Lib.hid (Blk.ext HB5_6.out e7)
  clear e7 c2_0 c2_1 c2_2 c3_0 c3_1 c3_2
  go_upto_region 7 with fail
  refine wp_name (fun W => Ext w W ∧ Blk W (w4.heap.size) #[.string ⟨#[]⟩, .string ⟨#[]⟩, .string ⟨#[]⟩] 30 ∧ Blk W (w4.heap.size + 1) #[.string ⟨#[]⟩, .string ⟨#[]⟩, .string ⟨#[]⟩] 30 ∧ Blk W (w7.heap.size) #[.string (qs D.x), .string (qs D.y), .string (qs D.z)] 30) ⟨(HX7.out.alloc _), (HB4_7.out.alloc _), (HB5_7.out.alloc _), (Blk.new' (w := _) (cs := #[.string (qs D.x), .string (qs D.y), .string (qs D.z)]) (t := 30) (by first | rfl | (simp only [World.size_alloc]; done) | (simp only [World.size_alloc]; omega) | simp))⟩ ?_
  rintro w8 ⟨e8, bB4_8, bB5_8, bB7_8⟩
  have HX8 := Lib.hid e8; have HB4_8 := Lib.hid bB4_8; have HB5_8 := Lib.hid bB5_8; have HB7_8 := Lib.hid bB7_8
  have HGEB7 : Hid (w.heap.size ≤ w7.heap.size) := Lib.hid (by have := HX7.out.size; first | omega | (simp only []; omega) | (simp; omega))
  clear e8 bB4_8 bB5_8 bB7_8
  have c4_0 := HB4_8.out.cell 0 rfl
  have c4_1 := HB4_8.out.cell 1 rfl
  have c4_2 := HB4_8.out.cell 2 rfl
  have c5_0 := HB5_8.out.cell 0 rfl
  have c5_1 := HB5_8.out.cell 1 rfl
  have c5_2 := HB5_8.out.cell 2 rfl
  go_wp2
  go_ret
  exact ⟨rfl, HX8.out⟩

set_option maxRecDepth 100000 in
set_option maxHeartbeats 16000000 in
theorem common_walk_q (p q : Pla) (n : Int) (d : Nat) (l : Int) (e : Nat) (w : World) (g : Gd w) (hp : PlaOk p) (hq : PlaOk q) (hn : -32768 ≤ n ∧ n ≤ 32767 ∧ d ≤ 255) (hl : -32768 ≤ l ∧ l ≤ 32767 ∧ e ≤ 255) (hz : ¬ ((pvec p).x = 0 ∧ (pvec p).y = 0 ∧ (pvec p).z = 0)) (hy : (pvec q).x = 0 ∧ (pvec q).y = 0 ∧ (pvec q).z = 0) : Calls Tryz.prog 4 #[.agg #[.int .i16 p.n0, .int .u8 (p.d0 : Int), .int .i16 p.n1, .int .u8 (p.d1 : Int), .int .i16 p.n2, .int .u8 (p.d2 : Int), .int .i16 q.n0, .int .u8 (q.d0 : Int), .int .i16 q.n1, .int .u8 (q.d1 : Int), .int .i16 q.n2, .int .u8 (q.d2 : Int)], .agg #[.int .i16 n, .int .u8 (d : Int), .int .i16 l, .int .u8 (e : Int)]] w (Ret w (.bool true)) := by
  have Hp := Lib.hid hp
  have Hq := Lib.hid hq
  have HG := Lib.hid g
  clear hp hq g
  have HZ0 := Lib.hid hz; have HY0 := Lib.hid hy; clear hz hy
  obtain ⟨a, ea⟩ : ∃ a, pvec p = a := ⟨_, rfl⟩
  have HaE := Lib.hid ea; have Ha : Hid (VB 5 a) := Lib.hid (ea ▸ Hp.out.v); clear ea
  obtain ⟨b, eb⟩ : ∃ b, pvec q = b := ⟨_, rfl⟩
  have HbE := Lib.hid eb; have Hb : Hid (VB 5 b) := Lib.hid (eb ▸ Hq.out.v); clear eb
  have Hk0 := Lib.hid hn; clear hn
  obtain ⟨k, ek⟩ : ∃ k, sm n d = k := ⟨_, rfl⟩
  have HkE := Lib.hid ek; have Hk : Hid (QB 5 k) := Lib.hid (ek ▸ sm_qb Hk0.out.1 Hk0.out.2.1 Hk0.out.2.2); clear ek
  have Hm0 := Lib.hid hl; clear hl
  obtain ⟨m, em⟩ : ∃ m, sm l e = m := ⟨_, rfl⟩
  have HmE := Lib.hid em; have Hm : Hid (QB 5 m) := Lib.hid (em ▸ sm_qb Hm0.out.1 Hm0.out.2.1 Hm0.out.2.2); clear em
  obtain ⟨D, eD⟩ : ∃ D, vcr a b = D := ⟨_, rfl⟩
  have HDE := Lib.hid eD; have HD : Hid (VB 21 D) := Lib.hid (eD ▸ vcr_b Ha.out Hb.out); clear eD
  have HZ : Hid (¬ (a.x = 0 ∧ a.y = 0 ∧ a.z = 0)) := Lib.hid (HaE.out ▸ HZ0.out)
  have HY : Hid ((b.x = 0 ∧ b.y = 0 ∧ b.z = 0)) := Lib.hid (HbE.out ▸ HY0.out)
  go_enter Tryz.func4, Tryz.ntmps4
  go_wp2_with fail
  refine (known_c _ (HG.out.ext (((Ext.refl w).alloc _).alloc _))).mono ?_; rintro e w1 ⟨rfl, e1⟩
  have HX1 : Hid (Ext w w1) := Lib.hid ((((Ext.refl w).alloc _).alloc _).trans e1)
  have HB0_1 : Hid (Blk w1 (w.heap.size) #[.int .i16 p.n0, .int .u8 (p.d0 : Int), .int .i16 p.n1, .int .u8 (p.d1 : Int), .int .i16 p.n2, .int .u8 (p.d2 : Int), .int .i16 q.n0, .int .u8 (q.d0 : Int), .int .i16 q.n1, .int .u8 (q.d1 : Int), .int .i16 q.n2, .int .u8 (q.d2 : Int)] 44) := Lib.hid (Blk.ext ((Blk.new' (w := _) (cs := #[.int .i16 p.n0, .int .u8 (p.d0 : Int), .int .i16 p.n1, .int .u8 (p.d1 : Int), .int .i16 p.n2, .int .u8 (p.d2 : Int), .int .i16 q.n0, .int .u8 (q.d0 : Int), .int .i16 q.n1, .int .u8 (q.d1 : Int), .int .i16 q.n2, .int .u8 (q.d2 : Int)]) (t := 44) (by first | rfl | (simp only [World.size_alloc]; done) | (simp only [World.size_alloc]; omega) | simp)).alloc _) e1)
  have HB1_1 : Hid (Blk w1 (w.heap.size + 1) #[.int .i16 n, .int .u8 (d : Int), .int .i16 l, .int .u8 (e : Int)] 45) := Lib.hid (Blk.ext (Blk.new' (w := _) (cs := #[.int .i16 n, .int .u8 (d : Int), .int .i16 l, .int .u8 (e : Int)]) (t := 45) (by first | rfl | (simp only [World.size_alloc]; done) | (simp only [World.size_alloc]; omega) | simp)) e1)
  have HGEB0 : Hid (w.heap.size ≤ w.heap.size) := Lib.hid (by first | omega | (simp only []; omega) | (simp; omega))
  have HGEB1 : Hid (w.heap.size ≤ w.heap.size + 1) := Lib.hid (by first | omega | (simp only []; omega) | (simp; omega))
  clear e1
  go_wp2_with fail
  refine wp_name (fun W => Ext w W ∧ Blk W (w.heap.size) #[.int .i16 p.n0, .int .u8 (p.d0 : Int), .int .i16 p.n1, .int .u8 (p.d1 : Int), .int .i16 p.n2, .int .u8 (p.d2 : Int), .int .i16 q.n0, .int .u8 (q.d0 : Int), .int .i16 q.n1, .int .u8 (q.d1 : Int), .int .i16 q.n2, .int .u8 (q.d2 : Int)] 44 ∧ Blk W (w.heap.size + 1) #[.int .i16 n, .int .u8 (d : Int), .int .i16 l, .int .u8 (e : Int)] 45) ⟨HX1.out, HB0_1.out, HB1_1.out⟩ ?_
  rintro w2 ⟨e2, bB0_2, bB1_2⟩
  have HX2 := Lib.hid e2; have HB0_2 := Lib.hid bB0_2; have HB1_2 := Lib.hid bB1_2
  clear e2 bB0_2 bB1_2
  refine region_lin [.val (.pointer (some ⟨w.heap.size, 0, none⟩)), .val (.agg #[.int .i16 p.n0, .int .u8 (p.d0 : Int), .int .i16 p.n1, .int .u8 (p.d1 : Int), .int .i16 p.n2, .int .u8 (p.d2 : Int)]), .val (.agg #[.string (qs a.x), .string (qs a.y), .string (qs a.z)]), .val (.pointer (some ⟨w.heap.size + 1, 0, none⟩)), .val (.agg #[.int .i16 n, .int .u8 (d : Int)]), .val (.string (qs k)), .val (.agg #[.string (qs a.x), .string (qs a.y), .string (qs a.z), .string (qs k)]), .val (.pointer (some ⟨w.heap.size, 6, none⟩)), .val (.agg #[.int .i16 q.n0, .int .u8 (q.d0 : Int), .int .i16 q.n1, .int .u8 (q.d1 : Int), .int .i16 q.n2, .int .u8 (q.d2 : Int)]), .val (.agg #[.string (qs b.x), .string (qs b.y), .string (qs b.z)]), .val (.pointer (some ⟨w.heap.size + 1, 2, none⟩)), .val (.agg #[.int .i16 l, .int .u8 (e : Int)]), .val (.string (qs m)), .val (.agg #[.string (qs b.x), .string (qs b.y), .string (qs b.z), .string (qs m)]), .mem (fun b_ => .pointer (some ⟨b_, 0, none⟩)) #[.string ⟨#[]⟩, .string ⟨#[]⟩, .string ⟨#[]⟩, .string ⟨#[]⟩] 48 (Option.some 16), .mem (fun b_ => .pointer (some ⟨b_, 0, none⟩)) #[.string ⟨#[]⟩, .string ⟨#[]⟩, .string ⟨#[]⟩, .string ⟨#[]⟩] 48 (Option.some 17), .put 14 #[.string (qs a.x), .string (qs a.y), .string (qs a.z), .string (qs k)], .put 15 #[.string (qs b.x), .string (qs b.y), .string (qs b.z), .string (qs m)]] (by kernel_rfl) (by kernel_rfl) (by kernel_rfl) ?_ (fun g2 w3 hx_ hm_ hne_ => ?_)
  · skip
    refine RnL.cons (fun g2 A_ W_ hs_ => ?_) ?_
    · have q2_ := (hs_.old 2 (by kernel_rfl) : A_.tmps[2]?.getD undef = .pointer (some ⟨w.heap.size, 0, none⟩))
      refine Rn.val fun K_ hK_ => ?_
      go_simp
      exact hK_.out _ (Ext.refl _)
    refine RnL.cons (fun g2 A_ W_ hs_ => ?_) ?_
    · have q14_ := hs_.val 0 rfl rfl rfl
      have cB0_0 := (HB0_2.out.drew.ext hs_.1).cell 0 rfl
      have cB0_1 := (HB0_2.out.drew.ext hs_.1).cell 1 rfl
      have cB0_2 := (HB0_2.out.drew.ext hs_.1).cell 2 rfl
      have cB0_3 := (HB0_2.out.drew.ext hs_.1).cell 3 rfl
      have cB0_4 := (HB0_2.out.drew.ext hs_.1).cell 4 rfl
      have cB0_5 := (HB0_2.out.drew.ext hs_.1).cell 5 rfl
      refine Rn.val fun K_ hK_ => ?_
      go_simp
      exact hK_.out _ (Ext.refl _)
    refine RnL.cons (fun g2 A_ W_ hs_ => ?_) ?_
    · have q15_ := hs_.val 1 rfl rfl rfl
      refine Rn.val fun K_ hK_ => ?_
      go_simp
      refine ((HaE.out ▸ make_c p _ (HG.out.ext (HX2.out.drew.trans hs_.1)) Hp.out)).mono ?_; rintro e W9_ ⟨rfl, e9_⟩; exact hK_.out _ e9_
    refine RnL.cons (fun g2 A_ W_ hs_ => ?_) ?_
    · have q3_ := (hs_.old 3 (by kernel_rfl) : A_.tmps[3]?.getD undef = .pointer (some ⟨w.heap.size + 1, 0, none⟩))
      refine Rn.val fun K_ hK_ => ?_
      go_simp
      exact hK_.out _ (Ext.refl _)
    refine RnL.cons (fun g2 A_ W_ hs_ => ?_) ?_
    · have q17_ := hs_.val 3 rfl rfl rfl
      have cB1_0 := (HB1_2.out.drew.ext hs_.1).cell 0 rfl
      have cB1_1 := (HB1_2.out.drew.ext hs_.1).cell 1 rfl
      refine Rn.val fun K_ hK_ => ?_
      go_simp
      exact hK_.out _ (Ext.refl _)
    refine RnL.cons (fun g2 A_ W_ hs_ => ?_) ?_
    · have q18_ := hs_.val 4 rfl rfl rfl
      refine Rn.val fun K_ hK_ => ?_
      go_simp
      refine ((HkE.out ▸ mk2_c n d _ (HG.out.ext (HX2.out.drew.trans hs_.1)) Hk0.out.1 Hk0.out.2.1 Hk0.out.2.2)).mono ?_; rintro e W9_ ⟨rfl, e9_⟩; exact hK_.out _ e9_
    refine RnL.cons (fun g2 A_ W_ hs_ => ?_) ?_
    · have q16_ := hs_.val 2 rfl rfl rfl
      have q19_ := hs_.val 5 rfl rfl rfl
      refine Rn.val fun K_ hK_ => ?_
      go_simp
      exact hK_.out _ (Ext.refl _)
    refine RnL.cons (fun g2 A_ W_ hs_ => ?_) ?_
    · have q2_ := (hs_.old 2 (by kernel_rfl) : A_.tmps[2]?.getD undef = .pointer (some ⟨w.heap.size, 0, none⟩))
      refine Rn.val fun K_ hK_ => ?_
      go_simp
      exact hK_.out _ (Ext.refl _)
    refine RnL.cons (fun g2 A_ W_ hs_ => ?_) ?_
    · have q21_ := hs_.val 7 rfl rfl rfl
      have cB0_6 := (HB0_2.out.drew.ext hs_.1).cell 6 rfl
      have cB0_7 := (HB0_2.out.drew.ext hs_.1).cell 7 rfl
      have cB0_8 := (HB0_2.out.drew.ext hs_.1).cell 8 rfl
      have cB0_9 := (HB0_2.out.drew.ext hs_.1).cell 9 rfl
      have cB0_10 := (HB0_2.out.drew.ext hs_.1).cell 10 rfl
      have cB0_11 := (HB0_2.out.drew.ext hs_.1).cell 11 rfl
      refine Rn.val fun K_ hK_ => ?_
      go_simp
      exact hK_.out _ (Ext.refl _)
    refine RnL.cons (fun g2 A_ W_ hs_ => ?_) ?_
    · have q22_ := hs_.val 8 rfl rfl rfl
      refine Rn.val fun K_ hK_ => ?_
      go_simp
      refine ((HbE.out ▸ make_c q _ (HG.out.ext (HX2.out.drew.trans hs_.1)) Hq.out)).mono ?_; rintro e W9_ ⟨rfl, e9_⟩; exact hK_.out _ e9_
    refine RnL.cons (fun g2 A_ W_ hs_ => ?_) ?_
    · have q3_ := (hs_.old 3 (by kernel_rfl) : A_.tmps[3]?.getD undef = .pointer (some ⟨w.heap.size + 1, 0, none⟩))
      refine Rn.val fun K_ hK_ => ?_
      go_simp
      exact hK_.out _ (Ext.refl _)
    refine RnL.cons (fun g2 A_ W_ hs_ => ?_) ?_
    · have q24_ := hs_.val 10 rfl rfl rfl
      have cB1_2 := (HB1_2.out.drew.ext hs_.1).cell 2 rfl
      have cB1_3 := (HB1_2.out.drew.ext hs_.1).cell 3 rfl
      refine Rn.val fun K_ hK_ => ?_
      go_simp
      exact hK_.out _ (Ext.refl _)
    refine RnL.cons (fun g2 A_ W_ hs_ => ?_) ?_
    · have q25_ := hs_.val 11 rfl rfl rfl
      refine Rn.val fun K_ hK_ => ?_
      go_simp
      refine ((HmE.out ▸ mk2_c l e _ (HG.out.ext (HX2.out.drew.trans hs_.1)) Hm0.out.1 Hm0.out.2.1 Hm0.out.2.2)).mono ?_; rintro e W9_ ⟨rfl, e9_⟩; exact hK_.out _ e9_
    refine RnL.cons (fun g2 A_ W_ hs_ => ?_) ?_
    · have q23_ := hs_.val 9 rfl rfl rfl
      have q26_ := hs_.val 12 rfl rfl rfl
      refine Rn.val fun K_ hK_ => ?_
      go_simp
      exact hK_.out _ (Ext.refl _)
    refine RnL.cons (fun g2 A_ W_ hs_ => ?_) ?_
    · refine Rn.mem fun K_ hK_ => ?_
      go_simp
      exact hK_.out
    refine RnL.cons (fun g2 A_ W_ hs_ => ?_) ?_
    · refine Rn.mem fun K_ hK_ => ?_
      go_simp
      exact hK_.out
    refine RnL.cons (fun g2 A_ W_ hs_ => ?_) ?_
    · have q5_ := (hs_.mem 14 rfl rfl rfl).1
      have q20_ := hs_.val 6 rfl rfl rfl
      refine Rn.put (z := #[.string ⟨#[]⟩, .string ⟨#[]⟩, .string ⟨#[]⟩, .string ⟨#[]⟩]) (t := 48) rfl fun hB K_ hK_ => ?_
      have c_0 := hB.cell 0 rfl; have f_0 := hB.free 0
      have c_1 := hB.cell 1 rfl; have f_1 := hB.free 1
      have c_2 := hB.cell 2 rfl; have f_2 := hB.free 2
      have c_3 := hB.cell 3 rfl; have f_3 := hB.free 3
      have HB := Lib.hid hB; clear hB
      go_simp
      exact hK_.out _ (((((Only.refl _ _).set 0 _).set 1 _).set 2 _).set 3 _) ((((HB.out.set 0 _).set 1 _).set 2 _).set 3 _)
    refine RnL.cons (fun g2 A_ W_ hs_ => ?_) ?_
    · have q6_ := (hs_.mem 15 rfl rfl rfl).1
      have q27_ := hs_.val 13 rfl rfl rfl
      refine Rn.put (z := #[.string ⟨#[]⟩, .string ⟨#[]⟩, .string ⟨#[]⟩, .string ⟨#[]⟩]) (t := 48) rfl fun hB K_ hK_ => ?_
      have c_0 := hB.cell 0 rfl; have f_0 := hB.free 0
      have c_1 := hB.cell 1 rfl; have f_1 := hB.free 1
      have c_2 := hB.cell 2 rfl; have f_2 := hB.free 2
      have c_3 := hB.cell 3 rfl; have f_3 := hB.free 3
      have HB := Lib.hid hB; clear hB
      go_simp
      exact hK_.out _ (((((Only.refl _ _).set 0 _).set 1 _).set 2 _).set 3 _) ((((HB.out.set 0 _).set 1 _).set 2 _).set 3 _)
    exact RnL.nil
  simp only [fs, Kd.value, puts, Act.put, List.setIfInBounds_toArray, List.set_cons_zero, List.set_cons_succ, Nat.reduceAdd]
  have HX3 : Hid (Ext w w3) := Lib.hid (HX2.out.drew.trans hx_)
  have HB2_3 : Hid (Blk w3 (g2 14) #[.string (qs a.x), .string (qs a.y), .string (qs a.z), .string (qs k)] 48) := Lib.hid (hm_ 14 _ _ _ _ rfl).2; have HGEB2 : Hid (w.heap.size ≤ g2 14) := Lib.hid (Nat.le_trans HX2.out.size (hm_ 14 _ _ _ _ rfl).1)
  have HB3_3 : Hid (Blk w3 (g2 15) #[.string (qs b.x), .string (qs b.y), .string (qs b.z), .string (qs m)] 48) := Lib.hid (hm_ 15 _ _ _ _ rfl).2; have HGEB3 : Hid (w.heap.size ≤ g2 15) := Lib.hid (Nat.le_trans HX2.out.size (hm_ 15 _ _ _ _ rfl).1)
  have HNEB2B3 : Hid (g2 14 ≠ g2 15) := Lib.hid (hne_ 14 15 (by decide) ⟨_, _, _, _, rfl⟩ ⟨_, _, _, _, rfl⟩)
  clear hx_ hm_ hne_
  generalize g2 14 = i2 at *
  generalize g2 15 = i3 at *
  clear g2
  have c2_0 := HB2_3.out.cell 0 rfl
  have c2_1 := HB2_3.out.cell 1 rfl
  have c2_2 := HB2_3.out.cell 2 rfl
  have c2_3 := HB2_3.out.cell 3 rfl
  have c3_0 := HB3_3.out.cell 0 rfl
  have c3_1 := HB3_3.out.cell 1 rfl
  have c3_2 := HB3_3.out.cell 2 rfl
  have c3_3 := HB3_3.out.cell 3 rfl
  go_wp2_with fail
  refine (vCommon_q ⟨a, k⟩ ⟨b, m⟩ _ (HG.out.ext HX3.out) (Ha.out.mono (by decide)) (Hk.out.mono (by decide)) (Hb.out.mono (by decide)) (Hm.out.mono (by decide)) HZ.out HY.out).mono ?_; rintro e w4 ⟨rfl, e4⟩
  have HX4 : Hid (Ext w w4) := Lib.hid (HX3.out.trans e4)
  have HB2_4 := Lib.hid (Blk.ext HB2_3.out e4)
  have HB3_4 := Lib.hid (Blk.ext HB3_3.out e4)
  clear e4 c2_0 c2_1 c2_2 c2_3 c3_0 c3_1 c3_2 c3_3
  go_wp2_with fail
  refine wp_name (fun W => Ext w W ∧ Blk W (i2) #[.string (qs a.x), .string (qs a.y), .string (qs a.z), .string (qs k)] 48 ∧ Blk W (i3) #[.string (qs b.x), .string (qs b.y), .string (qs b.z), .string (qs m)] 48 ∧ Blk W (w4.heap.size) #[.string ⟨#[]⟩, .string ⟨#[]⟩, .string ⟨#[]⟩] 30 ∧ Blk W (w4.heap.size + 1) #[.string ⟨#[]⟩, .string ⟨#[]⟩, .string ⟨#[]⟩] 30) ⟨((HX4.out.alloc _).alloc _), ((HB2_4.out.alloc _).alloc _), ((HB3_4.out.alloc _).alloc _), ((Blk.new' (w := _) (cs := #[.string ⟨#[]⟩, .string ⟨#[]⟩, .string ⟨#[]⟩]) (t := 30) (by first | rfl | (simp only [World.size_alloc]; done) | (simp only [World.size_alloc]; omega) | simp)).alloc _), (Blk.new' (w := _) (cs := #[.string ⟨#[]⟩, .string ⟨#[]⟩, .string ⟨#[]⟩]) (t := 30) (by first | rfl | (simp only [World.size_alloc]; done) | (simp only [World.size_alloc]; omega) | simp))⟩ ?_
  rintro w5 ⟨e5, bB2_5, bB3_5, bB4_5, bB5_5⟩
  have HX5 := Lib.hid e5; have HB2_5 := Lib.hid bB2_5; have HB3_5 := Lib.hid bB3_5; have HB4_5 := Lib.hid bB4_5; have HB5_5 := Lib.hid bB5_5
  have HGEB4 : Hid (w.heap.size ≤ w4.heap.size) := Lib.hid (by have := HX4.out.size; first | omega | (simp only []; omega) | (simp; omega))
  have HGEB5 : Hid (w.heap.size ≤ w4.heap.size + 1) := Lib.hid (by have := HX4.out.size; first | omega | (simp only []; omega) | (simp; omega))
  clear e5 bB2_5 bB3_5 bB4_5 bB5_5
  refine region_lin [.val (.agg #[.string (qs a.x), .string (qs a.y), .string (qs a.z), .string (qs k)]), .val (.int .i64 0), .val (.agg #[.string (qs b.x), .string (qs b.y), .string (qs b.z), .string (qs m)]), .val (.int .i64 17), .mem (fun b_ => .slice (some ⟨b_, 0, none⟩) 2 2) #[.int .i64 0, .int .i64 17] 32 Option.none, .val (.int .i64 17), .val (.int .i64 17)] (by kernel_rfl) (by kernel_rfl) (by kernel_rfl) ?_ (fun g5 w6 hx_ hm_ hne_ => ?_)
  · skip
    refine RnL.cons (fun g5 A_ W_ hs_ => ?_) ?_
    · have q5_ := (hs_.old 5 (by kernel_rfl) : A_.tmps[5]?.getD undef = .pointer (some ⟨i2, 0, none⟩))
      have cB2_0 := (HB2_5.out.drew.ext hs_.1).cell 0 rfl
      have cB2_1 := (HB2_5.out.drew.ext hs_.1).cell 1 rfl
      have cB2_2 := (HB2_5.out.drew.ext hs_.1).cell 2 rfl
      have cB2_3 := (HB2_5.out.drew.ext hs_.1).cell 3 rfl
      refine Rn.val fun K_ hK_ => ?_
      go_simp
      exact hK_.out _ (Ext.refl _)
    refine RnL.cons (fun g5 A_ W_ hs_ => ?_) ?_
    · have q35_ := hs_.val 0 rfl rfl rfl
      refine Rn.val fun K_ hK_ => ?_
      go_simp
      refine (scp_n ⟨a, k⟩ _ (HG.out.ext (HX5.out.drew.trans hs_.1)) (Ha.out.mono (by decide)) (Hk.out.mono (by decide)) HZ.out).mono ?_; rintro e W9_ ⟨rfl, e9_⟩; exact hK_.out _ e9_
    refine RnL.cons (fun g5 A_ W_ hs_ => ?_) ?_
    · have q6_ := (hs_.old 6 (by kernel_rfl) : A_.tmps[6]?.getD undef = .pointer (some ⟨i3, 0, none⟩))
      have cB3_0 := (HB3_5.out.drew.ext hs_.1).cell 0 rfl
      have cB3_1 := (HB3_5.out.drew.ext hs_.1).cell 1 rfl
      have cB3_2 := (HB3_5.out.drew.ext hs_.1).cell 2 rfl
      have cB3_3 := (HB3_5.out.drew.ext hs_.1).cell 3 rfl
      refine Rn.val fun K_ hK_ => ?_
      go_simp
      exact hK_.out _ (Ext.refl _)
    refine RnL.cons (fun g5 A_ W_ hs_ => ?_) ?_
    · have q37_ := hs_.val 2 rfl rfl rfl
      refine Rn.val fun K_ hK_ => ?_
      go_simp
      refine (scp_z ⟨b, m⟩ _ (HG.out.ext (HX5.out.drew.trans hs_.1)) (Hb.out.mono (by decide)) (Hm.out.mono (by decide)) HY.out).mono ?_; rintro e W9_ ⟨rfl, e9_⟩; exact hK_.out _ e9_
    refine RnL.cons (fun g5 A_ W_ hs_ => ?_) ?_
    · have q36_ := hs_.val 1 rfl rfl rfl
      have q38_ := hs_.val 3 rfl rfl rfl
      refine Rn.mem fun K_ hK_ => ?_
      go_simp
      exact hK_.out
    refine RnL.cons (fun g5 A_ W_ hs_ => ?_) ?_
    · have q39_ := (hs_.mem 4 rfl rfl rfl).1
      refine Rn.val fun K_ hK_ => ?_
      go_simp
      refine (((by decide : ferr [0, 17] = 17) ▸ first2_c 0 17 (g5 4) _ ((hs_.mem 4 rfl rfl rfl).2.2 rfl))).mono ?_; rintro e _ ⟨rfl, rfl⟩; exact hK_.out _ (Ext.refl _)
    refine RnL.cons (fun g5 A_ W_ hs_ => ?_) ?_
    · have q40_ := hs_.val 5 rfl rfl rfl
      refine Rn.val fun K_ hK_ => ?_
      go_simp
      exact hK_.out _ (Ext.refl _)
    exact RnL.nil
  simp only [fs, Kd.value, puts, Act.put, List.setIfInBounds_toArray, List.set_cons_zero, List.set_cons_succ, Nat.reduceAdd]
  have HX6 : Hid (Ext w w6) := Lib.hid (HX5.out.drew.trans hx_)
  have HB2_6 := Lib.hid (HB2_5.out.drew.ext hx_)
  have HB3_6 := Lib.hid (HB3_5.out.drew.ext hx_)
  have HB4_6 := Lib.hid (HB4_5.out.drew.ext hx_)
  have HB5_6 := Lib.hid (HB5_5.out.drew.ext hx_)
  have HB6_6 : Hid (Blk w6 (g5 4) #[.int .i64 0, .int .i64 17] 32) := Lib.hid (hm_ 4 _ _ _ _ rfl).2; have HGEB6 : Hid (w.heap.size ≤ g5 4) := Lib.hid (Nat.le_trans HX5.out.size (hm_ 4 _ _ _ _ rfl).1)
  have HNEB2B6 : Hid (i2 ≠ g5 4) := Lib.hid (Nat.ne_of_lt (Nat.lt_of_lt_of_le HB2_5.out.lt (hm_ 4 _ _ _ _ rfl).1))
  have HNEB3B6 : Hid (i3 ≠ g5 4) := Lib.hid (Nat.ne_of_lt (Nat.lt_of_lt_of_le HB3_5.out.lt (hm_ 4 _ _ _ _ rfl).1))
  have HNEB4B6 : Hid (w4.heap.size ≠ g5 4) := Lib.hid (Nat.ne_of_lt (Nat.lt_of_lt_of_le HB4_5.out.lt (hm_ 4 _ _ _ _ rfl).1))
  have HNEB5B6 : Hid (w4.heap.size + 1 ≠ g5 4) := Lib.hid (Nat.ne_of_lt (Nat.lt_of_lt_of_le HB5_5.out.lt (hm_ 4 _ _ _ _ rfl).1))
  clear hx_ hm_ hne_
  generalize g5 4 = i6 at *
  clear g5
  have c2_0 := HB2_6.out.cell 0 rfl
  have c2_1 := HB2_6.out.cell 1 rfl
  have c2_2 := HB2_6.out.cell 2 rfl
  have c3_0 := HB3_6.out.cell 0 rfl
  have c3_1 := HB3_6.out.cell 1 rfl
  have c3_2 := HB3_6.out.cell 2 rfl
  go_wp2_with fail
  refine (vcr_c a b D _ (HG.out.ext HX6.out) HDE.out Ha.out Hb.out).mono ?_; rintro e w7 ⟨rfl, e7⟩
  have HX7 : Hid (Ext w w7) := Lib.hid (HX6.out.trans e7)
  have HB4_7 := Lib.hid (Blk.ext HB4_6.out e7)
  have HB5_7 := Lib.hid (Blk.ext HB5_6.out e7)
  clear e7 c2_0 c2_1 c2_2 c3_0 c3_1 c3_2
  go_upto_region 7 with fail
  refine wp_name (fun W => Ext w W ∧ Blk W (w4.heap.size) #[.string ⟨#[]⟩, .string ⟨#[]⟩, .string ⟨#[]⟩] 30 ∧ Blk W (w4.heap.size + 1) #[.string ⟨#[]⟩, .string ⟨#[]⟩, .string ⟨#[]⟩] 30 ∧ Blk W (w7.heap.size) #[.string (qs D.x), .string (qs D.y), .string (qs D.z)] 30) ⟨(HX7.out.alloc _), (HB4_7.out.alloc _), (HB5_7.out.alloc _), (Blk.new' (w := _) (cs := #[.string (qs D.x), .string (qs D.y), .string (qs D.z)]) (t := 30) (by first | rfl | (simp only [World.size_alloc]; done) | (simp only [World.size_alloc]; omega) | simp))⟩ ?_
  rintro w8 ⟨e8, bB4_8, bB5_8, bB7_8⟩
  have HX8 := Lib.hid e8; have HB4_8 := Lib.hid bB4_8; have HB5_8 := Lib.hid bB5_8; have HB7_8 := Lib.hid bB7_8
  have HGEB7 : Hid (w.heap.size ≤ w7.heap.size) := Lib.hid (by have := HX7.out.size; first | omega | (simp only []; omega) | (simp; omega))
  clear e8 bB4_8 bB5_8 bB7_8
  have c4_0 := HB4_8.out.cell 0 rfl
  have c4_1 := HB4_8.out.cell 1 rfl
  have c4_2 := HB4_8.out.cell 2 rfl
  have c5_0 := HB5_8.out.cell 0 rfl
  have c5_1 := HB5_8.out.cell 1 rfl
  have c5_2 := HB5_8.out.cell 2 rfl
  go_wp2
  go_ret
  exact ⟨rfl, HX8.out⟩

set_option maxRecDepth 100000 in
set_option maxHeartbeats 16000000 in
theorem common_walk_par (p q : Pla) (n : Int) (d : Nat) (l : Int) (e : Nat) (w : World) (g : Gd w) (hp : PlaOk p) (hq : PlaOk q) (hn : -32768 ≤ n ∧ n ≤ 32767 ∧ d ≤ 255) (hl : -32768 ≤ l ∧ l ≤ 32767 ∧ e ≤ 255) (hz : ¬ ((pvec p).x = 0 ∧ (pvec p).y = 0 ∧ (pvec p).z = 0)) (hy : ¬ ((pvec q).x = 0 ∧ (pvec q).y = 0 ∧ (pvec q).z = 0)) (hc : (vcr (pvec p) (pvec q)).x = 0 ∧ (vcr (pvec p) (pvec q)).y = 0 ∧ (vcr (pvec p) (pvec q)).z = 0) : Calls Tryz.prog 4 #[.agg #[.int .i16 p.n0, .int .u8 (p.d0 : Int), .int .i16 p.n1, .int .u8 (p.d1 : Int), .int .i16 p.n2, .int .u8 (p.d2 : Int), .int .i16 q.n0, .int .u8 (q.d0 : Int), .int .i16 q.n1, .int .u8 (q.d1 : Int), .int .i16 q.n2, .int .u8 (q.d2 : Int)], .agg #[.int .i16 n, .int .u8 (d : Int), .int .i16 l, .int .u8 (e : Int)]] w (Ret w (.bool true)) := by
  have Hp := Lib.hid hp
  have Hq := Lib.hid hq
  have HG := Lib.hid g
  clear hp hq g
  have HC0 := Lib.hid hc; clear hc
  have HZ0 := Lib.hid hz; have HY0 := Lib.hid hy; clear hz hy
  obtain ⟨a, ea⟩ : ∃ a, pvec p = a := ⟨_, rfl⟩
  have HaE := Lib.hid ea; have Ha : Hid (VB 5 a) := Lib.hid (ea ▸ Hp.out.v); clear ea
  obtain ⟨b, eb⟩ : ∃ b, pvec q = b := ⟨_, rfl⟩
  have HbE := Lib.hid eb; have Hb : Hid (VB 5 b) := Lib.hid (eb ▸ Hq.out.v); clear eb
  have Hk0 := Lib.hid hn; clear hn
  obtain ⟨k, ek⟩ : ∃ k, sm n d = k := ⟨_, rfl⟩
  have HkE := Lib.hid ek; have Hk : Hid (QB 5 k) := Lib.hid (ek ▸ sm_qb Hk0.out.1 Hk0.out.2.1 Hk0.out.2.2); clear ek
  have Hm0 := Lib.hid hl; clear hl
  obtain ⟨m, em⟩ : ∃ m, sm l e = m := ⟨_, rfl⟩
  have HmE := Lib.hid em; have Hm : Hid (QB 5 m) := Lib.hid (em ▸ sm_qb Hm0.out.1 Hm0.out.2.1 Hm0.out.2.2); clear em
  obtain ⟨D, eD⟩ : ∃ D, vcr a b = D := ⟨_, rfl⟩
  have HDE := Lib.hid eD; have HD : Hid (VB 21 D) := Lib.hid (eD ▸ vcr_b Ha.out Hb.out); clear eD
  have HZ : Hid (¬ (a.x = 0 ∧ a.y = 0 ∧ a.z = 0)) := Lib.hid (HaE.out ▸ HZ0.out)
  have HY : Hid (¬ (b.x = 0 ∧ b.y = 0 ∧ b.z = 0)) := Lib.hid (HbE.out ▸ HY0.out)
  have HC : Hid (D.x = 0 ∧ D.y = 0 ∧ D.z = 0) := Lib.hid (by have h := HC0.out; rw [HaE.out, HbE.out, HDE.out] at h; exact h)
  go_enter Tryz.func4, Tryz.ntmps4
  go_wp2_with fail
  refine (known_c _ (HG.out.ext (((Ext.refl w).alloc _).alloc _))).mono ?_; rintro e w1 ⟨rfl, e1⟩
  have HX1 : Hid (Ext w w1) := Lib.hid ((((Ext.refl w).alloc _).alloc _).trans e1)
  have HB0_1 : Hid (Blk w1 (w.heap.size) #[.int .i16 p.n0, .int .u8 (p.d0 : Int), .int .i16 p.n1, .int .u8 (p.d1 : Int), .int .i16 p.n2, .int .u8 (p.d2 : Int), .int .i16 q.n0, .int .u8 (q.d0 : Int), .int .i16 q.n1, .int .u8 (q.d1 : Int), .int .i16 q.n2, .int .u8 (q.d2 : Int)] 44) := Lib.hid (Blk.ext ((Blk.new' (w := _) (cs := #[.int .i16 p.n0, .int .u8 (p.d0 : Int), .int .i16 p.n1, .int .u8 (p.d1 : Int), .int .i16 p.n2, .int .u8 (p.d2 : Int), .int .i16 q.n0, .int .u8 (q.d0 : Int), .int .i16 q.n1, .int .u8 (q.d1 : Int), .int .i16 q.n2, .int .u8 (q.d2 : Int)]) (t := 44) (by first | rfl | (simp only [World.size_alloc]; done) | (simp only [World.size_alloc]; omega) | simp)).alloc _) e1)
  have HB1_1 : Hid (Blk w1 (w.heap.size + 1) #[.int .i16 n, .int .u8 (d : Int), .int .i16 l, .int .u8 (e : Int)] 45) := Lib.hid (Blk.ext (Blk.new' (w := _) (cs := #[.int .i16 n, .int .u8 (d : Int), .int .i16 l, .int .u8 (e : Int)]) (t := 45) (by first | rfl | (simp only [World.size_alloc]; done) | (simp only [World.size_alloc]; omega) | simp)) e1)
  have HGEB0 : Hid (w.heap.size ≤ w.heap.size) := Lib.hid (by first | omega | (simp only []; omega) | (simp; omega))
  have HGEB1 : Hid (w.heap.size ≤ w.heap.size + 1) := Lib.hid (by first | omega | (simp only []; omega) | (simp; omega))
  clear e1
  go_wp2_with fail
  refine wp_name (fun W => Ext w W ∧ Blk W (w.heap.size) #[.int .i16 p.n0, .int .u8 (p.d0 : Int), .int .i16 p.n1, .int .u8 (p.d1 : Int), .int .i16 p.n2, .int .u8 (p.d2 : Int), .int .i16 q.n0, .int .u8 (q.d0 : Int), .int .i16 q.n1, .int .u8 (q.d1 : Int), .int .i16 q.n2, .int .u8 (q.d2 : Int)] 44 ∧ Blk W (w.heap.size + 1) #[.int .i16 n, .int .u8 (d : Int), .int .i16 l, .int .u8 (e : Int)] 45) ⟨HX1.out, HB0_1.out, HB1_1.out⟩ ?_
  rintro w2 ⟨e2, bB0_2, bB1_2⟩
  have HX2 := Lib.hid e2; have HB0_2 := Lib.hid bB0_2; have HB1_2 := Lib.hid bB1_2
  clear e2 bB0_2 bB1_2
  refine region_lin [.val (.pointer (some ⟨w.heap.size, 0, none⟩)), .val (.agg #[.int .i16 p.n0, .int .u8 (p.d0 : Int), .int .i16 p.n1, .int .u8 (p.d1 : Int), .int .i16 p.n2, .int .u8 (p.d2 : Int)]), .val (.agg #[.string (qs a.x), .string (qs a.y), .string (qs a.z)]), .val (.pointer (some ⟨w.heap.size + 1, 0, none⟩)), .val (.agg #[.int .i16 n, .int .u8 (d : Int)]), .val (.string (qs k)), .val (.agg #[.string (qs a.x), .string (qs a.y), .string (qs a.z), .string (qs k)]), .val (.pointer (some ⟨w.heap.size, 6, none⟩)), .val (.agg #[.int .i16 q.n0, .int .u8 (q.d0 : Int), .int .i16 q.n1, .int .u8 (q.d1 : Int), .int .i16 q.n2, .int .u8 (q.d2 : Int)]), .val (.agg #[.string (qs b.x), .string (qs b.y), .string (qs b.z)]), .val (.pointer (some ⟨w.heap.size + 1, 2, none⟩)), .val (.agg #[.int .i16 l, .int .u8 (e : Int)]), .val (.string (qs m)), .val (.agg #[.string (qs b.x), .string (qs b.y), .string (qs b.z), .string (qs m)]), .mem (fun b_ => .pointer (some ⟨b_, 0, none⟩)) #[.string ⟨#[]⟩, .string ⟨#[]⟩, .string ⟨#[]⟩, .string ⟨#[]⟩] 48 (Option.some 16), .mem (fun b_ => .pointer (some ⟨b_, 0, none⟩)) #[.string ⟨#[]⟩, .string ⟨#[]⟩, .string ⟨#[]⟩, .string ⟨#[]⟩] 48 (Option.some 17), .put 14 #[.string (qs a.x), .string (qs a.y), .string (qs a.z), .string (qs k)], .put 15 #[.string (qs b.x), .string (qs b.y), .string (qs b.z), .string (qs m)]] (by kernel_rfl) (by kernel_rfl) (by kernel_rfl) ?_ (fun g2 w3 hx_ hm_ hne_ => ?_)
  · skip
    refine RnL.cons (fun g2 A_ W_ hs_ => ?_) ?_
    · have q2_ := (hs_.old 2 (by kernel_rfl) : A_.tmps[2]?.getD undef = .pointer (some ⟨w.heap.size, 0, none⟩))
      refine Rn.val fun K_ hK_ => ?_
      go_simp
      exact hK_.out _ (Ext.refl _)
    refine RnL.cons (fun g2 A_ W_ hs_ => ?_) ?_
    · have q14_ := hs_.val 0 rfl rfl rfl
      have cB0_0 := (HB0_2.out.drew.ext hs_.1).cell 0 rfl
      have cB0_1 := (HB0_2.out.drew.ext hs_.1).cell 1 rfl
      have cB0_2 := (HB0_2.out.drew.ext hs_.1).cell 2 rfl
      have cB0_3 := (HB0_2.out.drew.ext hs_.1).cell 3 rfl
      have cB0_4 := (HB0_2.out.drew.ext hs_.1).cell 4 rfl
      have cB0_5 := (HB0_2.out.drew.ext hs_.1).cell 5 rfl
      refine Rn.val fun K_ hK_ => ?_
      go_simp
      exact hK_.out _ (Ext.refl _)
    refine RnL.cons (fun g2 A_ W_ hs_ => ?_) ?_
    · have q15_ := hs_.val 1 rfl rfl rfl
      refine Rn.val fun K_ hK_ => ?_
      go_simp
      refine ((HaE.out ▸ make_c p _ (HG.out.ext (HX2.out.drew.trans hs_.1)) Hp.out)).mono ?_; rintro e W9_ ⟨rfl, e9_⟩; exact hK_.out _ e9_
    refine RnL.cons (fun g2 A_ W_ hs_ => ?_) ?_
    · have q3_ := (hs_.old 3 (by kernel_rfl) : A_.tmps[3]?.getD undef = .pointer (some ⟨w.heap.size + 1, 0, none⟩))
      refine Rn.val fun K_ hK_ => ?_
      go_simp
      exact hK_.out _ (Ext.refl _)
    refine RnL.cons (fun g2 A_ W_ hs_ => ?_) ?_
    · have q17_ := hs_.val 3 rfl rfl rfl
      have cB1_0 := (HB1_2.out.drew.ext hs_.1).cell 0 rfl
      have cB1_1 := (HB1_2.out.drew.ext hs_.1).cell 1 rfl
      refine Rn.val fun K_ hK_ => ?_
      go_simp
      exact hK_.out _ (Ext.refl _)
    refine RnL.cons (fun g2 A_ W_ hs_ => ?_) ?_
    · have q18_ := hs_.val 4 rfl rfl rfl
      refine Rn.val fun K_ hK_ => ?_
      go_simp
      refine ((HkE.out ▸ mk2_c n d _ (HG.out.ext (HX2.out.drew.trans hs_.1)) Hk0.out.1 Hk0.out.2.1 Hk0.out.2.2)).mono ?_; rintro e W9_ ⟨rfl, e9_⟩; exact hK_.out _ e9_
    refine RnL.cons (fun g2 A_ W_ hs_ => ?_) ?_
    · have q16_ := hs_.val 2 rfl rfl rfl
      have q19_ := hs_.val 5 rfl rfl rfl
      refine Rn.val fun K_ hK_ => ?_
      go_simp
      exact hK_.out _ (Ext.refl _)
    refine RnL.cons (fun g2 A_ W_ hs_ => ?_) ?_
    · have q2_ := (hs_.old 2 (by kernel_rfl) : A_.tmps[2]?.getD undef = .pointer (some ⟨w.heap.size, 0, none⟩))
      refine Rn.val fun K_ hK_ => ?_
      go_simp
      exact hK_.out _ (Ext.refl _)
    refine RnL.cons (fun g2 A_ W_ hs_ => ?_) ?_
    · have q21_ := hs_.val 7 rfl rfl rfl
      have cB0_6 := (HB0_2.out.drew.ext hs_.1).cell 6 rfl
      have cB0_7 := (HB0_2.out.drew.ext hs_.1).cell 7 rfl
      have cB0_8 := (HB0_2.out.drew.ext hs_.1).cell 8 rfl
      have cB0_9 := (HB0_2.out.drew.ext hs_.1).cell 9 rfl
      have cB0_10 := (HB0_2.out.drew.ext hs_.1).cell 10 rfl
      have cB0_11 := (HB0_2.out.drew.ext hs_.1).cell 11 rfl
      refine Rn.val fun K_ hK_ => ?_
      go_simp
      exact hK_.out _ (Ext.refl _)
    refine RnL.cons (fun g2 A_ W_ hs_ => ?_) ?_
    · have q22_ := hs_.val 8 rfl rfl rfl
      refine Rn.val fun K_ hK_ => ?_
      go_simp
      refine ((HbE.out ▸ make_c q _ (HG.out.ext (HX2.out.drew.trans hs_.1)) Hq.out)).mono ?_; rintro e W9_ ⟨rfl, e9_⟩; exact hK_.out _ e9_
    refine RnL.cons (fun g2 A_ W_ hs_ => ?_) ?_
    · have q3_ := (hs_.old 3 (by kernel_rfl) : A_.tmps[3]?.getD undef = .pointer (some ⟨w.heap.size + 1, 0, none⟩))
      refine Rn.val fun K_ hK_ => ?_
      go_simp
      exact hK_.out _ (Ext.refl _)
    refine RnL.cons (fun g2 A_ W_ hs_ => ?_) ?_
    · have q24_ := hs_.val 10 rfl rfl rfl
      have cB1_2 := (HB1_2.out.drew.ext hs_.1).cell 2 rfl
      have cB1_3 := (HB1_2.out.drew.ext hs_.1).cell 3 rfl
      refine Rn.val fun K_ hK_ => ?_
      go_simp
      exact hK_.out _ (Ext.refl _)
    refine RnL.cons (fun g2 A_ W_ hs_ => ?_) ?_
    · have q25_ := hs_.val 11 rfl rfl rfl
      refine Rn.val fun K_ hK_ => ?_
      go_simp
      refine ((HmE.out ▸ mk2_c l e _ (HG.out.ext (HX2.out.drew.trans hs_.1)) Hm0.out.1 Hm0.out.2.1 Hm0.out.2.2)).mono ?_; rintro e W9_ ⟨rfl, e9_⟩; exact hK_.out _ e9_
    refine RnL.cons (fun g2 A_ W_ hs_ => ?_) ?_
    · have q23_ := hs_.val 9 rfl rfl rfl
      have q26_ := hs_.val 12 rfl rfl rfl
      refine Rn.val fun K_ hK_ => ?_
      go_simp
      exact hK_.out _ (Ext.refl _)
    refine RnL.cons (fun g2 A_ W_ hs_ => ?_) ?_
    · refine Rn.mem fun K_ hK_ => ?_
      go_simp
      exact hK_.out
    refine RnL.cons (fun g2 A_ W_ hs_ => ?_) ?_
    · refine Rn.mem fun K_ hK_ => ?_
      go_simp
      exact hK_.out
    refine RnL.cons (fun g2 A_ W_ hs_ => ?_) ?_
    · have q5_ := (hs_.mem 14 rfl rfl rfl).1
      have q20_ := hs_.val 6 rfl rfl rfl
      refine Rn.put (z := #[.string ⟨#[]⟩, .string ⟨#[]⟩, .string ⟨#[]⟩, .string ⟨#[]⟩]) (t := 48) rfl fun hB K_ hK_ => ?_
      have c_0 := hB.cell 0 rfl; have f_0 := hB.free 0
      have c_1 := hB.cell 1 rfl; have f_1 := hB.free 1
      have c_2 := hB.cell 2 rfl; have f_2 := hB.free 2
      have c_3 := hB.cell 3 rfl; have f_3 := hB.free 3
      have HB := Lib.hid hB; clear hB
      go_simp
      exact hK_.out _ (((((Only.refl _ _).set 0 _).set 1 _).set 2 _).set 3 _) ((((HB.out.set 0 _).set 1 _).set 2 _).set 3 _)
    refine RnL.cons (fun g2 A_ W_ hs_ => ?_) ?_
    · have q6_ := (hs_.mem 15 rfl rfl rfl).1
      have q27_ := hs_.val 13 rfl rfl rfl
      refine Rn.put (z := #[.string ⟨#[]⟩, .string ⟨#[]⟩, .string ⟨#[]⟩, .string ⟨#[]⟩]) (t := 48) rfl fun hB K_ hK_ => ?_
      have c_0 := hB.cell 0 rfl; have f_0 := hB.free 0
      have c_1 := hB.cell 1 rfl; have f_1 := hB.free 1
      have c_2 := hB.cell 2 rfl; have f_2 := hB.free 2
      have c_3 := hB.cell 3 rfl; have f_3 := hB.free 3
      have HB := Lib.hid hB; clear hB
      go_simp
      exact hK_.out _ (((((Only.refl _ _).set 0 _).set 1 _).set 2 _).set 3 _) ((((HB.out.set 0 _).set 1 _).set 2 _).set 3 _)
    exact RnL.nil
  simp only [fs, Kd.value, puts, Act.put, List.setIfInBounds_toArray, List.set_cons_zero, List.set_cons_succ, Nat.reduceAdd]
  have HX3 : Hid (Ext w w3) := Lib.hid (HX2.out.drew.trans hx_)
  have HB2_3 : Hid (Blk w3 (g2 14) #[.string (qs a.x), .string (qs a.y), .string (qs a.z), .string (qs k)] 48) := Lib.hid (hm_ 14 _ _ _ _ rfl).2; have HGEB2 : Hid (w.heap.size ≤ g2 14) := Lib.hid (Nat.le_trans HX2.out.size (hm_ 14 _ _ _ _ rfl).1)
  have HB3_3 : Hid (Blk w3 (g2 15) #[.string (qs b.x), .string (qs b.y), .string (qs b.z), .string (qs m)] 48) := Lib.hid (hm_ 15 _ _ _ _ rfl).2; have HGEB3 : Hid (w.heap.size ≤ g2 15) := Lib.hid (Nat.le_trans HX2.out.size (hm_ 15 _ _ _ _ rfl).1)
  have HNEB2B3 : Hid (g2 14 ≠ g2 15) := Lib.hid (hne_ 14 15 (by decide) ⟨_, _, _, _, rfl⟩ ⟨_, _, _, _, rfl⟩)
  clear hx_ hm_ hne_
  generalize g2 14 = i2 at *
  generalize g2 15 = i3 at *
  clear g2
  have c2_0 := HB2_3.out.cell 0 rfl
  have c2_1 := HB2_3.out.cell 1 rfl
  have c2_2 := HB2_3.out.cell 2 rfl
  have c2_3 := HB2_3.out.cell 3 rfl
  have c3_0 := HB3_3.out.cell 0 rfl
  have c3_1 := HB3_3.out.cell 1 rfl
  have c3_2 := HB3_3.out.cell 2 rfl
  have c3_3 := HB3_3.out.cell 3 rfl
  go_wp2_with fail
  refine (vCommon_par ⟨a, k⟩ ⟨b, m⟩ _ (HG.out.ext HX3.out) (Ha.out.mono (by decide)) (Hk.out.mono (by decide)) (Hb.out.mono (by decide)) (Hm.out.mono (by decide)) HZ.out HY.out (show a.y * b.z - a.z * b.y = 0 by have h := HC.out.1; rw [← HDE.out] at h; exact h) (show a.z * b.x - a.x * b.z = 0 by have h := HC.out.2.1; rw [← HDE.out] at h; exact h) (show a.x * b.y - a.y * b.x = 0 by have h := HC.out.2.2; rw [← HDE.out] at h; exact h)).mono ?_; rintro e w4 ⟨rfl, e4⟩
  have HX4 : Hid (Ext w w4) := Lib.hid (HX3.out.trans e4)
  have HB2_4 := Lib.hid (Blk.ext HB2_3.out e4)
  have HB3_4 := Lib.hid (Blk.ext HB3_3.out e4)
  clear e4 c2_0 c2_1 c2_2 c2_3 c3_0 c3_1 c3_2 c3_3
  go_wp2_with fail
  refine wp_name (fun W => Ext w W ∧ Blk W (i2) #[.string (qs a.x), .string (qs a.y), .string (qs a.z), .string (qs k)] 48 ∧ Blk W (i3) #[.string (qs b.x), .string (qs b.y), .string (qs b.z), .string (qs m)] 48 ∧ Blk W (w4.heap.size) #[.string ⟨#[]⟩, .string ⟨#[]⟩, .string ⟨#[]⟩] 30 ∧ Blk W (w4.heap.size + 1) #[.string ⟨#[]⟩, .string ⟨#[]⟩, .string ⟨#[]⟩] 30) ⟨((HX4.out.alloc _).alloc _), ((HB2_4.out.alloc _).alloc _), ((HB3_4.out.alloc _).alloc _), ((Blk.new' (w := _) (cs := #[.string ⟨#[]⟩, .string ⟨#[]⟩, .string ⟨#[]⟩]) (t := 30) (by first | rfl | (simp only [World.size_alloc]; done) | (simp only [World.size_alloc]; omega) | simp)).alloc _), (Blk.new' (w := _) (cs := #[.string ⟨#[]⟩, .string ⟨#[]⟩, .string ⟨#[]⟩]) (t := 30) (by first | rfl | (simp only [World.size_alloc]; done) | (simp only [World.size_alloc]; omega) | simp))⟩ ?_
  rintro w5 ⟨e5, bB2_5, bB3_5, bB4_5, bB5_5⟩
  have HX5 := Lib.hid e5; have HB2_5 := Lib.hid bB2_5; have HB3_5 := Lib.hid bB3_5; have HB4_5 := Lib.hid bB4_5; have HB5_5 := Lib.hid bB5_5
  have HGEB4 : Hid (w.heap.size ≤ w4.heap.size) := Lib.hid (by have := HX4.out.size; first | omega | (simp only []; omega) | (simp; omega))
  have HGEB5 : Hid (w.heap.size ≤ w4.heap.size + 1) := Lib.hid (by have := HX4.out.size; first | omega | (simp only []; omega) | (simp; omega))
  clear e5 bB2_5 bB3_5 bB4_5 bB5_5
  refine region_lin [.val (.agg #[.string (qs a.x), .string (qs a.y), .string (qs a.z), .string (qs k)]), .val (.int .i64 0), .val (.agg #[.string (qs b.x), .string (qs b.y), .string (qs b.z), .string (qs m)]), .val (.int .i64 0), .mem (fun b_ => .slice (some ⟨b_, 0, none⟩) 2 2) #[.int .i64 0, .int .i64 0] 32 Option.none, .val (.int .i64 0), .val (.int .i64 0)] (by kernel_rfl) (by kernel_rfl) (by kernel_rfl) ?_ (fun g5 w6 hx_ hm_ hne_ => ?_)
  · skip
    refine RnL.cons (fun g5 A_ W_ hs_ => ?_) ?_
    · have q5_ := (hs_.old 5 (by kernel_rfl) : A_.tmps[5]?.getD undef = .pointer (some ⟨i2, 0, none⟩))
      have cB2_0 := (HB2_5.out.drew.ext hs_.1).cell 0 rfl
      have cB2_1 := (HB2_5.out.drew.ext hs_.1).cell 1 rfl
      have cB2_2 := (HB2_5.out.drew.ext hs_.1).cell 2 rfl
      have cB2_3 := (HB2_5.out.drew.ext hs_.1).cell 3 rfl
      refine Rn.val fun K_ hK_ => ?_
      go_simp
      exact hK_.out _ (Ext.refl _)
    refine RnL.cons (fun g5 A_ W_ hs_ => ?_) ?_
    · have q35_ := hs_.val 0 rfl rfl rfl
      refine Rn.val fun K_ hK_ => ?_
      go_simp
      refine (scp_n ⟨a, k⟩ _ (HG.out.ext (HX5.out.drew.trans hs_.1)) (Ha.out.mono (by decide)) (Hk.out.mono (by decide)) HZ.out).mono ?_; rintro e W9_ ⟨rfl, e9_⟩; exact hK_.out _ e9_
    refine RnL.cons (fun g5 A_ W_ hs_ => ?_) ?_
    · have q6_ := (hs_.old 6 (by kernel_rfl) : A_.tmps[6]?.getD undef = .pointer (some ⟨i3, 0, none⟩))
      have cB3_0 := (HB3_5.out.drew.ext hs_.1).cell 0 rfl
      have cB3_1 := (HB3_5.out.drew.ext hs_.1).cell 1 rfl
      have cB3_2 := (HB3_5.out.drew.ext hs_.1).cell 2 rfl
      have cB3_3 := (HB3_5.out.drew.ext hs_.1).cell 3 rfl
      refine Rn.val fun K_ hK_ => ?_
      go_simp
      exact hK_.out _ (Ext.refl _)
    refine RnL.cons (fun g5 A_ W_ hs_ => ?_) ?_
    · have q37_ := hs_.val 2 rfl rfl rfl
      refine Rn.val fun K_ hK_ => ?_
      go_simp
      refine (scp_n ⟨b, m⟩ _ (HG.out.ext (HX5.out.drew.trans hs_.1)) (Hb.out.mono (by decide)) (Hm.out.mono (by decide)) HY.out).mono ?_; rintro e W9_ ⟨rfl, e9_⟩; exact hK_.out _ e9_
    refine RnL.cons (fun g5 A_ W_ hs_ => ?_) ?_
    · have q36_ := hs_.val 1 rfl rfl rfl
      have q38_ := hs_.val 3 rfl rfl rfl
      refine Rn.mem fun K_ hK_ => ?_
      go_simp
      exact hK_.out
    refine RnL.cons (fun g5 A_ W_ hs_ => ?_) ?_
    · have q39_ := (hs_.mem 4 rfl rfl rfl).1
      refine Rn.val fun K_ hK_ => ?_
      go_simp
      refine (((by decide : ferr [0, 0] = 0) ▸ first2_c 0 0 (g5 4) _ ((hs_.mem 4 rfl rfl rfl).2.2 rfl))).mono ?_; rintro e _ ⟨rfl, rfl⟩; exact hK_.out _ (Ext.refl _)
    refine RnL.cons (fun g5 A_ W_ hs_ => ?_) ?_
    · have q40_ := hs_.val 5 rfl rfl rfl
      refine Rn.val fun K_ hK_ => ?_
      go_simp
      exact hK_.out _ (Ext.refl _)
    exact RnL.nil
  simp only [fs, Kd.value, puts, Act.put, List.setIfInBounds_toArray, List.set_cons_zero, List.set_cons_succ, Nat.reduceAdd]
  have HX6 : Hid (Ext w w6) := Lib.hid (HX5.out.drew.trans hx_)
  have HB2_6 := Lib.hid (HB2_5.out.drew.ext hx_)
  have HB3_6 := Lib.hid (HB3_5.out.drew.ext hx_)
  have HB4_6 := Lib.hid (HB4_5.out.drew.ext hx_)
  have HB5_6 := Lib.hid (HB5_5.out.drew.ext hx_)
  have HB6_6 : Hid (Blk w6 (g5 4) #[.int .i64 0, .int .i64 0] 32) := Lib.hid (hm_ 4 _ _ _ _ rfl).2; have HGEB6 : Hid (w.heap.size ≤ g5 4) := Lib.hid (Nat.le_trans HX5.out.size (hm_ 4 _ _ _ _ rfl).1)
  have HNEB2B6 : Hid (i2 ≠ g5 4) := Lib.hid (Nat.ne_of_lt (Nat.lt_of_lt_of_le HB2_5.out.lt (hm_ 4 _ _ _ _ rfl).1))
  have HNEB3B6 : Hid (i3 ≠ g5 4) := Lib.hid (Nat.ne_of_lt (Nat.lt_of_lt_of_le HB3_5.out.lt (hm_ 4 _ _ _ _ rfl).1))
  have HNEB4B6 : Hid (w4.heap.size ≠ g5 4) := Lib.hid (Nat.ne_of_lt (Nat.lt_of_lt_of_le HB4_5.out.lt (hm_ 4 _ _ _ _ rfl).1))
  have HNEB5B6 : Hid (w4.heap.size + 1 ≠ g5 4) := Lib.hid (Nat.ne_of_lt (Nat.lt_of_lt_of_le HB5_5.out.lt (hm_ 4 _ _ _ _ rfl).1))
  clear hx_ hm_ hne_
  generalize g5 4 = i6 at *
  clear g5
  have c2_0 := HB2_6.out.cell 0 rfl
  have c2_1 := HB2_6.out.cell 1 rfl
  have c2_2 := HB2_6.out.cell 2 rfl
  have c3_0 := HB3_6.out.cell 0 rfl
  have c3_1 := HB3_6.out.cell 1 rfl
  have c3_2 := HB3_6.out.cell 2 rfl
  go_wp2_with fail
  refine (vcr_c a b D _ (HG.out.ext HX6.out) HDE.out Ha.out Hb.out).mono ?_; rintro e w7 ⟨rfl, e7⟩
  have HX7 : Hid (Ext w w7) := Lib.hid (HX6.out.trans e7)
  have HB4_7 := Lib.hid (Blk.ext HB4_6.out e7)
  have HB5_7 := Lib.hid (Blk.ext HB5_6.out e7)
  clear e7 c2_0 c2_1 c2_2 c3_0 c3_1 c3_2
  go_upto_region 7 with fail
  refine wp_name (fun W => Ext w W ∧ Blk W (w4.heap.size) #[.string ⟨#[]⟩, .string ⟨#[]⟩, .string ⟨#[]⟩] 30 ∧ Blk W (w4.heap.size + 1) #[.string ⟨#[]⟩, .string ⟨#[]⟩, .string ⟨#[]⟩] 30 ∧ Blk W (w7.heap.size) #[.string (qs D.x), .string (qs D.y), .string (qs D.z)] 30) ⟨(HX7.out.alloc _), (HB4_7.out.alloc _), (HB5_7.out.alloc _), (Blk.new' (w := _) (cs := #[.string (qs D.x), .string (qs D.y), .string (qs D.z)]) (t := 30) (by first | rfl | (simp only [World.size_alloc]; done) | (simp only [World.size_alloc]; omega) | simp))⟩ ?_
  rintro w8 ⟨e8, bB4_8, bB5_8, bB7_8⟩
  have HX8 := Lib.hid e8; have HB4_8 := Lib.hid bB4_8; have HB5_8 := Lib.hid bB5_8; have HB7_8 := Lib.hid bB7_8
  have HGEB7 : Hid (w.heap.size ≤ w7.heap.size) := Lib.hid (by have := HX7.out.size; first | omega | (simp only []; omega) | (simp; omega))
  clear e8 bB4_8 bB5_8 bB7_8
  have c7_0 := HB7_8.out.cell 0 rfl
  have c7_1 := HB7_8.out.cell 1 rfl
  have c7_2 := HB7_8.out.cell 2 rfl
  go_wp2_with fail
  refine (szero_t D _ HC.out).mono ?_; rintro e w9 ⟨rfl, e9⟩
  have HX9 : Hid (Ext w w9) := Lib.hid (HX8.out.trans e9)
  have HB4_9 := Lib.hid (Blk.ext HB4_8.out e9)
  have HB5_9 := Lib.hid (Blk.ext HB5_8.out e9)
  clear e9 c7_0 c7_1 c7_2
  have c4_0 := HB4_9.out.cell 0 rfl
  have c4_1 := HB4_9.out.cell 1 rfl
  have c4_2 := HB4_9.out.cell 2 rfl
  have c5_0 := HB5_9.out.cell 0 rfl
  have c5_1 := HB5_9.out.cell 1 rfl
  have c5_2 := HB5_9.out.cell 2 rfl
  go_wp2
  go_ret
  exact ⟨rfl, HX9.out⟩

set_option maxRecDepth 100000 in
set_option maxHeartbeats 16000000 in
theorem common_walk_0 (p q : Pla) (n : Int) (d : Nat) (l : Int) (e : Nat) (w : World) (g : Gd w) (hp : PlaOk p) (hq : PlaOk q) (hn : -32768 ≤ n ∧ n ≤ 32767 ∧ d ≤ 255) (hl : -32768 ≤ l ∧ l ≤ 32767 ∧ e ≤ 255) (hz : ¬ ((pvec p).x = 0 ∧ (pvec p).y = 0 ∧ (pvec p).z = 0)) (hy : ¬ ((pvec q).x = 0 ∧ (pvec q).y = 0 ∧ (pvec q).z = 0)) (hc : (vcr (pvec p) (pvec q)).x ≠ 0) : Calls Tryz.prog 4 #[.agg #[.int .i16 p.n0, .int .u8 (p.d0 : Int), .int .i16 p.n1, .int .u8 (p.d1 : Int), .int .i16 p.n2, .int .u8 (p.d2 : Int), .int .i16 q.n0, .int .u8 (q.d0 : Int), .int .i16 q.n1, .int .u8 (q.d1 : Int), .int .i16 q.n2, .int .u8 (q.d2 : Int)], .agg #[.int .i16 n, .int .u8 (d : Int), .int .i16 l, .int .u8 (e : Int)]] w (Ret w (.bool true)) := by
  have Hp := Lib.hid hp
  have Hq := Lib.hid hq
  have HG := Lib.hid g
  clear hp hq g
  have HC0 := Lib.hid hc; clear hc
  have HZ0 := Lib.hid hz; have HY0 := Lib.hid hy; clear hz hy
  obtain ⟨a, ea⟩ : ∃ a, pvec p = a := ⟨_, rfl⟩
  have HaE := Lib.hid ea; have Ha : Hid (VB 5 a) := Lib.hid (ea ▸ Hp.out.v); clear ea
  obtain ⟨b, eb⟩ : ∃ b, pvec q = b := ⟨_, rfl⟩
  have HbE := Lib.hid eb; have Hb : Hid (VB 5 b) := Lib.hid (eb ▸ Hq.out.v); clear eb
  have Hk0 := Lib.hid hn; clear hn
  obtain ⟨k, ek⟩ : ∃ k, sm n d = k := ⟨_, rfl⟩
  have HkE := Lib.hid ek; have Hk : Hid (QB 5 k) := Lib.hid (ek ▸ sm_qb Hk0.out.1 Hk0.out.2.1 Hk0.out.2.2); clear ek
  have Hm0 := Lib.hid hl; clear hl
  obtain ⟨m, em⟩ : ∃ m, sm l e = m := ⟨_, rfl⟩
  have HmE := Lib.hid em; have Hm : Hid (QB 5 m) := Lib.hid (em ▸ sm_qb Hm0.out.1 Hm0.out.2.1 Hm0.out.2.2); clear em
  obtain ⟨D, eD⟩ : ∃ D, vcr a b = D := ⟨_, rfl⟩
  have HDE := Lib.hid eD; have HD : Hid (VB 21 D) := Lib.hid (eD ▸ vcr_b Ha.out Hb.out); clear eD
  have HZ : Hid (¬ (a.x = 0 ∧ a.y = 0 ∧ a.z = 0)) := Lib.hid (HaE.out ▸ HZ0.out)
  have HY : Hid (¬ (b.x = 0 ∧ b.y = 0 ∧ b.z = 0)) := Lib.hid (HbE.out ▸ HY0.out)
  have HC : Hid (D.x ≠ 0) := Lib.hid (by have h := HC0.out; rw [HaE.out, HbE.out, HDE.out] at h; exact h)
  obtain ⟨U, eU⟩ : ∃ U, (k * b.z - a.z * m) / D.x = U := ⟨_, rfl⟩
  have HUE := Lib.hid eU; have HU : Hid (QB 42 U) := Lib.hid (eU ▸ quo_b Hk.out Hb.out.z Ha.out.z Hm.out HD.out.x); clear eU
  obtain ⟨V, eV⟩ : ∃ V, (a.y * m - k * b.y) / D.x = V := ⟨_, rfl⟩
  have HVE := Lib.hid eV; have HV : Hid (QB 42 V) := Lib.hid (eV ▸ quo_b Ha.out.y Hm.out Hk.out Hb.out.y HD.out.x); clear eV
  have HBB := Lib.hid (common_b0 HDE.out HUE.out HVE.out HC.out)
  have hd0 := HC.out
  have hd0_t := qs_not0 hd0
  have hd0_n := bne_t hd0_t
  clear hd0
  go_enter Tryz.func4, Tryz.ntmps4
  go_wp2_with fail
  refine (known_c _ (HG.out.ext (((Ext.refl w).alloc _).alloc _))).mono ?_; rintro e w1 ⟨rfl, e1⟩
  have HX1 : Hid (Ext w w1) := Lib.hid ((((Ext.refl w).alloc _).alloc _).trans e1)
  have HB0_1 : Hid (Blk w1 (w.heap.size) #[.int .i16 p.n0, .int .u8 (p.d0 : Int), .int .i16 p.n1, .int .u8 (p.d1 : Int), .int .i16 p.n2, .int .u8 (p.d2 : Int), .int .i16 q.n0, .int .u8 (q.d0 : Int), .int .i16 q.n1, .int .u8 (q.d1 : Int), .int .i16 q.n2, .int .u8 (q.d2 : Int)] 44) := Lib.hid (Blk.ext ((Blk.new' (w := _) (cs := #[.int .i16 p.n0, .int .u8 (p.d0 : Int), .int .i16 p.n1, .int .u8 (p.d1 : Int), .int .i16 p.n2, .int .u8 (p.d2 : Int), .int .i16 q.n0, .int .u8 (q.d0 : Int), .int .i16 q.n1, .int .u8 (q.d1 : Int), .int .i16 q.n2, .int .u8 (q.d2 : Int)]) (t := 44) (by first | rfl | (simp only [World.size_alloc]; done) | (simp only [World.size_alloc]; omega) | simp)).alloc _) e1)
  have HB1_1 : Hid (Blk w1 (w.heap.size + 1) #[.int .i16 n, .int .u8 (d : Int), .int .i16 l, .int .u8 (e : Int)] 45) := Lib.hid (Blk.ext (Blk.new' (w := _) (cs := #[.int .i16 n, .int .u8 (d : Int), .int .i16 l, .int .u8 (e : Int)]) (t := 45) (by first | rfl | (simp only [World.size_alloc]; done) | (simp only [World.size_alloc]; omega) | simp)) e1)
  have HGEB0 : Hid (w.heap.size ≤ w.heap.size) := Lib.hid (by first | omega | (simp only []; omega) | (simp; omega))
  have HGEB1 : Hid (w.heap.size ≤ w.heap.size + 1) := Lib.hid (by first | omega | (simp only []; omega) | (simp; omega))
  clear e1
  go_wp2_with fail
  refine wp_name (fun W => Ext w W ∧ Blk W (w.heap.size) #[.int .i16 p.n0, .int .u8 (p.d0 : Int), .int .i16 p.n1, .int .u8 (p.d1 : Int), .int .i16 p.n2, .int .u8 (p.d2 : Int), .int .i16 q.n0, .int .u8 (q.d0 : Int), .int .i16 q.n1, .int .u8 (q.d1 : Int), .int .i16 q.n2, .int .u8 (q.d2 : Int)] 44 ∧ Blk W (w.heap.size + 1) #[.int .i16 n, .int .u8 (d : Int), .int .i16 l, .int .u8 (e : Int)] 45) ⟨HX1.out, HB0_1.out, HB1_1.out⟩ ?_
  rintro w2 ⟨e2, bB0_2, bB1_2⟩
  have HX2 := Lib.hid e2; have HB0_2 := Lib.hid bB0_2; have HB1_2 := Lib.hid bB1_2
  clear e2 bB0_2 bB1_2
  refine region_lin [.val (.pointer (some ⟨w.heap.size, 0, none⟩)), .val (.agg #[.int .i16 p.n0, .int .u8 (p.d0 : Int), .int .i16 p.n1, .int .u8 (p.d1 : Int), .int .i16 p.n2, .int .u8 (p.d2 : Int)]), .val (.agg #[.string (qs a.x), .string (qs a.y), .string (qs a.z)]), .val (.pointer (some ⟨w.heap.size + 1, 0, none⟩)), .val (.agg #[.int .i16 n, .int .u8 (d : Int)]), .val (.string (qs k)), .val (.agg #[.string (qs a.x), .string (qs a.y), .string (qs a.z), .string (qs k)]), .val (.pointer (some ⟨w.heap.size, 6, none⟩)), .val (.agg #[.int .i16 q.n0, .int .u8 (q.d0 : Int), .int .i16 q.n1, .int .u8 (q.d1 : Int), .int .i16 q.n2, .int .u8 (q.d2 : Int)]), .val (.agg #[.string (qs b.x), .string (qs b.y), .string (qs b.z)]), .val (.pointer (some ⟨w.heap.size + 1, 2, none⟩)), .val (.agg #[.int .i16 l, .int .u8 (e : Int)]), .val (.string (qs m)), .val (.agg #[.string (qs b.x), .string (qs b.y), .string (qs b.z), .string (qs m)]), .mem (fun b_ => .pointer (some ⟨b_, 0, none⟩)) #[.string ⟨#[]⟩, .string ⟨#[]⟩, .string ⟨#[]⟩, .string ⟨#[]⟩] 48 (Option.some 16), .mem (fun b_ => .pointer (some ⟨b_, 0, none⟩)) #[.string ⟨#[]⟩, .string ⟨#[]⟩, .string ⟨#[]⟩, .string ⟨#[]⟩] 48 (Option.some 17), .put 14 #[.string (qs a.x), .string (qs a.y), .string (qs a.z), .string (qs k)], .put 15 #[.string (qs b.x), .string (qs b.y), .string (qs b.z), .string (qs m)]] (by kernel_rfl) (by kernel_rfl) (by kernel_rfl) ?_ (fun g2 w3 hx_ hm_ hne_ => ?_)
  · skip
    refine RnL.cons (fun g2 A_ W_ hs_ => ?_) ?_
    · have q2_ := (hs_.old 2 (by kernel_rfl) : A_.tmps[2]?.getD undef = .pointer (some ⟨w.heap.size, 0, none⟩))
      refine Rn.val fun K_ hK_ => ?_
      go_simp
      exact hK_.out _ (Ext.refl _)
    refine RnL.cons (fun g2 A_ W_ hs_ => ?_) ?_
    · have q14_ := hs_.val 0 rfl rfl rfl
      have cB0_0 := (HB0_2.out.drew.ext hs_.1).cell 0 rfl
      have cB0_1 := (HB0_2.out.drew.ext hs_.1).cell 1 rfl
      have cB0_2 := (HB0_2.out.drew.ext hs_.1).cell 2 rfl
      have cB0_3 := (HB0_2.out.drew.ext hs_.1).cell 3 rfl
      have cB0_4 := (HB0_2.out.drew.ext hs_.1).cell 4 rfl
      have cB0_5 := (HB0_2.out.drew.ext hs_.1).cell 5 rfl
      refine Rn.val fun K_ hK_ => ?_
      go_simp
      exact hK_.out _ (Ext.refl _)
    refine RnL.cons (fun g2 A_ W_ hs_ => ?_) ?_
    · have q15_ := hs_.val 1 rfl rfl rfl
      refine Rn.val fun K_ hK_ => ?_
      go_simp
      refine ((HaE.out ▸ make_c p _ (HG.out.ext (HX2.out.drew.trans hs_.1)) Hp.out)).mono ?_; rintro e W9_ ⟨rfl, e9_⟩; exact hK_.out _ e9_
    refine RnL.cons (fun g2 A_ W_ hs_ => ?_) ?_
    · have q3_ := (hs_.old 3 (by kernel_rfl) : A_.tmps[3]?.getD undef = .pointer (some ⟨w.heap.size + 1, 0, none⟩))
      refine Rn.val fun K_ hK_ => ?_
      go_simp
      exact hK_.out _ (Ext.refl _)
    refine RnL.cons (fun g2 A_ W_ hs_ => ?_) ?_
    · have q17_ := hs_.val 3 rfl rfl rfl
      have cB1_0 := (HB1_2.out.drew.ext hs_.1).cell 0 rfl
      have cB1_1 := (HB1_2.out.drew.ext hs_.1).cell 1 rfl
      refine Rn.val fun K_ hK_ => ?_
      go_simp
      exact hK_.out _ (Ext.refl _)
    refine RnL.cons (fun g2 A_ W_ hs_ => ?_) ?_
    · have q18_ := hs_.val 4 rfl rfl rfl
      refine Rn.val fun K_ hK_ => ?_
      go_simp
      refine ((HkE.out ▸ mk2_c n d _ (HG.out.ext (HX2.out.drew.trans hs_.1)) Hk0.out.1 Hk0.out.2.1 Hk0.out.2.2)).mono ?_; rintro e W9_ ⟨rfl, e9_⟩; exact hK_.out _ e9_
    refine RnL.cons (fun g2 A_ W_ hs_ => ?_) ?_
    · have q16_ := hs_.val 2 rfl rfl rfl
      have q19_ := hs_.val 5 rfl rfl rfl
      refine Rn.val fun K_ hK_ => ?_
      go_simp
      exact hK_.out _ (Ext.refl _)
    refine RnL.cons (fun g2 A_ W_ hs_ => ?_) ?_
    · have q2_ := (hs_.old 2 (by kernel_rfl) : A_.tmps[2]?.getD undef = .pointer (some ⟨w.heap.size, 0, none⟩))
      refine Rn.val fun K_ hK_ => ?_
      go_simp
      exact hK_.out _ (Ext.refl _)
    refine RnL.cons (fun g2 A_ W_ hs_ => ?_) ?_
    · have q21_ := hs_.val 7 rfl rfl rfl
      have cB0_6 := (HB0_2.out.drew.ext hs_.1).cell 6 rfl
      have cB0_7 := (HB0_2.out.drew.ext hs_.1).cell 7 rfl
      have cB0_8 := (HB0_2.out.drew.ext hs_.1).cell 8 rfl
      have cB0_9 := (HB0_2.out.drew.ext hs_.1).cell 9 rfl
      have cB0_10 := (HB0_2.out.drew.ext hs_.1).cell 10 rfl
      have cB0_11 := (HB0_2.out.drew.ext hs_.1).cell 11 rfl
      refine Rn.val fun K_ hK_ => ?_
      go_simp
      exact hK_.out _ (Ext.refl _)
    refine RnL.cons (fun g2 A_ W_ hs_ => ?_) ?_
    · have q22_ := hs_.val 8 rfl rfl rfl
      refine Rn.val fun K_ hK_ => ?_
      go_simp
      refine ((HbE.out ▸ make_c q _ (HG.out.ext (HX2.out.drew.trans hs_.1)) Hq.out)).mono ?_; rintro e W9_ ⟨rfl, e9_⟩; exact hK_.out _ e9_
    refine RnL.cons (fun g2 A_ W_ hs_ => ?_) ?_
    · have q3_ := (hs_.old 3 (by kernel_rfl) : A_.tmps[3]?.getD undef = .pointer (some ⟨w.heap.size + 1, 0, none⟩))
      refine Rn.val fun K_ hK_ => ?_
      go_simp
      exact hK_.out _ (Ext.refl _)
    refine RnL.cons (fun g2 A_ W_ hs_ => ?_) ?_
    · have q24_ := hs_.val 10 rfl rfl rfl
      have cB1_2 := (HB1_2.out.drew.ext hs_.1).cell 2 rfl
      have cB1_3 := (HB1_2.out.drew.ext hs_.1).cell 3 rfl
      refine Rn.val fun K_ hK_ => ?_
      go_simp
      exact hK_.out _ (Ext.refl _)
    refine RnL.cons (fun g2 A_ W_ hs_ => ?_) ?_
    · have q25_ := hs_.val 11 rfl rfl rfl
      refine Rn.val fun K_ hK_ => ?_
      go_simp
      refine ((HmE.out ▸ mk2_c l e _ (HG.out.ext (HX2.out.drew.trans hs_.1)) Hm0.out.1 Hm0.out.2.1 Hm0.out.2.2)).mono ?_; rintro e W9_ ⟨rfl, e9_⟩; exact hK_.out _ e9_
    refine RnL.cons (fun g2 A_ W_ hs_ => ?_) ?_
    · have q23_ := hs_.val 9 rfl rfl rfl
      have q26_ := hs_.val 12 rfl rfl rfl
      refine Rn.val fun K_ hK_ => ?_
      go_simp
      exact hK_.out _ (Ext.refl _)
    refine RnL.cons (fun g2 A_ W_ hs_ => ?_) ?_
    · refine Rn.mem fun K_ hK_ => ?_
      go_simp
      exact hK_.out
    refine RnL.cons (fun g2 A_ W_ hs_ => ?_) ?_
    · refine Rn.mem fun K_ hK_ => ?_
      go_simp
      exact hK_.out
    refine RnL.cons (fun g2 A_ W_ hs_ => ?_) ?_
    · have q5_ := (hs_.mem 14 rfl rfl rfl).1
      have q20_ := hs_.val 6 rfl rfl rfl
      refine Rn.put (z := #[.string ⟨#[]⟩, .string ⟨#[]⟩, .string ⟨#[]⟩, .string ⟨#[]⟩]) (t := 48) rfl fun hB K_ hK_ => ?_
      have c_0 := hB.cell 0 rfl; have f_0 := hB.free 0
      have c_1 := hB.cell 1 rfl; have f_1 := hB.free 1
      have c_2 := hB.cell 2 rfl; have f_2 := hB.free 2
      have c_3 := hB.cell 3 rfl; have f_3 := hB.free 3
      have HB := Lib.hid hB; clear hB
      go_simp
      exact hK_.out _ (((((Only.refl _ _).set 0 _).set 1 _).set 2 _).set 3 _) ((((HB.out.set 0 _).set 1 _).set 2 _).set 3 _)
    refine RnL.cons (fun g2 A_ W_ hs_ => ?_) ?_
    · have q6_ := (hs_.mem 15 rfl rfl rfl).1
      have q27_ := hs_.val 13 rfl rfl rfl
      refine Rn.put (z := #[.string ⟨#[]⟩, .string ⟨#[]⟩, .string ⟨#[]⟩, .string ⟨#[]⟩]) (t := 48) rfl fun hB K_ hK_ => ?_
      have c_0 := hB.cell 0 rfl; have f_0 := hB.free 0
      have c_1 := hB.cell 1 rfl; have f_1 := hB.free 1
      have c_2 := hB.cell 2 rfl; have f_2 := hB.free 2
      have c_3 := hB.cell 3 rfl; have f_3 := hB.free 3
      have HB := Lib.hid hB; clear hB
      go_simp
      exact hK_.out _ (((((Only.refl _ _).set 0 _).set 1 _).set 2 _).set 3 _) ((((HB.out.set 0 _).set 1 _).set 2 _).set 3 _)
    exact RnL.nil
  simp only [fs, Kd.value, puts, Act.put, List.setIfInBounds_toArray, List.set_cons_zero, List.set_cons_succ, Nat.reduceAdd]
  have HX3 : Hid (Ext w w3) := Lib.hid (HX2.out.drew.trans hx_)
  have HB2_3 : Hid (Blk w3 (g2 14) #[.string (qs a.x), .string (qs a.y), .string (qs a.z), .string (qs k)] 48) := Lib.hid (hm_ 14 _ _ _ _ rfl).2; have HGEB2 : Hid (w.heap.size ≤ g2 14) := Lib.hid (Nat.le_trans HX2.out.size (hm_ 14 _ _ _ _ rfl).1)
  have HB3_3 : Hid (Blk w3 (g2 15) #[.string (qs b.x), .string (qs b.y), .string (qs b.z), .string (qs m)] 48) := Lib.hid (hm_ 15 _ _ _ _ rfl).2; have HGEB3 : Hid (w.heap.size ≤ g2 15) := Lib.hid (Nat.le_trans HX2.out.size (hm_ 15 _ _ _ _ rfl).1)
  have HNEB2B3 : Hid (g2 14 ≠ g2 15) := Lib.hid (hne_ 14 15 (by decide) ⟨_, _, _, _, rfl⟩ ⟨_, _, _, _, rfl⟩)
  clear hx_ hm_ hne_
  generalize g2 14 = i2 at *
  generalize g2 15 = i3 at *
  clear g2
  have c2_0 := HB2_3.out.cell 0 rfl
  have c2_1 := HB2_3.out.cell 1 rfl
  have c2_2 := HB2_3.out.cell 2 rfl
  have c2_3 := HB2_3.out.cell 3 rfl
  have c3_0 := HB3_3.out.cell 0 rfl
  have c3_1 := HB3_3.out.cell 1 rfl
  have c3_2 := HB3_3.out.cell 2 rfl
  have c3_3 := HB3_3.out.cell 3 rfl
  go_wp2_with fail
  refine (common_0 a b D k m U V _ (HG.out.ext HX3.out) HDE.out HUE.out HVE.out Ha.out Hb.out Hk.out Hm.out HZ.out HY.out HC.out).mono ?_; rintro e w4 ⟨rfl, e4⟩
  have HX4 : Hid (Ext w w4) := Lib.hid (HX3.out.trans e4)
  have HB2_4 := Lib.hid (Blk.ext HB2_3.out e4)
  have HB3_4 := Lib.hid (Blk.ext HB3_3.out e4)
  clear e4 c2_0 c2_1 c2_2 c2_3 c3_0 c3_1 c3_2 c3_3
  go_wp2_with fail
  refine wp_name (fun W => Ext w W ∧ Blk W (i2) #[.string (qs a.x), .string (qs a.y), .string (qs a.z), .string (qs k)] 48 ∧ Blk W (i3) #[.string (qs b.x), .string (qs b.y), .string (qs b.z), .string (qs m)] 48 ∧ Blk W (w4.heap.size) #[.string ⟨#[48]⟩, .string (qs U), .string (qs V)] 30 ∧ Blk W (w4.heap.size + 1) #[.string (qs D.x), .string (qs D.y), .string (qs D.z)] 30) ⟨((HX4.out.alloc _).alloc _), ((HB2_4.out.alloc _).alloc _), ((HB3_4.out.alloc _).alloc _), ((Blk.new' (w := _) (cs := #[.string ⟨#[48]⟩, .string (qs U), .string (qs V)]) (t := 30) (by first | rfl | (simp only [World.size_alloc]; done) | (simp only [World.size_alloc]; omega) | simp)).alloc _), (Blk.new' (w := _) (cs := #[.string (qs D.x), .string (qs D.y), .string (qs D.z)]) (t := 30) (by first | rfl | (simp only [World.size_alloc]; done) | (simp only [World.size_alloc]; omega) | simp))⟩ ?_
  rintro w5 ⟨e5, bB2_5, bB3_5, bB4_5, bB5_5⟩
  have HX5 := Lib.hid e5; have HB2_5 := Lib.hid bB2_5; have HB3_5 := Lib.hid bB3_5; have HB4_5 := Lib.hid bB4_5; have HB5_5 := Lib.hid bB5_5
  have HGEB4 : Hid (w.heap.size ≤ w4.heap.size) := Lib.hid (by have := HX4.out.size; first | omega | (simp only []; omega) | (simp; omega))
  have HGEB5 : Hid (w.heap.size ≤ w4.heap.size + 1) := Lib.hid (by have := HX4.out.size; first | omega | (simp only []; omega) | (simp; omega))
  clear e5 bB2_5 bB3_5 bB4_5 bB5_5
  refine region_lin [.val (.agg #[.string (qs a.x), .string (qs a.y), .string (qs a.z), .string (qs k)]), .val (.int .i64 0), .val (.agg #[.string (qs b.x), .string (qs b.y), .string (qs b.z), .string (qs m)]), .val (.int .i64 0), .mem (fun b_ => .slice (some ⟨b_, 0, none⟩) 2 2) #[.int .i64 0, .int .i64 0] 32 Option.none, .val (.int .i64 0), .val (.int .i64 0)] (by kernel_rfl) (by kernel_rfl) (by kernel_rfl) ?_ (fun g5 w6 hx_ hm_ hne_ => ?_)
  · skip
    refine RnL.cons (fun g5 A_ W_ hs_ => ?_) ?_
    · have q5_ := (hs_.old 5 (by kernel_rfl) : A_.tmps[5]?.getD undef = .pointer (some ⟨i2, 0, none⟩))
      have cB2_0 := (HB2_5.out.drew.ext hs_.1).cell 0 rfl
      have cB2_1 := (HB2_5.out.drew.ext hs_.1).cell 1 rfl
      have cB2_2 := (HB2_5.out.drew.ext hs_.1).cell 2 rfl
      have cB2_3 := (HB2_5.out.drew.ext hs_.1).cell 3 rfl
      refine Rn.val fun K_ hK_ => ?_
      go_simp
      exact hK_.out _ (Ext.refl _)
    refine RnL.cons (fun g5 A_ W_ hs_ => ?_) ?_
    · have q35_ := hs_.val 0 rfl rfl rfl
      refine Rn.val fun K_ hK_ => ?_
      go_simp
      refine (scp_n ⟨a, k⟩ _ (HG.out.ext (HX5.out.drew.trans hs_.1)) (Ha.out.mono (by decide)) (Hk.out.mono (by decide)) HZ.out).mono ?_; rintro e W9_ ⟨rfl, e9_⟩; exact hK_.out _ e9_
    refine RnL.cons (fun g5 A_ W_ hs_ => ?_) ?_
    · have q6_ := (hs_.old 6 (by kernel_rfl) : A_.tmps[6]?.getD undef = .pointer (some ⟨i3, 0, none⟩))
      have cB3_0 := (HB3_5.out.drew.ext hs_.1).cell 0 rfl
      have cB3_1 := (HB3_5.out.drew.ext hs_.1).cell 1 rfl
      have cB3_2 := (HB3_5.out.drew.ext hs_.1).cell 2 rfl
      have cB3_3 := (HB3_5.out.drew.ext hs_.1).cell 3 rfl
      refine Rn.val fun K_ hK_ => ?_
      go_simp
      exact hK_.out _ (Ext.refl _)
    refine RnL.cons (fun g5 A_ W_ hs_ => ?_) ?_
    · have q37_ := hs_.val 2 rfl rfl rfl
      refine Rn.val fun K_ hK_ => ?_
      go_simp
      refine (scp_n ⟨b, m⟩ _ (HG.out.ext (HX5.out.drew.trans hs_.1)) (Hb.out.mono (by decide)) (Hm.out.mono (by decide)) HY.out).mono ?_; rintro e W9_ ⟨rfl, e9_⟩; exact hK_.out _ e9_
    refine RnL.cons (fun g5 A_ W_ hs_ => ?_) ?_
    · have q36_ := hs_.val 1 rfl rfl rfl
      have q38_ := hs_.val 3 rfl rfl rfl
      refine Rn.mem fun K_ hK_ => ?_
      go_simp
      exact hK_.out
    refine RnL.cons (fun g5 A_ W_ hs_ => ?_) ?_
    · have q39_ := (hs_.mem 4 rfl rfl rfl).1
      refine Rn.val fun K_ hK_ => ?_
      go_simp
      refine (((by decide : ferr [0, 0] = 0) ▸ first2_c 0 0 (g5 4) _ ((hs_.mem 4 rfl rfl rfl).2.2 rfl))).mono ?_; rintro e _ ⟨rfl, rfl⟩; exact hK_.out _ (Ext.refl _)
    refine RnL.cons (fun g5 A_ W_ hs_ => ?_) ?_
    · have q40_ := hs_.val 5 rfl rfl rfl
      refine Rn.val fun K_ hK_ => ?_
      go_simp
      exact hK_.out _ (Ext.refl _)
    exact RnL.nil
  simp only [fs, Kd.value, puts, Act.put, List.setIfInBounds_toArray, List.set_cons_zero, List.set_cons_succ, Nat.reduceAdd]
  have HX6 : Hid (Ext w w6) := Lib.hid (HX5.out.drew.trans hx_)
  have HB2_6 := Lib.hid (HB2_5.out.drew.ext hx_)
  have HB3_6 := Lib.hid (HB3_5.out.drew.ext hx_)
  have HB4_6 := Lib.hid (HB4_5.out.drew.ext hx_)
  have HB5_6 := Lib.hid (HB5_5.out.drew.ext hx_)
  have HB6_6 : Hid (Blk w6 (g5 4) #[.int .i64 0, .int .i64 0] 32) := Lib.hid (hm_ 4 _ _ _ _ rfl).2; have HGEB6 : Hid (w.heap.size ≤ g5 4) := Lib.hid (Nat.le_trans HX5.out.size (hm_ 4 _ _ _ _ rfl).1)
  have HNEB2B6 : Hid (i2 ≠ g5 4) := Lib.hid (Nat.ne_of_lt (Nat.lt_of_lt_of_le HB2_5.out.lt (hm_ 4 _ _ _ _ rfl).1))
  have HNEB3B6 : Hid (i3 ≠ g5 4) := Lib.hid (Nat.ne_of_lt (Nat.lt_of_lt_of_le HB3_5.out.lt (hm_ 4 _ _ _ _ rfl).1))
  have HNEB4B6 : Hid (w4.heap.size ≠ g5 4) := Lib.hid (Nat.ne_of_lt (Nat.lt_of_lt_of_le HB4_5.out.lt (hm_ 4 _ _ _ _ rfl).1))
  have HNEB5B6 : Hid (w4.heap.size + 1 ≠ g5 4) := Lib.hid (Nat.ne_of_lt (Nat.lt_of_lt_of_le HB5_5.out.lt (hm_ 4 _ _ _ _ rfl).1))
  clear hx_ hm_ hne_
  generalize g5 4 = i6 at *
  clear g5
  have c2_0 := HB2_6.out.cell 0 rfl
  have c2_1 := HB2_6.out.cell 1 rfl
  have c2_2 := HB2_6.out.cell 2 rfl
  have c3_0 := HB3_6.out.cell 0 rfl
  have c3_1 := HB3_6.out.cell 1 rfl
  have c3_2 := HB3_6.out.cell 2 rfl
  go_wp2_with fail
  refine (vcr_c a b D _ (HG.out.ext HX6.out) HDE.out Ha.out Hb.out).mono ?_; rintro e w7 ⟨rfl, e7⟩
  have HX7 : Hid (Ext w w7) := Lib.hid (HX6.out.trans e7)
  have HB2_7 := Lib.hid (Blk.ext HB2_6.out e7)
  have HB3_7 := Lib.hid (Blk.ext HB3_6.out e7)
  have HB4_7 := Lib.hid (Blk.ext HB4_6.out e7)
  have HB5_7 := Lib.hid (Blk.ext HB5_6.out e7)
  clear e7 c2_0 c2_1 c2_2 c3_0 c3_1 c3_2
  go_upto_region 7 with fail
  refine wp_name (fun W => Ext w W ∧ Blk W (i2) #[.string (qs a.x), .string (qs a.y), .string (qs a.z), .string (qs k)] 48 ∧ Blk W (i3) #[.string (qs b.x), .string (qs b.y), .string (qs b.z), .string (qs m)] 48 ∧ Blk W (w4.heap.size) #[.string ⟨#[48]⟩, .string (qs U), .string (qs V)] 30 ∧ Blk W (w4.heap.size + 1) #[.string (qs D.x), .string (qs D.y), .string (qs D.z)] 30 ∧ Blk W (w7.heap.size) #[.string (qs D.x), .string (qs D.y), .string (qs D.z)] 30) ⟨(HX7.out.alloc _), (HB2_7.out.alloc _), (HB3_7.out.alloc _), (HB4_7.out.alloc _), (HB5_7.out.alloc _), (Blk.new' (w := _) (cs := #[.string (qs D.x), .string (qs D.y), .string (qs D.z)]) (t := 30) (by first | rfl | (simp only [World.size_alloc]; done) | (simp only [World.size_alloc]; omega) | simp))⟩ ?_
  rintro w8 ⟨e8, bB2_8, bB3_8, bB4_8, bB5_8, bB7_8⟩
  have HX8 := Lib.hid e8; have HB2_8 := Lib.hid bB2_8; have HB3_8 := Lib.hid bB3_8; have HB4_8 := Lib.hid bB4_8; have HB5_8 := Lib.hid bB5_8; have HB7_8 := Lib.hid bB7_8
  have HGEB7 : Hid (w.heap.size ≤ w7.heap.size) := Lib.hid (by have := HX7.out.size; first | omega | (simp only []; omega) | (simp; omega))
  clear e8 bB2_8 bB3_8 bB4_8 bB5_8 bB7_8
  have c7_0 := HB7_8.out.cell 0 rfl
  have c7_1 := HB7_8.out.cell 1 rfl
  have c7_2 := HB7_8.out.cell 2 rfl
  go_wp2_with fail
  refine (szero_f D _ (fun e => HC.out e.1)).mono ?_; rintro e w9 ⟨rfl, e9⟩
  have HX9 : Hid (Ext w w9) := Lib.hid (HX8.out.trans e9)
  have HB2_9 := Lib.hid (Blk.ext HB2_8.out e9)
  have HB3_9 := Lib.hid (Blk.ext HB3_8.out e9)
  have HB4_9 := Lib.hid (Blk.ext HB4_8.out e9)
  have HB5_9 := Lib.hid (Blk.ext HB5_8.out e9)
  have HB7_9 := Lib.hid (Blk.ext HB7_8.out e9)
  clear e9 c7_0 c7_1 c7_2
  have c5_0 := HB5_9.out.cell 0 rfl
  have c5_1 := HB5_9.out.cell 1 rfl
  have c5_2 := HB5_9.out.cell 2 rfl
  have c7_0 := HB7_9.out.cell 0 rfl
  have c7_1 := HB7_9.out.cell 1 rfl
  have c7_2 := HB7_9.out.cell 2 rfl
  have c2_0 := HB2_9.out.cell 0 rfl
  have c2_1 := HB2_9.out.cell 1 rfl
  have c2_2 := HB2_9.out.cell 2 rfl
  have c2_3 := HB2_9.out.cell 3 rfl
  have c4_0 := HB4_9.out.cell 0 rfl
  have c4_1 := HB4_9.out.cell 1 rfl
  have c4_2 := HB4_9.out.cell 2 rfl
  go_wp2_with fail
  refine (place_0 a k U V _ (HG.out.ext HX9.out) HBB.out.1 Ha.out Hk.out HU.out HV.out).mono ?_; rintro e w10 ⟨rfl, e10⟩
  have HX10 : Hid (Ext w w10) := Lib.hid (HX9.out.trans e10)
  have HB3_10 := Lib.hid (Blk.ext HB3_9.out e10)
  have HB4_10 := Lib.hid (Blk.ext HB4_9.out e10)
  have HB7_10 := Lib.hid (Blk.ext HB7_9.out e10)
  clear e10 c5_0 c5_1 c5_2 c7_0 c7_1 c7_2 c2_0 c2_1 c2_2 c2_3 c4_0 c4_1 c4_2
  have c3_0 := HB3_10.out.cell 0 rfl
  have c3_1 := HB3_10.out.cell 1 rfl
  have c3_2 := HB3_10.out.cell 2 rfl
  have c3_3 := HB3_10.out.cell 3 rfl
  have c4_0 := HB4_10.out.cell 0 rfl
  have c4_1 := HB4_10.out.cell 1 rfl
  have c4_2 := HB4_10.out.cell 2 rfl
  go_wp2_with fail
  refine (place_0 b m U V _ (HG.out.ext HX10.out) HBB.out.2 Hb.out Hm.out HU.out HV.out).mono ?_; rintro e w11 ⟨rfl, e11⟩
  have HX11 : Hid (Ext w w11) := Lib.hid (HX10.out.trans e11)
  have HB4_11 := Lib.hid (Blk.ext HB4_10.out e11)
  have HB7_11 := Lib.hid (Blk.ext HB7_10.out e11)
  clear e11 c3_0 c3_1 c3_2 c3_3 c4_0 c4_1 c4_2
  have c7_0 := HB7_11.out.cell 0 rfl
  have c4_0 := HB4_11.out.cell 0 rfl
  go_wp2
  go_ret
  exact ⟨rfl, HX11.out⟩

set_option maxRecDepth 100000 in
set_option maxHeartbeats 16000000 in
theorem common_walk_1 (p q : Pla) (n : Int) (d : Nat) (l : Int) (e : Nat) (w : World) (g : Gd w) (hp : PlaOk p) (hq : PlaOk q) (hn : -32768 ≤ n ∧ n ≤ 32767 ∧ d ≤ 255) (hl : -32768 ≤ l ∧ l ≤ 32767 ∧ e ≤ 255) (hz : ¬ ((pvec p).x = 0 ∧ (pvec p).y = 0 ∧ (pvec p).z = 0)) (hy : ¬ ((pvec q).x = 0 ∧ (pvec q).y = 0 ∧ (pvec q).z = 0)) (hc : (vcr (pvec p) (pvec q)).x = 0 ∧ (vcr (pvec p) (pvec q)).y ≠ 0) : Calls Tryz.prog 4 #[.agg #[.int .i16 p.n0, .int .u8 (p.d0 : Int), .int .i16 p.n1, .int .u8 (p.d1 : Int), .int .i16 p.n2, .int .u8 (p.d2 : Int), .int .i16 q.n0, .int .u8 (q.d0 : Int), .int .i16 q.n1, .int .u8 (q.d1 : Int), .int .i16 q.n2, .int .u8 (q.d2 : Int)], .agg #[.int .i16 n, .int .u8 (d : Int), .int .i16 l, .int .u8 (e : Int)]] w (Ret w (.bool true)) := by
  have Hp := Lib.hid hp
  have Hq := Lib.hid hq
  have HG := Lib.hid g
  clear hp hq g
  have HC0 := Lib.hid hc; clear hc
  have HZ0 := Lib.hid hz; have HY0 := Lib.hid hy; clear hz hy
  obtain ⟨a, ea⟩ : ∃ a, pvec p = a := ⟨_, rfl⟩
  have HaE := Lib.hid ea; have Ha : Hid (VB 5 a) := Lib.hid (ea ▸ Hp.out.v); clear ea
  obtain ⟨b, eb⟩ : ∃ b, pvec q = b := ⟨_, rfl⟩
  have HbE := Lib.hid eb; have Hb : Hid (VB 5 b) := Lib.hid (eb ▸ Hq.out.v); clear eb
  have Hk0 := Lib.hid hn; clear hn
  obtain ⟨k, ek⟩ : ∃ k, sm n d = k := ⟨_, rfl⟩
  have HkE := Lib.hid ek; have Hk : Hid (QB 5 k) := Lib.hid (ek ▸ sm_qb Hk0.out.1 Hk0.out.2.1 Hk0.out.2.2); clear ek
  have Hm0 := Lib.hid hl; clear hl
  obtain ⟨m, em⟩ : ∃ m, sm l e = m := ⟨_, rfl⟩
  have HmE := Lib.hid em; have Hm : Hid (QB 5 m) := Lib.hid (em ▸ sm_qb Hm0.out.1 Hm0.out.2.1 Hm0.out.2.2); clear em
  obtain ⟨D, eD⟩ : ∃ D, vcr a b = D := ⟨_, rfl⟩
  have HDE := Lib.hid eD; have HD : Hid (VB 21 D) := Lib.hid (eD ▸ vcr_b Ha.out Hb.out); clear eD
  have HZ : Hid (¬ (a.x = 0 ∧ a.y = 0 ∧ a.z = 0)) := Lib.hid (HaE.out ▸ HZ0.out)
  have HY : Hid (¬ (b.x = 0 ∧ b.y = 0 ∧ b.z = 0)) := Lib.hid (HbE.out ▸ HY0.out)
  have HC : Hid (D.x = 0 ∧ D.y ≠ 0) := Lib.hid (by have h := HC0.out; rw [HaE.out, HbE.out, HDE.out] at h; exact h)
  obtain ⟨U, eU⟩ : ∃ U, (k * b.x - a.x * m) / D.y = U := ⟨_, rfl⟩
  have HUE := Lib.hid eU; have HU : Hid (QB 42 U) := Lib.hid (eU ▸ quo_b Hk.out Hb.out.x Ha.out.x Hm.out HD.out.y); clear eU
  obtain ⟨V, eV⟩ : ∃ V, (a.z * m - k * b.z) / D.y = V := ⟨_, rfl⟩
  have HVE := Lib.hid eV; have HV : Hid (QB 42 V) := Lib.hid (eV ▸ quo_b Ha.out.z Hm.out Hk.out Hb.out.z HD.out.y); clear eV
  have HBB := Lib.hid (common_b1 HDE.out HUE.out HVE.out HC.out.2)
  have hd0 := HC.out.1
  have hd0_t := qs_is0 hd0
  have hd0_n := bne_f hd0_t
  clear hd0
  have hd1 := HC.out.2
  have hd1_t := qs_not0 hd1
  have hd1_n := bne_t hd1_t
  clear hd1
  go_enter Tryz.func4, Tryz.ntmps4
  go_wp2_with fail
  refine (known_c _ (HG.out.ext (((Ext.refl w).alloc _).alloc _))).mono ?_; rintro e w1 ⟨rfl, e1⟩
  have HX1 : Hid (Ext w w1) := Lib.hid ((((Ext.refl w).alloc _).alloc _).trans e1)
  have HB0_1 : Hid (Blk w1 (w.heap.size) #[.int .i16 p.n0, .int .u8 (p.d0 : Int), .int .i16 p.n1, .int .u8 (p.d1 : Int), .int .i16 p.n2, .int .u8 (p.d2 : Int), .int .i16 q.n0, .int .u8 (q.d0 : Int), .int .i16 q.n1, .int .u8 (q.d1 : Int), .int .i16 q.n2, .int .u8 (q.d2 : Int)] 44) := Lib.hid (Blk.ext ((Blk.new' (w := _) (cs := #[.int .i16 p.n0, .int .u8 (p.d0 : Int), .int .i16 p.n1, .int .u8 (p.d1 : Int), .int .i16 p.n2, .int .u8 (p.d2 : Int), .int .i16 q.n0, .int .u8 (q.d0 : Int), .int .i16 q.n1, .int .u8 (q.d1 : Int), .int .i16 q.n2, .int .u8 (q.d2 : Int)]) (t := 44) (by first | rfl | (simp only [World.size_alloc]; done) | (simp only [World.size_alloc]; omega) | simp)).alloc _) e1)
  have HB1_1 : Hid (Blk w1 (w.heap.size + 1) #[.int .i16 n, .int .u8 (d : Int), .int .i16 l, .int .u8 (e : Int)] 45) := Lib.hid (Blk.ext (Blk.new' (w := _) (cs := #[.int .i16 n, .int .u8 (d : Int), .int .i16 l, .int .u8 (e : Int)]) (t := 45) (by first | rfl | (simp only [World.size_alloc]; done) | (simp only [World.size_alloc]; omega) | simp)) e1)
  have HGEB0 : Hid (w.heap.size ≤ w.heap.size) := Lib.hid (by first | omega | (simp only []; omega) | (simp; omega))
  have HGEB1 : Hid (w.heap.size ≤ w.heap.size + 1) := Lib.hid (by first | omega | (simp only []; omega) | (simp; omega))
  clear e1
  go_wp2_with fail
  refine wp_name (fun W => Ext w W ∧ Blk W (w.heap.size) #[.int .i16 p.n0, .int .u8 (p.d0 : Int), .int .i16 p.n1, .int .u8 (p.d1 : Int), .int .i16 p.n2, .int .u8 (p.d2 : Int), .int .i16 q.n0, .int .u8 (q.d0 : Int), .int .i16 q.n1, .int .u8 (q.d1 : Int), .int .i16 q.n2, .int .u8 (q.d2 : Int)] 44 ∧ Blk W (w.heap.size + 1) #[.int .i16 n, .int .u8 (d : Int), .int .i16 l, .int .u8 (e : Int)] 45) ⟨HX1.out, HB0_1.out, HB1_1.out⟩ ?_
  rintro w2 ⟨e2, bB0_2, bB1_2⟩
  have HX2 := Lib.hid e2; have HB0_2 := Lib.hid bB0_2; have HB1_2 := Lib.hid bB1_2
  clear e2 bB0_2 bB1_2
  refine region_lin [.val (.pointer (some ⟨w.heap.size, 0, none⟩)), .val (.agg #[.int .i16 p.n0, .int .u8 (p.d0 : Int), .int .i16 p.n1, .int .u8 (p.d1 : Int), .int .i16 p.n2, .int .u8 (p.d2 : Int)]), .val (.agg #[.string (qs a.x), .string (qs a.y), .string (qs a.z)]), .val (.pointer (some ⟨w.heap.size + 1, 0, none⟩)), .val (.agg #[.int .i16 n, .int .u8 (d : Int)]), .val (.string (qs k)), .val (.agg #[.string (qs a.x), .string (qs a.y), .string (qs a.z), .string (qs k)]), .val (.pointer (some ⟨w.heap.size, 6, none⟩)), .val (.agg #[.int .i16 q.n0, .int .u8 (q.d0 : Int), .int .i16 q.n1, .int .u8 (q.d1 : Int), .int .i16 q.n2, .int .u8 (q.d2 : Int)]), .val (.agg #[.string (qs b.x), .string (qs b.y), .string (qs b.z)]), .val (.pointer (some ⟨w.heap.size + 1, 2, none⟩)), .val (.agg #[.int .i16 l, .int .u8 (e : Int)]), .val (.string (qs m)), .val (.agg #[.string (qs b.x), .string (qs b.y), .string (qs b.z), .string (qs m)]), .mem (fun b_ => .pointer (some ⟨b_, 0, none⟩)) #[.string ⟨#[]⟩, .string ⟨#[]⟩, .string ⟨#[]⟩, .string ⟨#[]⟩] 48 (Option.some 16), .mem (fun b_ => .pointer (some ⟨b_, 0, none⟩)) #[.string ⟨#[]⟩, .string ⟨#[]⟩, .string ⟨#[]⟩, .string ⟨#[]⟩] 48 (Option.some 17), .put 14 #[.string (qs a.x), .string (qs a.y), .string (qs a.z), .string (qs k)], .put 15 #[.string (qs b.x), .string (qs b.y), .string (qs b.z), .string (qs m)]] (by kernel_rfl) (by kernel_rfl) (by kernel_rfl) ?_ (fun g2 w3 hx_ hm_ hne_ => ?_)
  · skip
    refine RnL.cons (fun g2 A_ W_ hs_ => ?_) ?_
    · have q2_ := (hs_.old 2 (by kernel_rfl) : A_.tmps[2]?.getD undef = .pointer (some ⟨w.heap.size, 0, none⟩))
      refine Rn.val fun K_ hK_ => ?_
      go_simp
      exact hK_.out _ (Ext.refl _)
    refine RnL.cons (fun g2 A_ W_ hs_ => ?_) ?_
    · have q14_ := hs_.val 0 rfl rfl rfl
      have cB0_0 := (HB0_2.out.drew.ext hs_.1).cell 0 rfl
      have cB0_1 := (HB0_2.out.drew.ext hs_.1).cell 1 rfl
      have cB0_2 := (HB0_2.out.drew.ext hs_.1).cell 2 rfl
      have cB0_3 := (HB0_2.out.drew.ext hs_.1).cell 3 rfl
      have cB0_4 := (HB0_2.out.drew.ext hs_.1).cell 4 rfl
      have cB0_5 := (HB0_2.out.drew.ext hs_.1).cell 5 rfl
      refine Rn.val fun K_ hK_ => ?_
      go_simp
      exact hK_.out _ (Ext.refl _)
    refine RnL.cons (fun g2 A_ W_ hs_ => ?_) ?_
    · have q15_ := hs_.val 1 rfl rfl rfl
      refine Rn.val fun K_ hK_ => ?_
      go_simp
      refine ((HaE.out ▸ make_c p _ (HG.out.ext (HX2.out.drew.trans hs_.1)) Hp.out)).mono ?_; rintro e W9_ ⟨rfl, e9_⟩; exact hK_.out _ e9_
    refine RnL.cons (fun g2 A_ W_ hs_ => ?_) ?_
    · have q3_ := (hs_.old 3 (by kernel_rfl) : A_.tmps[3]?.getD undef = .pointer (some ⟨w.heap.size + 1, 0, none⟩))
      refine Rn.val fun K_ hK_ => ?_
      go_simp
      exact hK_.out _ (Ext.refl _)
    refine RnL.cons (fun g2 A_ W_ hs_ => ?_) ?_
    · have q17_ := hs_.val 3 rfl rfl rfl
      have cB1_0 := (HB1_2.out.drew.ext hs_.1).cell 0 rfl
      have cB1_1 := (HB1_2.out.drew.ext hs_.1).cell 1 rfl
      refine Rn.val fun K_ hK_ => ?_
      go_simp
      exact hK_.out _ (Ext.refl _)
    refine RnL.cons (fun g2 A_ W_ hs_ => ?_) ?_
    · have q18_ := hs_.val 4 rfl rfl rfl
      refine Rn.val fun K_ hK_ => ?_
      go_simp
      refine ((HkE.out ▸ mk2_c n d _ (HG.out.ext (HX2.out.drew.trans hs_.1)) Hk0.out.1 Hk0.out.2.1 Hk0.out.2.2)).mono ?_; rintro e W9_ ⟨rfl, e9_⟩; exact hK_.out _ e9_
    refine RnL.cons (fun g2 A_ W_ hs_ => ?_) ?_
    · have q16_ := hs_.val 2 rfl rfl rfl
      have q19_ := hs_.val 5 rfl rfl rfl
      refine Rn.val fun K_ hK_ => ?_
      go_simp
      exact hK_.out _ (Ext.refl _)
    refine RnL.cons (fun g2 A_ W_ hs_ => ?_) ?_
    · have q2_ := (hs_.old 2 (by kernel_rfl) : A_.tmps[2]?.getD undef = .pointer (some ⟨w.heap.size, 0, none⟩))
      refine Rn.val fun K_ hK_ => ?_
      go_simp
      exact hK_.out _ (Ext.refl _)
    refine RnL.cons (fun g2 A_ W_ hs_ => ?_) ?_
    · have q21_ := hs_.val 7 rfl rfl rfl
      have cB0_6 := (HB0_2.out.drew.ext hs_.1).cell 6 rfl
      have cB0_7 := (HB0_2.out.drew.ext hs_.1).cell 7 rfl
      have cB0_8 := (HB0_2.out.drew.ext hs_.1).cell 8 rfl
      have cB0_9 := (HB0_2.out.drew.ext hs_.1).cell 9 rfl
      have cB0_10 := (HB0_2.out.drew.ext hs_.1).cell 10 rfl
      have cB0_11 := (HB0_2.out.drew.ext hs_.1).cell 11 rfl
      refine Rn.val fun K_ hK_ => ?_
      go_simp
      exact hK_.out _ (Ext.refl _)
    refine RnL.cons (fun g2 A_ W_ hs_ => ?_) ?_
    · have q22_ := hs_.val 8 rfl rfl rfl
      refine Rn.val fun K_ hK_ => ?_
      go_simp
      refine ((HbE.out ▸ make_c q _ (HG.out.ext (HX2.out.drew.trans hs_.1)) Hq.out)).mono ?_; rintro e W9_ ⟨rfl, e9_⟩; exact hK_.out _ e9_
    refine RnL.cons (fun g2 A_ W_ hs_ => ?_) ?_
    · have q3_ := (hs_.old 3 (by kernel_rfl) : A_.tmps[3]?.getD undef = .pointer (some ⟨w.heap.size + 1, 0, none⟩))
      refine Rn.val fun K_ hK_ => ?_
      go_simp
      exact hK_.out _ (Ext.refl _)
    refine RnL.cons (fun g2 A_ W_ hs_ => ?_) ?_
    · have q24_ := hs_.val 10 rfl rfl rfl
      have cB1_2 := (HB1_2.out.drew.ext hs_.1).cell 2 rfl
      have cB1_3 := (HB1_2.out.drew.ext hs_.1).cell 3 rfl
      refine Rn.val fun K_ hK_ => ?_
      go_simp
      exact hK_.out _ (Ext.refl _)
    refine RnL.cons (fun g2 A_ W_ hs_ => ?_) ?_
    · have q25_ := hs_.val 11 rfl rfl rfl
      refine Rn.val fun K_ hK_ => ?_
      go_simp
      refine ((HmE.out ▸ mk2_c l e _ (HG.out.ext (HX2.out.drew.trans hs_.1)) Hm0.out.1 Hm0.out.2.1 Hm0.out.2.2)).mono ?_; rintro e W9_ ⟨rfl, e9_⟩; exact hK_.out _ e9_
    refine RnL.cons (fun g2 A_ W_ hs_ => ?_) ?_
    · have q23_ := hs_.val 9 rfl rfl rfl
      have q26_ := hs_.val 12 rfl rfl rfl
      refine Rn.val fun K_ hK_ => ?_
      go_simp
      exact hK_.out _ (Ext.refl _)
    refine RnL.cons (fun g2 A_ W_ hs_ => ?_) ?_
    · refine Rn.mem fun K_ hK_ => ?_
      go_simp
      exact hK_.out
    refine RnL.cons (fun g2 A_ W_ hs_ => ?_) ?_
    · refine Rn.mem fun K_ hK_ => ?_
      go_simp
      exact hK_.out
    refine RnL.cons (fun g2 A_ W_ hs_ => ?_) ?_
    · have q5_ := (hs_.mem 14 rfl rfl rfl).1
      have q20_ := hs_.val 6 rfl rfl rfl
      refine Rn.put (z := #[.string ⟨#[]⟩, .string ⟨#[]⟩, .string ⟨#[]⟩, .string ⟨#[]⟩]) (t := 48) rfl fun hB K_ hK_ => ?_
      have c_0 := hB.cell 0 rfl; have f_0 := hB.free 0
      have c_1 := hB.cell 1 rfl; have f_1 := hB.free 1
      have c_2 := hB.cell 2 rfl; have f_2 := hB.free 2
      have c_3 := hB.cell 3 rfl; have f_3 := hB.free 3
      have HB := Lib.hid hB; clear hB
      go_simp
      exact hK_.out _ (((((Only.refl _ _).set 0 _).set 1 _).set 2 _).set 3 _) ((((HB.out.set 0 _).set 1 _).set 2 _).set 3 _)
    refine RnL.cons (fun g2 A_ W_ hs_ => ?_) ?_
    · have q6_ := (hs_.mem 15 rfl rfl rfl).1
      have q27_ := hs_.val 13 rfl rfl rfl
      refine Rn.put (z := #[.string ⟨#[]⟩, .string ⟨#[]⟩, .string ⟨#[]⟩, .string ⟨#[]⟩]) (t := 48) rfl fun hB K_ hK_ => ?_
      have c_0 := hB.cell 0 rfl; have f_0 := hB.free 0
      have c_1 := hB.cell 1 rfl; have f_1 := hB.free 1
      have c_2 := hB.cell 2 rfl; have f_2 := hB.free 2
      have c_3 := hB.cell 3 rfl; have f_3 := hB.free 3
      have HB := Lib.hid hB; clear hB
      go_simp
      exact hK_.out _ (((((Only.refl _ _).set 0 _).set 1 _).set 2 _).set 3 _) ((((HB.out.set 0 _).set 1 _).set 2 _).set 3 _)
    exact RnL.nil
  simp only [fs, Kd.value, puts, Act.put, List.setIfInBounds_toArray, List.set_cons_zero, List.set_cons_succ, Nat.reduceAdd]
  have HX3 : Hid (Ext w w3) := Lib.hid (HX2.out.drew.trans hx_)
  have HB2_3 : Hid (Blk w3 (g2 14) #[.string (qs a.x), .string (qs a.y), .string (qs a.z), .string (qs k)] 48) := Lib.hid (hm_ 14 _ _ _ _ rfl).2; have HGEB2 : Hid (w.heap.size ≤ g2 14) := Lib.hid (Nat.le_trans HX2.out.size (hm_ 14 _ _ _ _ rfl).1)
  have HB3_3 : Hid (Blk w3 (g2 15) #[.string (qs b.x), .string (qs b.y), .string (qs b.z), .string (qs m)] 48) := Lib.hid (hm_ 15 _ _ _ _ rfl).2; have HGEB3 : Hid (w.heap.size ≤ g2 15) := Lib.hid (Nat.le_trans HX2.out.size (hm_ 15 _ _ _ _ rfl).1)
  have HNEB2B3 : Hid (g2 14 ≠ g2 15) := Lib.hid (hne_ 14 15 (by decide) ⟨_, _, _, _, rfl⟩ ⟨_, _, _, _, rfl⟩)
  clear hx_ hm_ hne_
  generalize g2 14 = i2 at *
  generalize g2 15 = i3 at *
  clear g2
  have c2_0 := HB2_3.out.cell 0 rfl
  have c2_1 := HB2_3.out.cell 1 rfl
  have c2_2 := HB2_3.out.cell 2 rfl
  have c2_3 := HB2_3.out.cell 3 rfl
  have c3_0 := HB3_3.out.cell 0 rfl
  have c3_1 := HB3_3.out.cell 1 rfl
  have c3_2 := HB3_3.out.cell 2 rfl
  have c3_3 := HB3_3.out.cell 3 rfl
  go_wp2_with fail
  refine (common_1 a b D k m U V _ (HG.out.ext HX3.out) HDE.out HUE.out HVE.out Ha.out Hb.out Hk.out Hm.out HZ.out HY.out HC.out.1 HC.out.2).mono ?_; rintro e w4 ⟨rfl, e4⟩
  have HX4 : Hid (Ext w w4) := Lib.hid (HX3.out.trans e4)
  have HB2_4 := Lib.hid (Blk.ext HB2_3.out e4)
  have HB3_4 := Lib.hid (Blk.ext HB3_3.out e4)
  clear e4 c2_0 c2_1 c2_2 c2_3 c3_0 c3_1 c3_2 c3_3
  go_wp2_with fail
  refine wp_name (fun W => Ext w W ∧ Blk W (i2) #[.string (qs a.x), .string (qs a.y), .string (qs a.z), .string (qs k)] 48 ∧ Blk W (i3) #[.string (qs b.x), .string (qs b.y), .string (qs b.z), .string (qs m)] 48 ∧ Blk W (w4.heap.size) #[.string (qs V), .string ⟨#[48]⟩, .string (qs U)] 30 ∧ Blk W (w4.heap.size + 1) #[.string (qs D.x), .string (qs D.y), .string (qs D.z)] 30) ⟨((HX4.out.alloc _).alloc _), ((HB2_4.out.alloc _).alloc _), ((HB3_4.out.alloc _).alloc _), ((Blk.new' (w := _) (cs := #[.string (qs V), .string ⟨#[48]⟩, .string (qs U)]) (t := 30) (by first | rfl | (simp only [World.size_alloc]; done) | (simp only [World.size_alloc]; omega) | simp)).alloc _), (Blk.new' (w := _) (cs := #[.string (qs D.x), .string (qs D.y), .string (qs D.z)]) (t := 30) (by first | rfl | (simp only [World.size_alloc]; done) | (simp only [World.size_alloc]; omega) | simp))⟩ ?_
  rintro w5 ⟨e5, bB2_5, bB3_5, bB4_5, bB5_5⟩
  have HX5 := Lib.hid e5; have HB2_5 := Lib.hid bB2_5; have HB3_5 := Lib.hid bB3_5; have HB4_5 := Lib.hid bB4_5; have HB5_5 := Lib.hid bB5_5
  have HGEB4 : Hid (w.heap.size ≤ w4.heap.size) := Lib.hid (by have := HX4.out.size; first | omega | (simp only []; omega) | (simp; omega))
  have HGEB5 : Hid (w.heap.size ≤ w4.heap.size + 1) := Lib.hid (by have := HX4.out.size; first | omega | (simp only []; omega) | (simp; omega))
  clear e5 bB2_5 bB3_5 bB4_5 bB5_5
  refine region_lin [.val (.agg #[.string (qs a.x), .string (qs a.y), .string (qs a.z), .string (qs k)]), .val (.int .i64 0), .val (.agg #[.string (qs b.x), .string (qs b.y), .string (qs b.z), .string (qs m)]), .val (.int .i64 0), .mem (fun b_ => .slice (some ⟨b_, 0, none⟩) 2 2) #[.int .i64 0, .int .i64 0] 32 Option.none, .val (.int .i64 0), .val (.int .i64 0)] (by kernel_rfl) (by kernel_rfl) (by kernel_rfl) ?_ (fun g5 w6 hx_ hm_ hne_ => ?_)
  · skip
    refine RnL.cons (fun g5 A_ W_ hs_ => ?_) ?_
    · have q5_ := (hs_.old 5 (by kernel_rfl) : A_.tmps[5]?.getD undef = .pointer (some ⟨i2, 0, none⟩))
      have cB2_0 := (HB2_5.out.drew.ext hs_.1).cell 0 rfl
      have cB2_1 := (HB2_5.out.drew.ext hs_.1).cell 1 rfl
      have cB2_2 := (HB2_5.out.drew.ext hs_.1).cell 2 rfl
      have cB2_3 := (HB2_5.out.drew.ext hs_.1).cell 3 rfl
      refine Rn.val fun K_ hK_ => ?_
      go_simp
      exact hK_.out _ (Ext.refl _)
    refine RnL.cons (fun g5 A_ W_ hs_ => ?_) ?_
    · have q35_ := hs_.val 0 rfl rfl rfl
      refine Rn.val fun K_ hK_ => ?_
      go_simp
      refine (scp_n ⟨a, k⟩ _ (HG.out.ext (HX5.out.drew.trans hs_.1)) (Ha.out.mono (by decide)) (Hk.out.mono (by decide)) HZ.out).mono ?_; rintro e W9_ ⟨rfl, e9_⟩; exact hK_.out _ e9_
    refine RnL.cons (fun g5 A_ W_ hs_ => ?_) ?_
    · have q6_ := (hs_.old 6 (by kernel_rfl) : A_.tmps[6]?.getD undef = .pointer (some ⟨i3, 0, none⟩))
      have cB3_0 := (HB3_5.out.drew.ext hs_.1).cell 0 rfl
      have cB3_1 := (HB3_5.out.drew.ext hs_.1).cell 1 rfl
      have cB3_2 := (HB3_5.out.drew.ext hs_.1).cell 2 rfl
      have cB3_3 := (HB3_5.out.drew.ext hs_.1).cell 3 rfl
      refine Rn.val fun K_ hK_ => ?_
      go_simp
      exact hK_.out _ (Ext.refl _)
    refine RnL.cons (fun g5 A_ W_ hs_ => ?_) ?_
    · have q37_ := hs_.val 2 rfl rfl rfl
      refine Rn.val fun K_ hK_ => ?_
      go_simp
      refine (scp_n ⟨b, m⟩ _ (HG.out.ext (HX5.out.drew.trans hs_.1)) (Hb.out.mono (by decide)) (Hm.out.mono (by decide)) HY.out).mono ?_; rintro e W9_ ⟨rfl, e9_⟩; exact hK_.out _ e9_
    refine RnL.cons (fun g5 A_ W_ hs_ => ?_) ?_
    · have q36_ := hs_.val 1 rfl rfl rfl
      have q38_ := hs_.val 3 rfl rfl rfl
      refine Rn.mem fun K_ hK_ => ?_
      go_simp
      exact hK_.out
    refine RnL.cons (fun g5 A_ W_ hs_ => ?_) ?_
    · have q39_ := (hs_.mem 4 rfl rfl rfl).1
      refine Rn.val fun K_ hK_ => ?_
      go_simp
      refine (((by decide : ferr [0, 0] = 0) ▸ first2_c 0 0 (g5 4) _ ((hs_.mem 4 rfl rfl rfl).2.2 rfl))).mono ?_; rintro e _ ⟨rfl, rfl⟩; exact hK_.out _ (Ext.refl _)
    refine RnL.cons (fun g5 A_ W_ hs_ => ?_) ?_
    · have q40_ := hs_.val 5 rfl rfl rfl
      refine Rn.val fun K_ hK_ => ?_
      go_simp
      exact hK_.out _ (Ext.refl _)
    exact RnL.nil
  simp only [fs, Kd.value, puts, Act.put, List.setIfInBounds_toArray, List.set_cons_zero, List.set_cons_succ, Nat.reduceAdd]
  have HX6 : Hid (Ext w w6) := Lib.hid (HX5.out.drew.trans hx_)
  have HB2_6 := Lib.hid (HB2_5.out.drew.ext hx_)
  have HB3_6 := Lib.hid (HB3_5.out.drew.ext hx_)
  have HB4_6 := Lib.hid (HB4_5.out.drew.ext hx_)
  have HB5_6 := Lib.hid (HB5_5.out.drew.ext hx_)
  have HB6_6 : Hid (Blk w6 (g5 4) #[.int .i64 0, .int .i64 0] 32) := Lib.hid (hm_ 4 _ _ _ _ rfl).2; have HGEB6 : Hid (w.heap.size ≤ g5 4) := Lib.hid (Nat.le_trans HX5.out.size (hm_ 4 _ _ _ _ rfl).1)
  have HNEB2B6 : Hid (i2 ≠ g5 4) := Lib.hid (Nat.ne_of_lt (Nat.lt_of_lt_of_le HB2_5.out.lt (hm_ 4 _ _ _ _ rfl).1))
  have HNEB3B6 : Hid (i3 ≠ g5 4) := Lib.hid (Nat.ne_of_lt (Nat.lt_of_lt_of_le HB3_5.out.lt (hm_ 4 _ _ _ _ rfl).1))
  have HNEB4B6 : Hid (w4.heap.size ≠ g5 4) := Lib.hid (Nat.ne_of_lt (Nat.lt_of_lt_of_le HB4_5.out.lt (hm_ 4 _ _ _ _ rfl).1))
  have HNEB5B6 : Hid (w4.heap.size + 1 ≠ g5 4) := Lib.hid (Nat.ne_of_lt (Nat.lt_of_lt_of_le HB5_5.out.lt (hm_ 4 _ _ _ _ rfl).1))
  clear hx_ hm_ hne_
  generalize g5 4 = i6 at *
  clear g5
  have c2_0 := HB2_6.out.cell 0 rfl
  have c2_1 := HB2_6.out.cell 1 rfl
  have c2_2 := HB2_6.out.cell 2 rfl
  have c3_0 := HB3_6.out.cell 0 rfl
  have c3_1 := HB3_6.out.cell 1 rfl
  have c3_2 := HB3_6.out.cell 2 rfl
  go_wp2_with fail
  refine (vcr_c a b D _ (HG.out.ext HX6.out) HDE.out Ha.out Hb.out).mono ?_; rintro e w7 ⟨rfl, e7⟩
  have HX7 : Hid (Ext w w7) := Lib.hid (HX6.out.trans e7)
  have HB2_7 := Lib.hid (Blk.ext HB2_6.out e7)
  have HB3_7 := Lib.hid (Blk.ext HB3_6.out e7)
  have HB4_7 := Lib.hid (Blk.ext HB4_6.out e7)
  have HB5_7 := Lib.hid (Blk.ext HB5_6.out e7)
  clear e7 c2_0 c2_1 c2_2 c3_0 c3_1 c3_2
  go_upto_region 7 with fail
  refine wp_name (fun W => Ext w W ∧ Blk W (i2) #[.string (qs a.x), .string (qs a.y), .string (qs a.z), .string (qs k)] 48 ∧ Blk W (i3) #[.string (qs b.x), .string (qs b.y), .string (qs b.z), .string (qs m)] 48 ∧ Blk W (w4.heap.size) #[.string (qs V), .string ⟨#[48]⟩, .string (qs U)] 30 ∧ Blk W (w4.heap.size + 1) #[.string (qs D.x), .string (qs D.y), .string (qs D.z)] 30 ∧ Blk W (w7.heap.size) #[.string (qs D.x), .string (qs D.y), .string (qs D.z)] 30) ⟨(HX7.out.alloc _), (HB2_7.out.alloc _), (HB3_7.out.alloc _), (HB4_7.out.alloc _), (HB5_7.out.alloc _), (Blk.new' (w := _) (cs := #[.string (qs D.x), .string (qs D.y), .string (qs D.z)]) (t := 30) (by first | rfl | (simp only [World.size_alloc]; done) | (simp only [World.size_alloc]; omega) | simp))⟩ ?_
  rintro w8 ⟨e8, bB2_8, bB3_8, bB4_8, bB5_8, bB7_8⟩
  have HX8 := Lib.hid e8; have HB2_8 := Lib.hid bB2_8; have HB3_8 := Lib.hid bB3_8; have HB4_8 := Lib.hid bB4_8; have HB5_8 := Lib.hid bB5_8; have HB7_8 := Lib.hid bB7_8
  have HGEB7 : Hid (w.heap.size ≤ w7.heap.size) := Lib.hid (by have := HX7.out.size; first | omega | (simp only []; omega) | (simp; omega))
  clear e8 bB2_8 bB3_8 bB4_8 bB5_8 bB7_8
  have c7_0 := HB7_8.out.cell 0 rfl
  have c7_1 := HB7_8.out.cell 1 rfl
  have c7_2 := HB7_8.out.cell 2 rfl
  go_wp2_with fail
  refine (szero_f D _ (fun e => HC.out.2 e.2.1)).mono ?_; rintro e w9 ⟨rfl, e9⟩
  have HX9 : Hid (Ext w w9) := Lib.hid (HX8.out.trans e9)
  have HB2_9 := Lib.hid (Blk.ext HB2_8.out e9)
  have HB3_9 := Lib.hid (Blk.ext HB3_8.out e9)
  have HB4_9 := Lib.hid (Blk.ext HB4_8.out e9)
  have HB5_9 := Lib.hid (Blk.ext HB5_8.out e9)
  have HB7_9 := Lib.hid (Blk.ext HB7_8.out e9)
  clear e9 c7_0 c7_1 c7_2
  have c5_0 := HB5_9.out.cell 0 rfl
  have c5_1 := HB5_9.out.cell 1 rfl
  have c5_2 := HB5_9.out.cell 2 rfl
  have c7_0 := HB7_9.out.cell 0 rfl
  have c7_1 := HB7_9.out.cell 1 rfl
  have c7_2 := HB7_9.out.cell 2 rfl
  have c2_0 := HB2_9.out.cell 0 rfl
  have c2_1 := HB2_9.out.cell 1 rfl
  have c2_2 := HB2_9.out.cell 2 rfl
  have c2_3 := HB2_9.out.cell 3 rfl
  have c4_0 := HB4_9.out.cell 0 rfl
  have c4_1 := HB4_9.out.cell 1 rfl
  have c4_2 := HB4_9.out.cell 2 rfl
  go_wp2_with fail
  refine (place_1 a k U V _ (HG.out.ext HX9.out) HBB.out.1 Ha.out Hk.out HU.out HV.out).mono ?_; rintro e w10 ⟨rfl, e10⟩
  have HX10 : Hid (Ext w w10) := Lib.hid (HX9.out.trans e10)
  have HB3_10 := Lib.hid (Blk.ext HB3_9.out e10)
  have HB4_10 := Lib.hid (Blk.ext HB4_9.out e10)
  have HB7_10 := Lib.hid (Blk.ext HB7_9.out e10)
  clear e10 c5_0 c5_1 c5_2 c7_0 c7_1 c7_2 c2_0 c2_1 c2_2 c2_3 c4_0 c4_1 c4_2
  have c3_0 := HB3_10.out.cell 0 rfl
  have c3_1 := HB3_10.out.cell 1 rfl
  have c3_2 := HB3_10.out.cell 2 rfl
  have c3_3 := HB3_10.out.cell 3 rfl
  have c4_0 := HB4_10.out.cell 0 rfl
  have c4_1 := HB4_10.out.cell 1 rfl
  have c4_2 := HB4_10.out.cell 2 rfl
  go_wp2_with fail
  refine (place_1 b m U V _ (HG.out.ext HX10.out) HBB.out.2 Hb.out Hm.out HU.out HV.out).mono ?_; rintro e w11 ⟨rfl, e11⟩
  have HX11 : Hid (Ext w w11) := Lib.hid (HX10.out.trans e11)
  have HB4_11 := Lib.hid (Blk.ext HB4_10.out e11)
  have HB7_11 := Lib.hid (Blk.ext HB7_10.out e11)
  clear e11 c3_0 c3_1 c3_2 c3_3 c4_0 c4_1 c4_2
  have c7_0 := HB7_11.out.cell 0 rfl
  have c7_1 := HB7_11.out.cell 1 rfl
  have c4_1 := HB4_11.out.cell 1 rfl
  go_wp2
  go_ret
  exact ⟨rfl, HX11.out⟩

set_option maxRecDepth 100000 in
set_option maxHeartbeats 16000000 in
theorem common_walk_2 (p q : Pla) (n : Int) (d : Nat) (l : Int) (e : Nat) (w : World) (g : Gd w) (hp : PlaOk p) (hq : PlaOk q) (hn : -32768 ≤ n ∧ n ≤ 32767 ∧ d ≤ 255) (hl : -32768 ≤ l ∧ l ≤ 32767 ∧ e ≤ 255) (hz : ¬ ((pvec p).x = 0 ∧ (pvec p).y = 0 ∧ (pvec p).z = 0)) (hy : ¬ ((pvec q).x = 0 ∧ (pvec q).y = 0 ∧ (pvec q).z = 0)) (hc : (vcr (pvec p) (pvec q)).x = 0 ∧ (vcr (pvec p) (pvec q)).y = 0 ∧ (vcr (pvec p) (pvec q)).z ≠ 0) : Calls Tryz.prog 4 #[.agg #[.int .i16 p.n0, .int .u8 (p.d0 : Int), .int .i16 p.n1, .int .u8 (p.d1 : Int), .int .i16 p.n2, .int .u8 (p.d2 : Int), .int .i16 q.n0, .int .u8 (q.d0 : Int), .int .i16 q.n1, .int .u8 (q.d1 : Int), .int .i16 q.n2, .int .u8 (q.d2 : Int)], .agg #[.int .i16 n, .int .u8 (d : Int), .int .i16 l, .int .u8 (e : Int)]] w (Ret w (.bool true)) := by
  have Hp := Lib.hid hp
  have Hq := Lib.hid hq
  have HG := Lib.hid g
  clear hp hq g
  have HC0 := Lib.hid hc; clear hc
  have HZ0 := Lib.hid hz; have HY0 := Lib.hid hy; clear hz hy
  obtain ⟨a, ea⟩ : ∃ a, pvec p = a := ⟨_, rfl⟩
  have HaE := Lib.hid ea; have Ha : Hid (VB 5 a) := Lib.hid (ea ▸ Hp.out.v); clear ea
  obtain ⟨b, eb⟩ : ∃ b, pvec q = b := ⟨_, rfl⟩
  have HbE := Lib.hid eb; have Hb : Hid (VB 5 b) := Lib.hid (eb ▸ Hq.out.v); clear eb
  have Hk0 := Lib.hid hn; clear hn
  obtain ⟨k, ek⟩ : ∃ k, sm n d = k := ⟨_, rfl⟩
  have HkE := Lib.hid ek; have Hk : Hid (QB 5 k) := Lib.hid (ek ▸ sm_qb Hk0.out.1 Hk0.out.2.1 Hk0.out.2.2); clear ek
  have Hm0 := Lib.hid hl; clear hl
  obtain ⟨m, em⟩ : ∃ m, sm l e = m := ⟨_, rfl⟩
  have HmE := Lib.hid em; have Hm : Hid (QB 5 m) := Lib.hid (em ▸ sm_qb Hm0.out.1 Hm0.out.2.1 Hm0.out.2.2); clear em
  obtain ⟨D, eD⟩ : ∃ D, vcr a b = D := ⟨_, rfl⟩
  have HDE := Lib.hid eD; have HD : Hid (VB 21 D) := Lib.hid (eD ▸ vcr_b Ha.out Hb.out); clear eD
  have HZ : Hid (¬ (a.x = 0 ∧ a.y = 0 ∧ a.z = 0)) := Lib.hid (HaE.out ▸ HZ0.out)
  have HY : Hid (¬ (b.x = 0 ∧ b.y = 0 ∧ b.z = 0)) := Lib.hid (HbE.out ▸ HY0.out)
  have HC : Hid (D.x = 0 ∧ D.y = 0 ∧ D.z ≠ 0) := Lib.hid (by have h := HC0.out; rw [HaE.out, HbE.out, HDE.out] at h; exact h)
  obtain ⟨U, eU⟩ : ∃ U, (k * b.y - a.y * m) / D.z = U := ⟨_, rfl⟩
  have HUE := Lib.hid eU; have HU : Hid (QB 42 U) := Lib.hid (eU ▸ quo_b Hk.out Hb.out.y Ha.out.y Hm.out HD.out.z); clear eU
  obtain ⟨V, eV⟩ : ∃ V, (a.x * m - k * b.x) / D.z = V := ⟨_, rfl⟩
  have HVE := Lib.hid eV; have HV : Hid (QB 42 V) := Lib.hid (eV ▸ quo_b Ha.out.x Hm.out Hk.out Hb.out.x HD.out.z); clear eV
  have HBB := Lib.hid (common_b2 HDE.out HUE.out HVE.out HC.out.2.2)
  have hd0 := HC.out.1
  have hd0_t := qs_is0 hd0
  have hd0_n := bne_f hd0_t
  clear hd0
  have hd1 := HC.out.2.1
  have hd1_t := qs_is0 hd1
  have hd1_n := bne_f hd1_t
  clear hd1
  have hd2 := HC.out.2.2
  have hd2_t := qs_not0 hd2
  have hd2_n := bne_t hd2_t
  clear hd2
  go_enter Tryz.func4, Tryz.ntmps4
  go_wp2_with fail
  refine (known_c _ (HG.out.ext (((Ext.refl w).alloc _).alloc _))).mono ?_; rintro e w1 ⟨rfl, e1⟩
  have HX1 : Hid (Ext w w1) := Lib.hid ((((Ext.refl w).alloc _).alloc _).trans e1)
  have HB0_1 : Hid (Blk w1 (w.heap.size) #[.int .i16 p.n0, .int .u8 (p.d0 : Int), .int .i16 p.n1, .int .u8 (p.d1 : Int), .int .i16 p.n2, .int .u8 (p.d2 : Int), .int .i16 q.n0, .int .u8 (q.d0 : Int), .int .i16 q.n1, .int .u8 (q.d1 : Int), .int .i16 q.n2, .int .u8 (q.d2 : Int)] 44) := Lib.hid (Blk.ext ((Blk.new' (w := _) (cs := #[.int .i16 p.n0, .int .u8 (p.d0 : Int), .int .i16 p.n1, .int .u8 (p.d1 : Int), .int .i16 p.n2, .int .u8 (p.d2 : Int), .int .i16 q.n0, .int .u8 (q.d0 : Int), .int .i16 q.n1, .int .u8 (q.d1 : Int), .int .i16 q.n2, .int .u8 (q.d2 : Int)]) (t := 44) (by first | rfl | (simp only [World.size_alloc]; done) | (simp only [World.size_alloc]; omega) | simp)).alloc _) e1)
  have HB1_1 : Hid (Blk w1 (w.heap.size + 1) #[.int .i16 n, .int .u8 (d : Int), .int .i16 l, .int .u8 (e : Int)] 45) := Lib.hid (Blk.ext (Blk.new' (w := _) (cs := #[.int .i16 n, .int .u8 (d : Int), .int .i16 l, .int .u8 (e : Int)]) (t := 45) (by first | rfl | (simp only [World.size_alloc]; done) | (simp only [World.size_alloc]; omega) | simp)) e1)
  have HGEB0 : Hid (w.heap.size ≤ w.heap.size) := Lib.hid (by first | omega | (simp only []; omega) | (simp; omega))
  have HGEB1 : Hid (w.heap.size ≤ w.heap.size + 1) := Lib.hid (by first | omega | (simp only []; omega) | (simp; omega))
  clear e1
  go_wp2_with fail
  refine wp_name (fun W => Ext w W ∧ Blk W (w.heap.size) #[.int .i16 p.n0, .int .u8 (p.d0 : Int), .int .i16 p.n1, .int .u8 (p.d1 : Int), .int .i16 p.n2, .int .u8 (p.d2 : Int), .int .i16 q.n0, .int .u8 (q.d0 : Int), .int .i16 q.n1, .int .u8 (q.d1 : Int), .int .i16 q.n2, .int .u8 (q.d2 : Int)] 44 ∧ Blk W (w.heap.size + 1) #[.int .i16 n, .int .u8 (d : Int), .int .i16 l, .int .u8 (e : Int)] 45) ⟨HX1.out, HB0_1.out, HB1_1.out⟩ ?_
  rintro w2 ⟨e2, bB0_2, bB1_2⟩
  have HX2 := Lib.hid e2; have HB0_2 := Lib.hid bB0_2; have HB1_2 := Lib.hid bB1_2
  clear e2 bB0_2 bB1_2
  refine region_lin [.val (.pointer (some ⟨w.heap.size, 0, none⟩)), .val (.agg #[.int .i16 p.n0, .int .u8 (p.d0 : Int), .int .i16 p.n1, .int .u8 (p.d1 : Int), .int .i16 p.n2, .int .u8 (p.d2 : Int)]), .val (.agg #[.string (qs a.x), .string (qs a.y), .string (qs a.z)]), .val (.pointer (some ⟨w.heap.size + 1, 0, none⟩)), .val (.agg #[.int .i16 n, .int .u8 (d : Int)]), .val (.string (qs k)), .val (.agg #[.string (qs a.x), .string (qs a.y), .string (qs a.z), .string (qs k)]), .val (.pointer (some ⟨w.heap.size, 6, none⟩)), .val (.agg #[.int .i16 q.n0, .int .u8 (q.d0 : Int), .int .i16 q.n1, .int .u8 (q.d1 : Int), .int .i16 q.n2, .int .u8 (q.d2 : Int)]), .val (.agg #[.string (qs b.x), .string (qs b.y), .string (qs b.z)]), .val (.pointer (some ⟨w.heap.size + 1, 2, none⟩)), .val (.agg #[.int .i16 l, .int .u8 (e : Int)]), .val (.string (qs m)), .val (.agg #[.string (qs b.x), .string (qs b.y), .string (qs b.z), .string (qs m)]), .mem (fun b_ => .pointer (some ⟨b_, 0, none⟩)) #[.string ⟨#[]⟩, .string ⟨#[]⟩, .string ⟨#[]⟩, .string ⟨#[]⟩] 48 (Option.some 16), .mem (fun b_ => .pointer (some ⟨b_, 0, none⟩)) #[.string ⟨#[]⟩, .string ⟨#[]⟩, .string ⟨#[]⟩, .string ⟨#[]⟩] 48 (Option.some 17), .put 14 #[.string (qs a.x), .string (qs a.y), .string (qs a.z), .string (qs k)], .put 15 #[.string (qs b.x), .string (qs b.y), .string (qs b.z), .string (qs m)]] (by kernel_rfl) (by kernel_rfl) (by kernel_rfl) ?_ (fun g2 w3 hx_ hm_ hne_ => ?_)
  · skip
    refine RnL.cons (fun g2 A_ W_ hs_ => ?_) ?_
    · have q2_ := (hs_.old 2 (by kernel_rfl) : A_.tmps[2]?.getD undef = .pointer (some ⟨w.heap.size, 0, none⟩))
      refine Rn.val fun K_ hK_ => ?_
      go_simp
      exact hK_.out _ (Ext.refl _)
    refine RnL.cons (fun g2 A_ W_ hs_ => ?_) ?_
    · have q14_ := hs_.val 0 rfl rfl rfl
      have cB0_0 := (HB0_2.out.drew.ext hs_.1).cell 0 rfl
      have cB0_1 := (HB0_2.out.drew.ext hs_.1).cell 1 rfl
      have cB0_2 := (HB0_2.out.drew.ext hs_.1).cell 2 rfl
      have cB0_3 := (HB0_2.out.drew.ext hs_.1).cell 3 rfl
      have cB0_4 := (HB0_2.out.drew.ext hs_.1).cell 4 rfl
      have cB0_5 := (HB0_2.out.drew.ext hs_.1).cell 5 rfl
      refine Rn.val fun K_ hK_ => ?_
      go_simp
      exact hK_.out _ (Ext.refl _)
    refine RnL.cons (fun g2 A_ W_ hs_ => ?_) ?_
    · have q15_ := hs_.val 1 rfl rfl rfl
      refine Rn.val fun K_ hK_ => ?_
      go_simp
      refine ((HaE.out ▸ make_c p _ (HG.out.ext (HX2.out.drew.trans hs_.1)) Hp.out)).mono ?_; rintro e W9_ ⟨rfl, e9_⟩; exact hK_.out _ e9_
    refine RnL.cons (fun g2 A_ W_ hs_ => ?_) ?_
    · have q3_ := (hs_.old 3 (by kernel_rfl) : A_.tmps[3]?.getD undef = .pointer (some ⟨w.heap.size + 1, 0, none⟩))
      refine Rn.val fun K_ hK_ => ?_
      go_simp
      exact hK_.out _ (Ext.refl _)
    refine RnL.cons (fun g2 A_ W_ hs_ => ?_) ?_
    · have q17_ := hs_.val 3 rfl rfl rfl
      have cB1_0 := (HB1_2.out.drew.ext hs_.1).cell 0 rfl
      have cB1_1 := (HB1_2.out.drew.ext hs_.1).cell 1 rfl
      refine Rn.val fun K_ hK_ => ?_
      go_simp
      exact hK_.out _ (Ext.refl _)
    refine RnL.cons (fun g2 A_ W_ hs_ => ?_) ?_
    · have q18_ := hs_.val 4 rfl rfl rfl
      refine Rn.val fun K_ hK_ => ?_
      go_simp
      refine ((HkE.out ▸ mk2_c n d _ (HG.out.ext (HX2.out.drew.trans hs_.1)) Hk0.out.1 Hk0.out.2.1 Hk0.out.2.2)).mono ?_; rintro e W9_ ⟨rfl, e9_⟩; exact hK_.out _ e9_
    refine RnL.cons (fun g2 A_ W_ hs_ => ?_) ?_
    · have q16_ := hs_.val 2 rfl rfl rfl
      have q19_ := hs_.val 5 rfl rfl rfl
      refine Rn.val fun K_ hK_ => ?_
      go_simp
      exact hK_.out _ (Ext.refl _)
    refine RnL.cons (fun g2 A_ W_ hs_ => ?_) ?_
    · have q2_ := (hs_.old 2 (by kernel_rfl) : A_.tmps[2]?.getD undef = .pointer (some ⟨w.heap.size, 0, none⟩))
      refine Rn.val fun K_ hK_ => ?_
      go_simp
      exact hK_.out _ (Ext.refl _)
    refine RnL.cons (fun g2 A_ W_ hs_ => ?_) ?_
    · have q21_ := hs_.val 7 rfl rfl rfl
      have cB0_6 := (HB0_2.out.drew.ext hs_.1).cell 6 rfl
      have cB0_7 := (HB0_2.out.drew.ext hs_.1).cell 7 rfl
      have cB0_8 := (HB0_2.out.drew.ext hs_.1).cell 8 rfl
      have cB0_9 := (HB0_2.out.drew.ext hs_.1).cell 9 rfl
      have cB0_10 := (HB0_2.out.drew.ext hs_.1).cell 10 rfl
      have cB0_11 := (HB0_2.out.drew.ext hs_.1).cell 11 rfl
      refine Rn.val fun K_ hK_ => ?_
      go_simp
      exact hK_.out _ (Ext.refl _)
    refine RnL.cons (fun g2 A_ W_ hs_ => ?_) ?_
    · have q22_ := hs_.val 8 rfl rfl rfl
      refine Rn.val fun K_ hK_ => ?_
      go_simp
      refine ((HbE.out ▸ make_c q _ (HG.out.ext (HX2.out.drew.trans hs_.1)) Hq.out)).mono ?_; rintro e W9_ ⟨rfl, e9_⟩; exact hK_.out _ e9_
    refine RnL.cons (fun g2 A_ W_ hs_ => ?_) ?_
    · have q3_ := (hs_.old 3 (by kernel_rfl) : A_.tmps[3]?.getD undef = .pointer (some ⟨w.heap.size + 1, 0, none⟩))
      refine Rn.val fun K_ hK_ => ?_
      go_simp
      exact hK_.out _ (Ext.refl _)
    refine RnL.cons (fun g2 A_ W_ hs_ => ?_) ?_
    · have q24_ := hs_.val 10 rfl rfl rfl
      have cB1_2 := (HB1_2.out.drew.ext hs_.1).cell 2 rfl
      have cB1_3 := (HB1_2.out.drew.ext hs_.1).cell 3 rfl
      refine Rn.val fun K_ hK_ => ?_
      go_simp
      exact hK_.out _ (Ext.refl _)
    refine RnL.cons (fun g2 A_ W_ hs_ => ?_) ?_
    · have q25_ := hs_.val 11 rfl rfl rfl
      refine Rn.val fun K_ hK_ => ?_
      go_simp
      refine ((HmE.out ▸ mk2_c l e _ (HG.out.ext (HX2.out.drew.trans hs_.1)) Hm0.out.1 Hm0.out.2.1 Hm0.out.2.2)).mono ?_; rintro e W9_ ⟨rfl, e9_⟩; exact hK_.out _ e9_
    refine RnL.cons (fun g2 A_ W_ hs_ => ?_) ?_
    · have q23_ := hs_.val 9 rfl rfl rfl
      have q26_ := hs_.val 12 rfl rfl rfl
      refine Rn.val fun K_ hK_ => ?_
      go_simp
      exact hK_.out _ (Ext.refl _)
    refine RnL.cons (fun g2 A_ W_ hs_ => ?_) ?_
    · refine Rn.mem fun K_ hK_ => ?_
      go_simp
      exact hK_.out
    refine RnL.cons (fun g2 A_ W_ hs_ => ?_) ?_
    · refine Rn.mem fun K_ hK_ => ?_
      go_simp
      exact hK_.out
    refine RnL.cons (fun g2 A_ W_ hs_ => ?_) ?_
    · have q5_ := (hs_.mem 14 rfl rfl rfl).1
      have q20_ := hs_.val 6 rfl rfl rfl
      refine Rn.put (z := #[.string ⟨#[]⟩, .string ⟨#[]⟩, .string ⟨#[]⟩, .string ⟨#[]⟩]) (t := 48) rfl fun hB K_ hK_ => ?_
      have c_0 := hB.cell 0 rfl; have f_0 := hB.free 0
      have c_1 := hB.cell 1 rfl; have f_1 := hB.free 1
      have c_2 := hB.cell 2 rfl; have f_2 := hB.free 2
      have c_3 := hB.cell 3 rfl; have f_3 := hB.free 3
      have HB := Lib.hid hB; clear hB
      go_simp
      exact hK_.out _ (((((Only.refl _ _).set 0 _).set 1 _).set 2 _).set 3 _) ((((HB.out.set 0 _).set 1 _).set 2 _).set 3 _)
    refine RnL.cons (fun g2 A_ W_ hs_ => ?_) ?_
    · have q6_ := (hs_.mem 15 rfl rfl rfl).1
      have q27_ := hs_.val 13 rfl rfl rfl
      refine Rn.put (z := #[.string ⟨#[]⟩, .string ⟨#[]⟩, .string ⟨#[]⟩, .string ⟨#[]⟩]) (t := 48) rfl fun hB K_ hK_ => ?_
      have c_0 := hB.cell 0 rfl; have f_0 := hB.free 0
      have c_1 := hB.cell 1 rfl; have f_1 := hB.free 1
      have c_2 := hB.cell 2 rfl; have f_2 := hB.free 2
      have c_3 := hB.cell 3 rfl; have f_3 := hB.free 3
      have HB := Lib.hid hB; clear hB
      go_simp
      exact hK_.out _ (((((Only.refl _ _).set 0 _).set 1 _).set 2 _).set 3 _) ((((HB.out.set 0 _).set 1 _).set 2 _).set 3 _)
    exact RnL.nil
  simp only [fs, Kd.value, puts, Act.put, List.setIfInBounds_toArray, List.set_cons_zero, List.set_cons_succ, Nat.reduceAdd]
  have HX3 : Hid (Ext w w3) := Lib.hid (HX2.out.drew.trans hx_)
  have HB2_3 : Hid (Blk w3 (g2 14) #[.string (qs a.x), .string (qs a.y), .string (qs a.z), .string (qs k)] 48) := Lib.hid (hm_ 14 _ _ _ _ rfl).2; have HGEB2 : Hid (w.heap.size ≤ g2 14) := Lib.hid (Nat.le_trans HX2.out.size (hm_ 14 _ _ _ _ rfl).1)
  have HB3_3 : Hid (Blk w3 (g2 15) #[.string (qs b.x), .string (qs b.y), .string (qs b.z), .string (qs m)] 48) := Lib.hid (hm_ 15 _ _ _ _ rfl).2; have HGEB3 : Hid (w.heap.size ≤ g2 15) := Lib.hid (Nat.le_trans HX2.out.size (hm_ 15 _ _ _ _ rfl).1)
  have HNEB2B3 : Hid (g2 14 ≠ g2 15) := Lib.hid (hne_ 14 15 (by decide) ⟨_, _, _, _, rfl⟩ ⟨_, _, _, _, rfl⟩)
  clear hx_ hm_ hne_
  generalize g2 14 = i2 at *
  generalize g2 15 = i3 at *
  clear g2
  have c2_0 := HB2_3.out.cell 0 rfl
  have c2_1 := HB2_3.out.cell 1 rfl
  have c2_2 := HB2_3.out.cell 2 rfl
  have c2_3 := HB2_3.out.cell 3 rfl
  have c3_0 := HB3_3.out.cell 0 rfl
  have c3_1 := HB3_3.out.cell 1 rfl
  have c3_2 := HB3_3.out.cell 2 rfl
  have c3_3 := HB3_3.out.cell 3 rfl
  go_wp2_with fail
  refine (common_2 a b D k m U V _ (HG.out.ext HX3.out) HDE.out HUE.out HVE.out Ha.out Hb.out Hk.out Hm.out HZ.out HY.out HC.out.1 HC.out.2.1 HC.out.2.2).mono ?_; rintro e w4 ⟨rfl, e4⟩
  have HX4 : Hid (Ext w w4) := Lib.hid (HX3.out.trans e4)
  have HB2_4 := Lib.hid (Blk.ext HB2_3.out e4)
  have HB3_4 := Lib.hid (Blk.ext HB3_3.out e4)
  clear e4 c2_0 c2_1 c2_2 c2_3 c3_0 c3_1 c3_2 c3_3
  go_wp2_with fail
  refine wp_name (fun W => Ext w W ∧ Blk W (i2) #[.string (qs a.x), .string (qs a.y), .string (qs a.z), .string (qs k)] 48 ∧ Blk W (i3) #[.string (qs b.x), .string (qs b.y), .string (qs b.z), .string (qs m)] 48 ∧ Blk W (w4.heap.size) #[.string (qs U), .string (qs V), .string ⟨#[48]⟩] 30 ∧ Blk W (w4.heap.size + 1) #[.string (qs D.x), .string (qs D.y), .string (qs D.z)] 30) ⟨((HX4.out.alloc _).alloc _), ((HB2_4.out.alloc _).alloc _), ((HB3_4.out.alloc _).alloc _), ((Blk.new' (w := _) (cs := #[.string (qs U), .string (qs V), .string ⟨#[48]⟩]) (t := 30) (by first | rfl | (simp only [World.size_alloc]; done) | (simp only [World.size_alloc]; omega) | simp)).alloc _), (Blk.new' (w := _) (cs := #[.string (qs D.x), .string (qs D.y), .string (qs D.z)]) (t := 30) (by first | rfl | (simp only [World.size_alloc]; done) | (simp only [World.size_alloc]; omega) | simp))⟩ ?_
  rintro w5 ⟨e5, bB2_5, bB3_5, bB4_5, bB5_5⟩
  have HX5 := Lib.hid e5; have HB2_5 := Lib.hid bB2_5; have HB3_5 := Lib.hid bB3_5; have HB4_5 := Lib.hid bB4_5; have HB5_5 := Lib.hid bB5_5
  have HGEB4 : Hid (w.heap.size ≤ w4.heap.size) := Lib.hid (by have := HX4.out.size; first | omega | (simp only []; omega) | (simp; omega))
  have HGEB5 : Hid (w.heap.size ≤ w4.heap.size + 1) := Lib.hid (by have := HX4.out.size; first | omega | (simp only []; omega) | (simp; omega))
  clear e5 bB2_5 bB3_5 bB4_5 bB5_5
  refine region_lin [.val (.agg #[.string (qs a.x), .string (qs a.y), .string (qs a.z), .string (qs k)]), .val (.int .i64 0), .val (.agg #[.string (qs b.x), .string (qs b.y), .string (qs b.z), .string (qs m)]), .val (.int .i64 0), .mem (fun b_ => .slice (some ⟨b_, 0, none⟩) 2 2) #[.int .i64 0, .int .i64 0] 32 Option.none, .val (.int .i64 0), .val (.int .i64 0)] (by kernel_rfl) (by kernel_rfl) (by kernel_rfl) ?_ (fun g5 w6 hx_ hm_ hne_ => ?_)
  · skip
    refine RnL.cons (fun g5 A_ W_ hs_ => ?_) ?_
    · have q5_ := (hs_.old 5 (by kernel_rfl) : A_.tmps[5]?.getD undef = .pointer (some ⟨i2, 0, none⟩))
      have cB2_0 := (HB2_5.out.drew.ext hs_.1).cell 0 rfl
      have cB2_1 := (HB2_5.out.drew.ext hs_.1).cell 1 rfl
      have cB2_2 := (HB2_5.out.drew.ext hs_.1).cell 2 rfl
      have cB2_3 := (HB2_5.out.drew.ext hs_.1).cell 3 rfl
      refine Rn.val fun K_ hK_ => ?_
      go_simp
      exact hK_.out _ (Ext.refl _)
    refine RnL.cons (fun g5 A_ W_ hs_ => ?_) ?_
    · have q35_ := hs_.val 0 rfl rfl rfl
      refine Rn.val fun K_ hK_ => ?_
      go_simp
      refine (scp_n ⟨a, k⟩ _ (HG.out.ext (HX5.out.drew.trans hs_.1)) (Ha.out.mono (by decide)) (Hk.out.mono (by decide)) HZ.out).mono ?_; rintro e W9_ ⟨rfl, e9_⟩; exact hK_.out _ e9_
    refine RnL.cons (fun g5 A_ W_ hs_ => ?_) ?_
    · have q6_ := (hs_.old 6 (by kernel_rfl) : A_.tmps[6]?.getD undef = .pointer (some ⟨i3, 0, none⟩))
      have cB3_0 := (HB3_5.out.drew.ext hs_.1).cell 0 rfl
      have cB3_1 := (HB3_5.out.drew.ext hs_.1).cell 1 rfl
      have cB3_2 := (HB3_5.out.drew.ext hs_.1).cell 2 rfl
      have cB3_3 := (HB3_5.out.drew.ext hs_.1).cell 3 rfl
      refine Rn.val fun K_ hK_ => ?_
      go_simp
      exact hK_.out _ (Ext.refl _)
    refine RnL.cons (fun g5 A_ W_ hs_ => ?_) ?_
    · have q37_ := hs_.val 2 rfl rfl rfl
      refine Rn.val fun K_ hK_ => ?_
      go_simp
      refine (scp_n ⟨b, m⟩ _ (HG.out.ext (HX5.out.drew.trans hs_.1)) (Hb.out.mono (by decide)) (Hm.out.mono (by decide)) HY.out).mono ?_; rintro e W9_ ⟨rfl, e9_⟩; exact hK_.out _ e9_
    refine RnL.cons (fun g5 A_ W_ hs_ => ?_) ?_
    · have q36_ := hs_.val 1 rfl rfl rfl
      have q38_ := hs_.val 3 rfl rfl rfl
      refine Rn.mem fun K_ hK_ => ?_
      go_simp
      exact hK_.out
    refine RnL.cons (fun g5 A_ W_ hs_ => ?_) ?_
    · have q39_ := (hs_.mem 4 rfl rfl rfl).1
      refine Rn.val fun K_ hK_ => ?_
      go_simp
      refine (((by decide : ferr [0, 0] = 0) ▸ first2_c 0 0 (g5 4) _ ((hs_.mem 4 rfl rfl rfl).2.2 rfl))).mono ?_; rintro e _ ⟨rfl, rfl⟩; exact hK_.out _ (Ext.refl _)
    refine RnL.cons (fun g5 A_ W_ hs_ => ?_) ?_
    · have q40_ := hs_.val 5 rfl rfl rfl
      refine Rn.val fun K_ hK_ => ?_
      go_simp
      exact hK_.out _ (Ext.refl _)
    exact RnL.nil
  simp only [fs, Kd.value, puts, Act.put, List.setIfInBounds_toArray, List.set_cons_zero, List.set_cons_succ, Nat.reduceAdd]
  have HX6 : Hid (Ext w w6) := Lib.hid (HX5.out.drew.trans hx_)
  have HB2_6 := Lib.hid (HB2_5.out.drew.ext hx_)
  have HB3_6 := Lib.hid (HB3_5.out.drew.ext hx_)
  have HB4_6 := Lib.hid (HB4_5.out.drew.ext hx_)
  have HB5_6 := Lib.hid (HB5_5.out.drew.ext hx_)
  have HB6_6 : Hid (Blk w6 (g5 4) #[.int .i64 0, .int .i64 0] 32) := Lib.hid (hm_ 4 _ _ _ _ rfl).2; have HGEB6 : Hid (w.heap.size ≤ g5 4) := Lib.hid (Nat.le_trans HX5.out.size (hm_ 4 _ _ _ _ rfl).1)
  have HNEB2B6 : Hid (i2 ≠ g5 4) := Lib.hid (Nat.ne_of_lt (Nat.lt_of_lt_of_le HB2_5.out.lt (hm_ 4 _ _ _ _ rfl).1))
  have HNEB3B6 : Hid (i3 ≠ g5 4) := Lib.hid (Nat.ne_of_lt (Nat.lt_of_lt_of_le HB3_5.out.lt (hm_ 4 _ _ _ _ rfl).1))
  have HNEB4B6 : Hid (w4.heap.size ≠ g5 4) := Lib.hid (Nat.ne_of_lt (Nat.lt_of_lt_of_le HB4_5.out.lt (hm_ 4 _ _ _ _ rfl).1))
  have HNEB5B6 : Hid (w4.heap.size + 1 ≠ g5 4) := Lib.hid (Nat.ne_of_lt (Nat.lt_of_lt_of_le HB5_5.out.lt (hm_ 4 _ _ _ _ rfl).1))
  clear hx_ hm_ hne_
  generalize g5 4 = i6 at *
  clear g5
  have c2_0 := HB2_6.out.cell 0 rfl
  have c2_1 := HB2_6.out.cell 1 rfl
  have c2_2 := HB2_6.out.cell 2 rfl
  have c3_0 := HB3_6.out.cell 0 rfl
  have c3_1 := HB3_6.out.cell 1 rfl
  have c3_2 := HB3_6.out.cell 2 rfl
  go_wp2_with fail
  refine (vcr_c a b D _ (HG.out.ext HX6.out) HDE.out Ha.out Hb.out).mono ?_; rintro e w7 ⟨rfl, e7⟩
  have HX7 : Hid (Ext w w7) := Lib.hid (HX6.out.trans e7)
  have HB2_7 := Lib.hid (Blk.ext HB2_6.out e7)
  have HB3_7 := Lib.hid (Blk.ext HB3_6.out e7)
  have HB4_7 := Lib.hid (Blk.ext HB4_6.out e7)
  have HB5_7 := Lib.hid (Blk.ext HB5_6.out e7)
  clear e7 c2_0 c2_1 c2_2 c3_0 c3_1 c3_2
  go_upto_region 7 with fail
  refine wp_name (fun W => Ext w W ∧ Blk W (i2) #[.string (qs a.x), .string (qs a.y), .string (qs a.z), .string (qs k)] 48 ∧ Blk W (i3) #[.string (qs b.x), .string (qs b.y), .string (qs b.z), .string (qs m)] 48 ∧ Blk W (w4.heap.size) #[.string (qs U), .string (qs V), .string ⟨#[48]⟩] 30 ∧ Blk W (w4.heap.size + 1) #[.string (qs D.x), .string (qs D.y), .string (qs D.z)] 30 ∧ Blk W (w7.heap.size) #[.string (qs D.x), .string (qs D.y), .string (qs D.z)] 30) ⟨(HX7.out.alloc _), (HB2_7.out.alloc _), (HB3_7.out.alloc _), (HB4_7.out.alloc _), (HB5_7.out.alloc _), (Blk.new' (w := _) (cs := #[.string (qs D.x), .string (qs D.y), .string (qs D.z)]) (t := 30) (by first | rfl | (simp only [World.size_alloc]; done) | (simp only [World.size_alloc]; omega) | simp))⟩ ?_
  rintro w8 ⟨e8, bB2_8, bB3_8, bB4_8, bB5_8, bB7_8⟩
  have HX8 := Lib.hid e8; have HB2_8 := Lib.hid bB2_8; have HB3_8 := Lib.hid bB3_8; have HB4_8 := Lib.hid bB4_8; have HB5_8 := Lib.hid bB5_8; have HB7_8 := Lib.hid bB7_8
  have HGEB7 : Hid (w.heap.size ≤ w7.heap.size) := Lib.hid (by have := HX7.out.size; first | omega | (simp only []; omega) | (simp; omega))
  clear e8 bB2_8 bB3_8 bB4_8 bB5_8 bB7_8
  have c7_0 := HB7_8.out.cell 0 rfl
  have c7_1 := HB7_8.out.cell 1 rfl
  have c7_2 := HB7_8.out.cell 2 rfl
  go_wp2_with fail
  refine (szero_f D _ (fun e => HC.out.2.2 e.2.2)).mono ?_; rintro e w9 ⟨rfl, e9⟩
  have HX9 : Hid (Ext w w9) := Lib.hid (HX8.out.trans e9)
  have HB2_9 := Lib.hid (Blk.ext HB2_8.out e9)
  have HB3_9 := Lib.hid (Blk.ext HB3_8.out e9)
  have HB4_9 := Lib.hid (Blk.ext HB4_8.out e9)
  have HB5_9 := Lib.hid (Blk.ext HB5_8.out e9)
  have HB7_9 := Lib.hid (Blk.ext HB7_8.out e9)
  clear e9 c7_0 c7_1 c7_2
  have c5_0 := HB5_9.out.cell 0 rfl
  have c5_1 := HB5_9.out.cell 1 rfl
  have c5_2 := HB5_9.out.cell 2 rfl
  have c7_0 := HB7_9.out.cell 0 rfl
  have c7_1 := HB7_9.out.cell 1 rfl
  have c7_2 := HB7_9.out.cell 2 rfl
  have c2_0 := HB2_9.out.cell 0 rfl
  have c2_1 := HB2_9.out.cell 1 rfl
  have c2_2 := HB2_9.out.cell 2 rfl
  have c2_3 := HB2_9.out.cell 3 rfl
  have c4_0 := HB4_9.out.cell 0 rfl
  have c4_1 := HB4_9.out.cell 1 rfl
  have c4_2 := HB4_9.out.cell 2 rfl
  go_wp2_with fail
  refine (place_2 a k U V _ (HG.out.ext HX9.out) HBB.out.1 Ha.out Hk.out HU.out HV.out).mono ?_; rintro e w10 ⟨rfl, e10⟩
  have HX10 : Hid (Ext w w10) := Lib.hid (HX9.out.trans e10)
  have HB3_10 := Lib.hid (Blk.ext HB3_9.out e10)
  have HB4_10 := Lib.hid (Blk.ext HB4_9.out e10)
  have HB7_10 := Lib.hid (Blk.ext HB7_9.out e10)
  clear e10 c5_0 c5_1 c5_2 c7_0 c7_1 c7_2 c2_0 c2_1 c2_2 c2_3 c4_0 c4_1 c4_2
  have c3_0 := HB3_10.out.cell 0 rfl
  have c3_1 := HB3_10.out.cell 1 rfl
  have c3_2 := HB3_10.out.cell 2 rfl
  have c3_3 := HB3_10.out.cell 3 rfl
  have c4_0 := HB4_10.out.cell 0 rfl
  have c4_1 := HB4_10.out.cell 1 rfl
  have c4_2 := HB4_10.out.cell 2 rfl
  go_wp2_with fail
  refine (place_2 b m U V _ (HG.out.ext HX10.out) HBB.out.2 Hb.out Hm.out HU.out HV.out).mono ?_; rintro e w11 ⟨rfl, e11⟩
  have HX11 : Hid (Ext w w11) := Lib.hid (HX10.out.trans e11)
  have HB4_11 := Lib.hid (Blk.ext HB4_10.out e11)
  have HB7_11 := Lib.hid (Blk.ext HB7_10.out e11)
  clear e11 c3_0 c3_1 c3_2 c3_3 c4_0 c4_1 c4_2
  have c7_0 := HB7_11.out.cell 0 rfl
  have c7_1 := HB7_11.out.cell 1 rfl
  have c4_2 := HB4_11.out.cell 2 rfl
  go_wp2
  go_ret
  exact ⟨rfl, HX11.out⟩

theorem common_walk (p q : Pla) (n : Int) (d : Nat) (l : Int) (e : Nat) (w : World) (g : Gd w) (hp : PlaOk p) (hq : PlaOk q) (hn : -32768 ≤ n ∧ n ≤ 32767 ∧ d ≤ 255) (hl : -32768 ≤ l ∧ l ≤ 32767 ∧ e ≤ 255) : Calls Tryz.prog 4 #[.agg #[.int .i16 p.n0, .int .u8 (p.d0 : Int), .int .i16 p.n1, .int .u8 (p.d1 : Int), .int .i16 p.n2, .int .u8 (p.d2 : Int), .int .i16 q.n0, .int .u8 (q.d0 : Int), .int .i16 q.n1, .int .u8 (q.d1 : Int), .int .i16 q.n2, .int .u8 (q.d2 : Int)], .agg #[.int .i16 n, .int .u8 (d : Int), .int .i16 l, .int .u8 (e : Int)]] w (Ret w (.bool true)) := by
  by_cases hz : (pvec p).x = 0 ∧ (pvec p).y = 0 ∧ (pvec p).z = 0
  · by_cases hy : (pvec q).x = 0 ∧ (pvec q).y = 0 ∧ (pvec q).z = 0
    · exact common_walk_pz p q n d l e w g hp hq hn hl hz hy
    · exact common_walk_pn p q n d l e w g hp hq hn hl hz hy
  · by_cases hy : (pvec q).x = 0 ∧ (pvec q).y = 0 ∧ (pvec q).z = 0
    · exact common_walk_q p q n d l e w g hp hq hn hl hz hy
    · by_cases h0 : (vcr (pvec p) (pvec q)).x = 0
      · by_cases h1 : (vcr (pvec p) (pvec q)).y = 0
        · by_cases h2 : (vcr (pvec p) (pvec q)).z = 0
          · exact common_walk_par p q n d l e w g hp hq hn hl hz hy ⟨h0, h1, h2⟩
          · exact common_walk_2 p q n d l e w g hp hq hn hl hz hy ⟨h0, h1, h2⟩
        · exact common_walk_1 p q n d l e w g hp hq hn hl hz hy ⟨h0, h1⟩
      · exact common_walk_0 p q n d l e w g hp hq hn hl hz hy h0
end Go.Proofs.YtglppcmegocphaaGreatDoor
