/- Part 30 of the proof: N1. -/
import Derived.Test.YtplimbgaoengfaaGreatDoorQB1
import Derived.Test.YtplimbgaoengfaaGreatDoorQB2
import Derived.Test.YtplimbgaoengfaaGreatDoorQB3
import Derived.Test.YtplimbgaoengfaaGreatDoorQB4
import Derived.Test.YtplimbgaoengfaaGreatDoorQB5
import Derived.Test.YtplimbgaoengfaaGreatDoorQB6
import Derived.Test.YtplimbgaoengfaaGreatDoorQB7
import Derived.Test.YtplimbgaoengfaaGreatDoorQB8
import Derived.Test.YtplimbgaoengfaaGreatDoorQB9
import Derived.Test.YtplimbgaoengfaaGreatDoorQB10
import Derived.Test.YtplimbgaoengfaaGreatDoorQB11
import Derived.Test.YtplimbgaoengfaaGreatDoorQB12
import Derived.Test.YtplimbgaoengfaaGreatDoorQB13
import Derived.Test.YtplimbgaoengfaaGreatDoorQB14
import Derived.Test.YtplimbgaoengfaaGreatDoorQB15
import Derived.Test.YtplimbgaoengfaaGreatDoorQB16
import Derived.Test.YtplimbgaoengfaaGreatDoorQB17
import Derived.Test.YtplimbgaoengfaaGreatDoorQB18
import Derived.Test.YtplimbgaoengfaaGreatDoorQB19
import Derived.Test.YtplimbgaoengfaaGreatDoorQB20
import Derived.Test.YtplimbgaoengfaaGreatDoorQB21
import Derived.Test.YtplimbgaoengfaaGreatDoorQB22
import Derived.Test.YtplimbgaoengfaaGreatDoorQB23
import Derived.Test.YtplimbgaoengfaaGreatDoorQB24
import Derived.Test.YtplimbgaoengfaaGreatDoorQB25
import Derived.Test.YtplimbgaoengfaaGreatDoorQB28
namespace Go.Proofs.YtplimbgaoengfaaGreatDoor
open Go Go.RowKit
set_option maxRecDepth 100000 in
set_option maxHeartbeats 2000000 in
theorem acheck_z (n : V3) (w : World) (g : Gd w) (hn : VB 200 n) (h0 : n.x = 0) (h1 : n.y = 0) (h2 : n.z = 0) : Calls Tryz.prog 52 #[.agg #[.string (qs n.x), .string (qs n.y), .string (qs n.z)]] w (Ret w (.int .i64 17)) := by
  have HN := Lib.hid hn
  have HG := Lib.hid g
  clear hn g
  have h0_t := qs_is0 h0
  have h1_t := qs_is0 h1
  have h2_t := qs_is0 h2
  clear h0 h1 h2
  go_enter Tryz.func52, Tryz.ntmps52
  go_wp2_with fail
  refine (vCheck_ok n _ (HG.out.ext ((Ext.refl w).alloc _)) HN.out).mono ?_; rintro e w1 ⟨rfl, e1⟩
  have HX1 : Hid (Ext w w1) := Lib.hid (((Ext.refl w).alloc _).trans e1)
  have HB0_1 : Hid (Blk w1 (w.heap.size) #[.string (qs n.x), .string (qs n.y), .string (qs n.z)] 37) := Lib.hid (Blk.ext (Blk.new' (w := _) (cs := #[.string (qs n.x), .string (qs n.y), .string (qs n.z)]) (t := 37) (by first | rfl | (simp only [World.size_alloc]; done) | (simp only [World.size_alloc]; omega) | simp)) e1)
  have HGEB0 : Hid (w.heap.size ≤ w.heap.size) := Lib.hid (by first | omega | (simp only []; omega) | (simp; omega))
  clear e1
  go_wp2_with fail
  refine wp_name (fun W => Ext w W ∧ Blk W (w.heap.size) #[.string (qs n.x), .string (qs n.y), .string (qs n.z)] 37) ⟨HX1.out, HB0_1.out⟩ ?_
  rintro w2 ⟨e2, bB0_2⟩
  have HX2 := Lib.hid e2; have HB0_2 := Lib.hid bB0_2
  clear e2 bB0_2
  refine region_lin [.val (.agg #[.string (qs n.x), .string (qs n.y), .string (qs n.z)]), .val (.agg #[.string ⟨#[48]⟩, .string ⟨#[48]⟩, .string ⟨#[48]⟩]), .val (.bool true), .val (.bool true)] (by kernel_rfl) (by kernel_rfl) (by kernel_rfl) ?_ (fun g2 w3 hx_ hm_ hne_ => ?_)
  · skip
    refine RnL.cons (fun g2 A_ W_ hs_ => ?_) ?_
    · have q1_ := (hs_.old 1 (by kernel_rfl) : A_.tmps[1]?.getD undef = .pointer (some ⟨w.heap.size, 0, none⟩))
      have cB0_0 := ((HB0_2.out.drew.ext hs_.1)).cell 0 rfl
      have cB0_1 := ((HB0_2.out.drew.ext hs_.1)).cell 1 rfl
      have cB0_2 := ((HB0_2.out.drew.ext hs_.1)).cell 2 rfl
      refine Rn.val fun K_ hK_ => ?_
      go_simp
      exact hK_.out _ (Ext.refl _)
    refine RnL.cons (fun g2 A_ W_ hs_ => ?_) ?_
    · refine Rn.val fun K_ hK_ => ?_
      go_simp
      refine (vof0 _ (HG.out.ext (HX2.out.drew.trans hs_.1))).mono ?_; rintro e W9_ ⟨rfl, e9_⟩; exact hK_.out _ e9_
    refine RnL.cons (fun g2 A_ W_ hs_ => ?_) ?_
    · have q8_ := hs_.val 0 rfl rfl rfl
      have q9_ := hs_.val 1 rfl rfl rfl
      refine Rn.val fun K_ hK_ => ?_
      go_simp
      exact hK_.out _ (Ext.refl _)
    refine RnL.cons (fun g2 A_ W_ hs_ => ?_) ?_
    · have q10_ := hs_.val 2 rfl rfl rfl
      refine Rn.val fun K_ hK_ => ?_
      go_simp
      exact hK_.out _ (Ext.refl _)
    exact RnL.nil
  simp only [fs, Kd.value, puts, Act.put, List.setIfInBounds_toArray, List.set_cons_zero, List.set_cons_succ]
  have HX3 : Hid (Ext w w3) := Lib.hid (HX2.out.drew.trans hx_)
  clear hx_ hm_ hne_
  go_wp2
  go_ret
  exact ⟨rfl, HX3.out⟩

set_option maxRecDepth 100000 in
set_option maxHeartbeats 2000000 in
theorem acheck_e (n : T3) (w : World) (g : Gd w) (hn : TS n) (he : terr n.l = 2) : Calls Tryz.prog 52 #[.agg #[.string n.x, .string n.y, .string n.z]] w (Ret w (.int .i64 2)) := by
  have HN := Lib.hid hn
  have HE := Lib.hid he
  have HG := Lib.hid g
  clear hn he g
  go_enter Tryz.func52, Tryz.ntmps52
  go_wp2_with fail
  refine ((HE.out ▸ vcheck_c n _ (HG.out.ext ((Ext.refl w).alloc _)) HN.out)).mono ?_; rintro e w1 ⟨rfl, e1⟩
  have HX1 : Hid (Ext w w1) := Lib.hid (((Ext.refl w).alloc _).trans e1)
  clear e1
  go_wp2
  go_ret
  exact ⟨rfl, HX1.out⟩

end Go.Proofs.YtplimbgaoengfaaGreatDoor
