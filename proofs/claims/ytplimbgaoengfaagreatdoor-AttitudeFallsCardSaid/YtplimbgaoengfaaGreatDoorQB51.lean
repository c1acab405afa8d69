/- Part 51 of the proof: N1. -/
import Derived.Test.YtplimbgaoengfaaGreatDoorQB1
import Derived.Test.YtplimbgaoengfaaGreatDoorQB2
import Derived.Test.YtplimbgaoengfaaGreatDoorQB3
import Derived.Test.YtplimbgaoengfaaGreatDoorQB4
import Derived.Test.YtplimbgaoengfaaGreatDoorQB5
import Derived.Test.YtplimbgaoengfaaGreatDoorQB6
import Derived.Test.YtplimbgaoengfaaGreatDoorQB7
import Derived.Test.YtplimbgaoengfaaGreatDoorQB8
import Derived.Test.YtplimbgaoengfaaGreatDoorQB9
import Derived.Test.YtplimbgaoengfaaGreatDoorQB10
import Derived.Test.YtplimbgaoengfaaGreatDoorQB11
import Derived.Test.YtplimbgaoengfaaGreatDoorQB12
import Derived.Test.YtplimbgaoengfaaGreatDoorQB13
import Derived.Test.YtplimbgaoengfaaGreatDoorQB14
import Derived.Test.YtplimbgaoengfaaGreatDoorQB15
import Derived.Test.YtplimbgaoengfaaGreatDoorQB16
import Derived.Test.YtplimbgaoengfaaGreatDoorQB17
import Derived.Test.YtplimbgaoengfaaGreatDoorQB18
import Derived.Test.YtplimbgaoengfaaGreatDoorQB19
import Derived.Test.YtplimbgaoengfaaGreatDoorQB20
import Derived.Test.YtplimbgaoengfaaGreatDoorQB21
import Derived.Test.YtplimbgaoengfaaGreatDoorQB22
import Derived.Test.YtplimbgaoengfaaGreatDoorQB23
import Derived.Test.YtplimbgaoengfaaGreatDoorQB24
import Derived.Test.YtplimbgaoengfaaGreatDoorQB25
import Derived.Test.YtplimbgaoengfaaGreatDoorQB27
import Derived.Test.YtplimbgaoengfaaGreatDoorQB28
import Derived.Test.YtplimbgaoengfaaGreatDoorQB29
import Derived.Test.YtplimbgaoengfaaGreatDoorQB31
import Derived.Test.YtplimbgaoengfaaGreatDoorQB50
namespace Go.Proofs.YtplimbgaoengfaaGreatDoor
open Go Go.RowKit
theorem lnorm_p_ok (n : P2) (w : World) (g : Gd w) (hn : PB 200 n) (h : ¬ (n.x = 0 ∧ n.y = 0)) : Calls Tryz.prog 18 #[.agg #[.string (qs n.x), .string (qs n.y), .string ⟨#[48]⟩]] w (Ret w (.int .i64 0)) := by
  rw [← qs_zero]
  exact lnorm_ok ⟨n.x, n.y, 0⟩ w g ⟨hn.x, hn.y, (⟨by decide, by decide⟩ : QB 1 0).mono (by decide)⟩ (fun e => h ⟨e.1, e.2.1⟩)
theorem lnorm_p_z (n : P2) (w : World) (g : Gd w) (hn : PB 200 n) (h : n.x = 0 ∧ n.y = 0) : Calls Tryz.prog 18 #[.agg #[.string (qs n.x), .string (qs n.y), .string ⟨#[48]⟩]] w (Ret w (.int .i64 17)) := by
  rw [← qs_zero]
  exact lnorm_z ⟨n.x, n.y, 0⟩ w g ⟨hn.x, hn.y, (⟨by decide, by decide⟩ : QB 1 0).mono (by decide)⟩ h.1 h.2 rfl

set_option maxRecDepth 100000 in
set_option maxHeartbeats 2000000 in
theorem ldir_ok (n : P2) (w : World) (g : Gd w) (hn : PB 200 n) (hz : ¬ (n.x = 0 ∧ n.y = 0)) : Calls Tryz.prog 14 #[.agg #[.string (qs n.x), .string (qs n.y)]] w (Ret w (.int .i64 0)) := by
  have HN := Lib.hid hn
  have HZ := Lib.hid hz
  have HG := Lib.hid g
  clear hn hz g
  go_enter Tryz.func14, Tryz.ntmps14
  go_wp2_with fail
  refine (lnorm_p_ok n _ (HG.out.ext ((Ext.refl w).alloc _)) HN.out HZ.out).mono ?_; rintro e w1 ⟨rfl, e1⟩
  have HX1 : Hid (Ext w w1) := Lib.hid (((Ext.refl w).alloc _).trans e1)
  clear e1
  go_wp2
  go_ret
  exact ⟨rfl, HX1.out⟩

set_option maxRecDepth 100000 in
set_option maxHeartbeats 2000000 in
theorem ldir_z (n : P2) (w : World) (g : Gd w) (hn : PB 200 n) (hz : n.x = 0 ∧ n.y = 0) : Calls Tryz.prog 14 #[.agg #[.string (qs n.x), .string (qs n.y)]] w (Ret w (.int .i64 17)) := by
  have HN := Lib.hid hn
  have HZ := Lib.hid hz
  have HG := Lib.hid g
  clear hn hz g
  go_enter Tryz.func14, Tryz.ntmps14
  go_wp2_with fail
  refine (lnorm_p_z n _ (HG.out.ext ((Ext.refl w).alloc _)) HN.out HZ.out).mono ?_; rintro e w1 ⟨rfl, e1⟩
  have HX1 : Hid (Ext w w1) := Lib.hid (((Ext.refl w).alloc _).trans e1)
  clear e1
  go_wp2
  go_ret
  exact ⟨rfl, HX1.out⟩

set_option maxRecDepth 100000 in
set_option maxHeartbeats 2000000 in
theorem ldir_e (n : T2) (w : World) (g : Gd w) (hn : TS2 n) (he : n.l.all rq = false) : Calls Tryz.prog 14 #[.agg #[.string n.x, .string n.y]] w (Ret w (.int .i64 2)) := by
  have HN := Lib.hid hn
  have HG := Lib.hid g
  clear hn g
  have HE3 : Hid ((T3.l ⟨n.x, n.y, ⟨#[48]⟩⟩).all rq = false) := Lib.hid (by simp only [T3.l, T2.l, List.all_cons, List.all_nil, Bool.and_true] at he ⊢; cases h1 : rq n.x <;> cases h2 : rq n.y <;> simp_all)
  clear he
  go_enter Tryz.func14, Tryz.ntmps14
  go_wp2_with fail
  refine (lnorm_e ⟨n.x, n.y, ⟨#[48]⟩⟩ _ (HG.out.ext ((Ext.refl w).alloc _)) ⟨HN.out.x, HN.out.y, show (⟨#[48]⟩ : ByteArray).size ≤ 1000000 by decide⟩ HE3.out).mono ?_; rintro e w1 ⟨rfl, e1⟩
  have HX1 : Hid (Ext w w1) := Lib.hid (((Ext.refl w).alloc _).trans e1)
  clear e1
  go_wp2
  go_ret
  exact ⟨rfl, HX1.out⟩
end Go.Proofs.YtplimbgaoengfaaGreatDoor
