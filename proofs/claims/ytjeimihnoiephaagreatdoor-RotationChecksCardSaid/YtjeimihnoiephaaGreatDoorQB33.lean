/- Part 33 of the proof: M1. -/
import Derived.Test.YtjeimihnoiephaaGreatDoorQB1
import Derived.Test.YtjeimihnoiephaaGreatDoorQB2
import Derived.Test.YtjeimihnoiephaaGreatDoorQB3
import Derived.Test.YtjeimihnoiephaaGreatDoorQB4
import Derived.Test.YtjeimihnoiephaaGreatDoorQB5
import Derived.Test.YtjeimihnoiephaaGreatDoorQB6
import Derived.Test.YtjeimihnoiephaaGreatDoorQB7
import Derived.Test.YtjeimihnoiephaaGreatDoorQB8
import Derived.Test.YtjeimihnoiephaaGreatDoorQB9
import Derived.Test.YtjeimihnoiephaaGreatDoorQB10
import Derived.Test.YtjeimihnoiephaaGreatDoorQB11
import Derived.Test.YtjeimihnoiephaaGreatDoorQB12
import Derived.Test.YtjeimihnoiephaaGreatDoorQB13
import Derived.Test.YtjeimihnoiephaaGreatDoorQB14
import Derived.Test.YtjeimihnoiephaaGreatDoorQB15
import Derived.Test.YtjeimihnoiephaaGreatDoorQB16
import Derived.Test.YtjeimihnoiephaaGreatDoorQB17
import Derived.Test.YtjeimihnoiephaaGreatDoorQB18
import Derived.Test.YtjeimihnoiephaaGreatDoorQB19
import Derived.Test.YtjeimihnoiephaaGreatDoorQB20
import Derived.Test.YtjeimihnoiephaaGreatDoorQB21
import Derived.Test.YtjeimihnoiephaaGreatDoorQB22
import Derived.Test.YtjeimihnoiephaaGreatDoorQB23
import Derived.Test.YtjeimihnoiephaaGreatDoorQB24
import Derived.Test.YtjeimihnoiephaaGreatDoorQB25
import Derived.Test.YtjeimihnoiephaaGreatDoorQB26
import Derived.Test.YtjeimihnoiephaaGreatDoorQB29
import Derived.Test.YtjeimihnoiephaaGreatDoorQB30
import Derived.Test.YtjeimihnoiephaaGreatDoorQB31
import Derived.ChangeKeysEq
namespace Go.Proofs.YtjeimihnoiephaaGreatDoor
open Go Go.RowKit
set_option linter.unusedVariables false
set_option maxRecDepth 100000 in
set_option maxHeartbeats 2000000 in
theorem rchks_a (a b : Q4) (e : Int) (kb : Nat) {ty : TypeId} (w : World) (g : Gd w) (hB : Blk w kb #[.int .i64 a.w, .int .i64 a.x, .int .i64 a.y, .int .i64 a.z, .int .i64 b.w, .int .i64 b.x, .int .i64 b.y, .int .i64 b.z] ty) (hea : QErr a e) (he : e ≠ 0) : Calls Tryz.prog 56 #[.slice (some ⟨kb, 0, none⟩) 2 2] w (Ret w (.int .i64 e)) := by
  have HCB := Lib.hid hB
  have HEA := Lib.hid hea
  have HG := Lib.hid g
  clear hB hea g
  have he_n : (e != 0) = true := bne_iff_ne.2 he
  have he_e : (e == 0) = false := beq_eq_false_iff_ne.2 he
  clear he
  go_enter Tryz.func56, Tryz.ntmps56
  go_wp2_with fail
  refine wp_loop_rounds 1 ?_
  rw [rounds_succ]
  have cP_0 := HCB.out.cell 0 rfl
  have cP_1 := HCB.out.cell 1 rfl
  have cP_2 := HCB.out.cell 2 rfl
  have cP_3 := HCB.out.cell 3 rfl
  go_wp2_with fail
  refine (rchk_l _ (HG.out.ext ((Ext.refl w).alloc _)) HEA.out).mono ?_; rintro e w1 ⟨rfl, e1⟩
  have HX1 : Hid (Ext w w1) := Lib.hid (((Ext.refl w).alloc _).trans e1)
  clear e1 cP_0 cP_1 cP_2 cP_3
  go_wp2
  go_ret
  exact ⟨rfl, HX1.out⟩

end Go.Proofs.YtjeimihnoiephaaGreatDoor
