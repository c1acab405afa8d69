/- Part 36 of the proof: M1. -/
import Derived.Test.YtjeimihnoiephaaGreatDoorQX1
import Derived.Test.YtjeimihnoiephaaGreatDoorQX2
import Derived.Test.YtjeimihnoiephaaGreatDoorQX3
import Derived.Test.YtjeimihnoiephaaGreatDoorQX4
import Derived.Test.YtjeimihnoiephaaGreatDoorQX5
import Derived.Test.YtjeimihnoiephaaGreatDoorQX6
import Derived.Test.YtjeimihnoiephaaGreatDoorQX7
import Derived.Test.YtjeimihnoiephaaGreatDoorQX8
import Derived.Test.YtjeimihnoiephaaGreatDoorQX9
import Derived.Test.YtjeimihnoiephaaGreatDoorQX10
import Derived.Test.YtjeimihnoiephaaGreatDoorQX11
import Derived.Test.YtjeimihnoiephaaGreatDoorQX12
import Derived.Test.YtjeimihnoiephaaGreatDoorQX13
import Derived.Test.YtjeimihnoiephaaGreatDoorQX14
import Derived.Test.YtjeimihnoiephaaGreatDoorQX15
import Derived.Test.YtjeimihnoiephaaGreatDoorQX16
import Derived.Test.YtjeimihnoiephaaGreatDoorQX17
import Derived.Test.YtjeimihnoiephaaGreatDoorQX18
import Derived.Test.YtjeimihnoiephaaGreatDoorQX19
import Derived.Test.YtjeimihnoiephaaGreatDoorQX20
import Derived.Test.YtjeimihnoiephaaGreatDoorQX21
import Derived.Test.YtjeimihnoiephaaGreatDoorQX22
import Derived.Test.YtjeimihnoiephaaGreatDoorQX23
import Derived.Test.YtjeimihnoiephaaGreatDoorQX24
import Derived.Test.YtjeimihnoiephaaGreatDoorQX25
import Derived.Test.YtjeimihnoiephaaGreatDoorQX26
import Derived.Test.YtjeimihnoiephaaGreatDoorQX27
import Derived.Test.YtjeimihnoiephaaGreatDoorQX28
import Derived.Test.YtjeimihnoiephaaGreatDoorQX29
import Derived.Test.YtjeimihnoiephaaGreatDoorQX30
import Derived.Test.YtjeimihnoiephaaGreatDoorQX32
import Derived.Test.YtjeimihnoiephaaGreatDoorQX34
import Derived.ChangeKeysEq
namespace Go.Proofs.YtjeimihnoiephaaGreatDoor
open Go Go.RowKit
set_option linter.unusedVariables false
set_option maxRecDepth 100000 in
set_option maxHeartbeats 2000000 in
theorem rchks_ok (a b:Q4) (e:Int) (kb:Nat) {ty:TypeId} (w:World) (g:Gd w) (hB:Blk w kb #[.int .i64 a.w,.int .i64 a.x,.int .i64 a.y,.int .i64 a.z,.int .i64 b.w,.int .i64 b.x,.int .i64 b.y,.int .i64 b.z] ty) (hea:QErr a 0) (heb:QErr b 0):Calls Tryz.prog 56 #[.slice (some ⟨kb,0,none⟩) 2 2] w (Ret w (.int .i64 0)):=by
  have HCB:=Lib.hid hB
  have HEA:=Lib.hid hea
  have HEB:=Lib.hid heb
  have HG:=Lib.hid g
  clear hB hea heb g
  go_enter Tryz.func56,Tryz.ntmps56
  go_wp2_with fail
  refine wp_loop_rounds 3 ?_
  rw [rounds_succ]
  have cP_0:=HCB.out.cell 0 rfl
  have cP_1:=HCB.out.cell 1 rfl
  have cP_2:=HCB.out.cell 2 rfl
  have cP_3:=HCB.out.cell 3 rfl
  go_upto_region 4 with fail
  refine wp_name (fun W => Ext w W∧Blk W (kb) #[.int .i64 a.w,.int .i64 a.x,.int .i64 a.y,.int .i64 a.z,.int .i64 b.w,.int .i64 b.x,.int .i64 b.y,.int .i64 b.z] ty∧Blk W (w.heap.size) #[.int .i64 a.w,.int .i64 a.x,.int .i64 a.y,.int .i64 a.z] 22) ⟨((Ext.refl w).alloc _),(HCB.out.alloc _),(Blk.new' (w:=_) (cs:=#[.int .i64 a.w,.int .i64 a.x,.int .i64 a.y,.int .i64 a.z]) (t:=22) (by first | rfl | (simp only [World.size_alloc];done) | (simp only [World.size_alloc];omega) | simp))⟩ ?_
  rintro w1 ⟨e1,bBP_1,bB0_1⟩
  have HX1:=Lib.hid e1;have HBP_1:=Lib.hid bBP_1;have HB0_1:=Lib.hid bB0_1
  have HGEB0:Hid (w.heap.size ≤ w.heap.size):=Lib.hid (by first | omega | (simp only [];omega) | (simp;omega))
  clear e1 bBP_1 bB0_1 cP_0 cP_1 cP_2 cP_3
  have c0_0:=HB0_1.out.cell 0 rfl
  have c0_1:=HB0_1.out.cell 1 rfl
  have c0_2:=HB0_1.out.cell 2 rfl
  have c0_3:=HB0_1.out.cell 3 rfl
  go_wp2_with fail
  refine (rchk_l _ (HG.out.ext HX1.out) HEA.out).mono ?_;rintro e w2 ⟨rfl,e2⟩
  have HX2:Hid (Ext w w2):=Lib.hid (HX1.out.trans e2)
  have HBP_2:=Lib.hid (Blk.ext HBP_1.out e2)
  clear e2 c0_0 c0_1 c0_2 c0_3
  go_wp2_with fail
  rw [rounds_succ]
  have cP_4:=HBP_2.out.cell 4 rfl
  have cP_5:=HBP_2.out.cell 5 rfl
  have cP_6:=HBP_2.out.cell 6 rfl
  have cP_7:=HBP_2.out.cell 7 rfl
  go_wp2_with fail
  refine (rchk_l _ (HG.out.ext (HX2.out.alloc _)) HEB.out).mono ?_;rintro e w3 ⟨rfl,e3⟩
  have HX3:Hid (Ext w w3):=Lib.hid ((HX2.out.alloc _).trans e3)
  clear e3 cP_4 cP_5 cP_6 cP_7
  go_wp2_with fail
  rw [rounds_succ]
  go_wp2
  go_ret
  exact ⟨rfl,HX3.out⟩
end Go.Proofs.YtjeimihnoiephaaGreatDoor
