/- Part 28 of the proof: N1. -/
import Derived.Test.YtplimbgaoengfaaGreatDoorQB1
import Derived.Test.YtplimbgaoengfaaGreatDoorQB2
import Derived.Test.YtplimbgaoengfaaGreatDoorQB3
import Derived.Test.YtplimbgaoengfaaGreatDoorQB4
import Derived.Test.YtplimbgaoengfaaGreatDoorQB5
import Derived.Test.YtplimbgaoengfaaGreatDoorQB6
import Derived.Test.YtplimbgaoengfaaGreatDoorQB7
import Derived.Test.YtplimbgaoengfaaGreatDoorQB8
import Derived.Test.YtplimbgaoengfaaGreatDoorQB9
import Derived.Test.YtplimbgaoengfaaGreatDoorQB10
import Derived.Test.YtplimbgaoengfaaGreatDoorQB11
import Derived.Test.YtplimbgaoengfaaGreatDoorQB12
import Derived.Test.YtplimbgaoengfaaGreatDoorQB13
import Derived.Test.YtplimbgaoengfaaGreatDoorQB14
import Derived.Test.YtplimbgaoengfaaGreatDoorQB15
import Derived.Test.YtplimbgaoengfaaGreatDoorQB16
import Derived.Test.YtplimbgaoengfaaGreatDoorQB17
import Derived.Test.YtplimbgaoengfaaGreatDoorQB18
import Derived.Test.YtplimbgaoengfaaGreatDoorQB19
import Derived.Test.YtplimbgaoengfaaGreatDoorQB20
import Derived.Test.YtplimbgaoengfaaGreatDoorQB21
import Derived.Test.YtplimbgaoengfaaGreatDoorQB22
import Derived.Test.YtplimbgaoengfaaGreatDoorQB23
import Derived.Test.YtplimbgaoengfaaGreatDoorQB24
import Derived.Test.YtplimbgaoengfaaGreatDoorQB25
namespace Go.Proofs.YtplimbgaoengfaaGreatDoor
open Go Go.RowKit
set_option maxRecDepth 100000 in
set_option maxHeartbeats 2000000 in
theorem apoint_ok (n : P2) (w : World) (g : Gd w) (hn : PB 200 n) : Calls Tryz.prog 59 #[.agg #[.string (qs n.x), .string (qs n.y)]] w (Ret w (.tuple #[.agg #[.string (qs n.x), .string (qs n.y)], .int .i64 0])) := by
  have HN := Lib.hid hn
  have HG := Lib.hid g
  clear hn g
  go_enter Tryz.func59, Tryz.ntmps59
  go_wp2_with fail
  refine (vCheckPoint_ok n _ (HG.out.ext (((Ext.refl w).alloc _).alloc _)) HN.out).mono ?_; rintro e w1 ⟨rfl, e1⟩
  have HX1 : Hid (Ext w w1) := Lib.hid ((((Ext.refl w).alloc _).alloc _).trans e1)
  have HB0_1 : Hid (Blk w1 (w.heap.size) #[.string (qs n.x), .string (qs n.y)] 24) := Lib.hid (Blk.ext ((Blk.new' (w := _) (cs := #[.string (qs n.x), .string (qs n.y)]) (t := 24) (by first | rfl | (simp only [World.size_alloc]; done) | (simp only [World.size_alloc]; omega) | simp)).alloc _) e1)
  have HB1_1 : Hid (Blk w1 (w.heap.size + 1) #[.string ⟨#[]⟩, .string ⟨#[]⟩] 24) := Lib.hid (Blk.ext (Blk.new' (w := _) (cs := #[.string ⟨#[]⟩, .string ⟨#[]⟩]) (t := 24) (by first | rfl | (simp only [World.size_alloc]; done) | (simp only [World.size_alloc]; omega) | simp)) e1)
  have HGEB0 : Hid (w.heap.size ≤ w.heap.size) := Lib.hid (by first | omega | (simp only []; omega) | (simp; omega))
  have HGEB1 : Hid (w.heap.size ≤ w.heap.size + 1) := Lib.hid (by first | omega | (simp only []; omega) | (simp; omega))
  clear e1
  have c0_0 := HB0_1.out.cell 0 rfl
  have c0_1 := HB0_1.out.cell 1 rfl
  have c1_0 := HB1_1.out.cell 0 rfl
  have f1_0 := HB1_1.out.free 0
  have c1_1 := HB1_1.out.cell 1 rfl
  have f1_1 := HB1_1.out.free 1
  go_wp2_with fail
  refine wp_name (fun W => Ext w W ∧ Blk W (w.heap.size + 1) #[.string (qs n.x), .string (qs n.y)] 24) ⟨((HX1.out.setCell (by have := HGEB1.out; first | omega | (simp only []; omega) | (simp; omega)) _).setCell (by have := HGEB1.out; first | omega | (simp only []; omega) | (simp; omega)) _), ((HB1_1.out.set 0 (.string (qs n.x))).set 1 (.string (qs n.y)))⟩ ?_
  rintro w2 ⟨e2, bB1_2⟩
  have HX2 := Lib.hid e2; have HB1_2 := Lib.hid bB1_2
  clear e2 bB1_2 c0_0 c0_1 c1_0 f1_0 c1_1 f1_1
  have gB1_0 := HB1_2.out.cell 0 rfl
  have gB1_1 := HB1_2.out.cell 1 rfl
  refine bodyPost_ret (v := .tuple #[.agg #[.string (qs n.x), .string (qs n.y)], .int .i64 0]) (by simp [results, Tryz.results59, go_sem, gB1_0, gB1_1]) rfl ⟨rfl, HX2.out⟩

end Go.Proofs.YtplimbgaoengfaaGreatDoor
