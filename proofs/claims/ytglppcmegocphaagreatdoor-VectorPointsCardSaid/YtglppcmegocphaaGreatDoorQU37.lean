/- Part 37 of the proof: B9, L2, V10. -/
import Derived.Test.YtglppcmegocphaaGreatDoorQU1
import Derived.Test.YtglppcmegocphaaGreatDoorQU2
import Derived.Test.YtglppcmegocphaaGreatDoorQU3
import Derived.Test.YtglppcmegocphaaGreatDoorQU4
import Derived.Test.YtglppcmegocphaaGreatDoorQU5
import Derived.Test.YtglppcmegocphaaGreatDoorQU6
import Derived.Test.YtglppcmegocphaaGreatDoorQU7
import Derived.Test.YtglppcmegocphaaGreatDoorQU8
import Derived.Test.YtglppcmegocphaaGreatDoorQU9
import Derived.Test.YtglppcmegocphaaGreatDoorQU10
import Derived.Test.YtglppcmegocphaaGreatDoorQU11
import Derived.Test.YtglppcmegocphaaGreatDoorQU12
import Derived.Test.YtglppcmegocphaaGreatDoorQU13
import Derived.Test.YtglppcmegocphaaGreatDoorQU14
import Derived.Test.YtglppcmegocphaaGreatDoorQU15
import Derived.Test.YtglppcmegocphaaGreatDoorQU16
import Derived.Test.YtglppcmegocphaaGreatDoorQU17
import Derived.Test.YtglppcmegocphaaGreatDoorQU18
import Derived.Test.YtglppcmegocphaaGreatDoorQU19
import Derived.Test.YtglppcmegocphaaGreatDoorQU20
import Derived.Test.YtglppcmegocphaaGreatDoorQU21
import Derived.Test.YtglppcmegocphaaGreatDoorQU22
import Derived.Test.YtglppcmegocphaaGreatDoorQU23
import Derived.Test.YtglppcmegocphaaGreatDoorQU24
import Derived.Test.YtglppcmegocphaaGreatDoorQU32
import Derived.Test.YtglppcmegocphaaGreatDoorQU34
import Derived.Test.YtglppcmegocphaaGreatDoorQU35
import Derived.Test.YtglppcmegocphaaGreatDoorQU36
namespace Go.Proofs.YtglppcmegocphaaGreatDoor
open Go Go.RowKit
theorem fright_yes (s : ByteArray) (w : World) (g : Gd w) (hl : s.size ≤ 1000000) (h : rq s = true) : Calls Tryz.prog 59 #[.string s] w (Ret w (.bool true)) :=
  fqright_c s w g true hl ⟨fun _ => rfl, fun e => absurd (rq_true.1 h) e⟩
theorem fright_no (s : ByteArray) (w : World) (g : Gd w) (hl : s.size ≤ 1000000) (h : rq s = false) : Calls Tryz.prog 59 #[.string s] w (Ret w (.bool false)) :=
  fqright_c s w g false hl ⟨fun e => absurd e (rq_false.1 h), fun _ => rfl⟩

end Go.Proofs.YtglppcmegocphaaGreatDoor

namespace Go.Proofs.YtglppcmegocphaaGreatDoor
open Go Go.RowKit
theorem first2_c (x0 x1 : Int) (kb : Nat) (w : World) (hB : Blk w kb #[.int .i64 x0, .int .i64 x1] 32) : Calls Tryz.prog 26 #[.slice (some ⟨kb, 0, none⟩) 2 2] w fun e w' => e = .returned (.int .i64 (ferr [x0, x1])) ∧ w = w' :=
  first_c [x0, x1] kb 2 2 w rfl (by decide) (fun i hi => match i, hi with | 0, _ => hB.cell 0 rfl | 1, _ => hB.cell 1 rfl)
end Go.Proofs.YtglppcmegocphaaGreatDoor

namespace Go.Proofs.YtglppcmegocphaaGreatDoor
open Go Go.RowKit
set_option maxRecDepth 100000 in
set_option maxHeartbeats 2000000 in
theorem vThrough_err (a b : T2) (w : World) (g : Gd w) (ha : TS2 a) (hb : TS2 b) (he : perr [a, b] = 2) : Calls Tryz.prog 40 #[.agg #[.string a.x, .string a.y], .agg #[.string b.x, .string b.y]] w (Ret w (.tuple #[.agg #[.string ⟨#[]⟩, .string ⟨#[]⟩, .string ⟨#[]⟩], .int .i64 2])) := by
  have HA := Lib.hid ha
  have HB := Lib.hid hb
  have HE := Lib.hid he
  have HG := Lib.hid g
  clear ha hb he g
  go_enter Tryz.func40, Tryz.ntmps40
  go_wp2_with fail
  refine ((HE.out ▸ points2_c a b (w.heap.size + 1 + 1 + 1) _ (HG.out.ext (((((Ext.refl w).alloc _).alloc _).alloc _).alloc _)) HA.out HB.out (Blk.new' (w := _) (cs := #[.string a.x, .string a.y, .string b.x, .string b.y]) (t := 62) (by first | rfl | (simp only [World.size_alloc]; done) | (simp only [World.size_alloc]; omega) | simp)))).mono ?_; rintro e w1 ⟨rfl, e1⟩
  have HX1 : Hid (Ext w w1) := Lib.hid ((((((Ext.refl w).alloc _).alloc _).alloc _).alloc _).trans e1)
  have HB2_1 : Hid (Blk w1 (w.heap.size + 1 + 1) #[.string ⟨#[]⟩, .string ⟨#[]⟩, .string ⟨#[]⟩] 73) := Lib.hid (Blk.ext ((Blk.new' (w := _) (cs := #[.string ⟨#[]⟩, .string ⟨#[]⟩, .string ⟨#[]⟩]) (t := 73) (by first | rfl | (simp only [World.size_alloc]; done) | (simp only [World.size_alloc]; omega) | simp)).alloc _) e1)
  have HB3_1 : Hid (Blk w1 (w.heap.size + 1 + 1 + 1) #[.string a.x, .string a.y, .string b.x, .string b.y] 62) := Lib.hid (Blk.ext (Blk.new' (w := _) (cs := #[.string a.x, .string a.y, .string b.x, .string b.y]) (t := 62) (by first | rfl | (simp only [World.size_alloc]; done) | (simp only [World.size_alloc]; omega) | simp)) e1)
  have HGEB2 : Hid (w.heap.size ≤ w.heap.size + 1 + 1) := Lib.hid (by first | omega | (simp only []; omega) | (simp; omega))
  have HGEB3 : Hid (w.heap.size ≤ w.heap.size + 1 + 1 + 1) := Lib.hid (by first | omega | (simp only []; omega) | (simp; omega))
  clear e1
  have c2_0 := HB2_1.out.cell 0 rfl
  have f2_0 := HB2_1.out.free 0
  have c2_1 := HB2_1.out.cell 1 rfl
  have f2_1 := HB2_1.out.free 1
  have c2_2 := HB2_1.out.cell 2 rfl
  have f2_2 := HB2_1.out.free 2
  go_wp2_with fail
  refine wp_name (fun W => Ext w W ∧ Blk W (w.heap.size + 1 + 1) #[.string ⟨#[]⟩, .string ⟨#[]⟩, .string ⟨#[]⟩] 73) ⟨(((HX1.out.setCell (by have := HGEB2.out; first | omega | (simp only []; omega) | (simp; omega)) _).setCell (by have := HGEB2.out; first | omega | (simp only []; omega) | (simp; omega)) _).setCell (by have := HGEB2.out; first | omega | (simp only []; omega) | (simp; omega)) _), (((HB2_1.out.set 0 (.string ⟨#[]⟩)).set 1 (.string ⟨#[]⟩)).set 2 (.string ⟨#[]⟩))⟩ ?_
  rintro w2 ⟨e2, bB2_2⟩
  have HX2 := Lib.hid e2; have HB2_2 := Lib.hid bB2_2
  clear e2 bB2_2 c2_0 f2_0 c2_1 f2_1 c2_2 f2_2
  have gB2_0 := HB2_2.out.cell 0 rfl
  have gB2_1 := HB2_2.out.cell 1 rfl
  have gB2_2 := HB2_2.out.cell 2 rfl
  refine bodyPost_ret (v := .tuple #[.agg #[.string ⟨#[]⟩, .string ⟨#[]⟩, .string ⟨#[]⟩], .int .i64 2]) (by simp [results, Tryz.results40, go_sem, gB2_0, gB2_1, gB2_2]) rfl ⟨rfl, HX2.out⟩

theorem right_q {s : ByteArray} (h : rq s = true) : ∃ q : Rat, s = qs q ∧ QB 200 q := by
  obtain ⟨q, hq, hn, hd⟩ := rq_true.1 h
  refine ⟨q, ?_, lt_of_dec_len hn, lt_of_dec_len hd⟩
  cases s with
  | mk d =>
    have : d.toList = ql q := hq
    unfold qs
    congr 1
    rw [← this]
end Go.Proofs.YtglppcmegocphaaGreatDoor
