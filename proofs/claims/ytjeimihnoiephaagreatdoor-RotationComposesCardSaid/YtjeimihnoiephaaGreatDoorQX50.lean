/- Part 50 of the proof: M1. -/
import Derived.Test.YtjeimihnoiephaaGreatDoorQX1
import Derived.Test.YtjeimihnoiephaaGreatDoorQX2
import Derived.Test.YtjeimihnoiephaaGreatDoorQX3
import Derived.Test.YtjeimihnoiephaaGreatDoorQX4
import Derived.Test.YtjeimihnoiephaaGreatDoorQX5
import Derived.Test.YtjeimihnoiephaaGreatDoorQX6
import Derived.Test.YtjeimihnoiephaaGreatDoorQX7
import Derived.Test.YtjeimihnoiephaaGreatDoorQX8
import Derived.Test.YtjeimihnoiephaaGreatDoorQX9
import Derived.Test.YtjeimihnoiephaaGreatDoorQX10
import Derived.Test.YtjeimihnoiephaaGreatDoorQX11
import Derived.Test.YtjeimihnoiephaaGreatDoorQX12
import Derived.Test.YtjeimihnoiephaaGreatDoorQX13
import Derived.Test.YtjeimihnoiephaaGreatDoorQX14
import Derived.Test.YtjeimihnoiephaaGreatDoorQX15
import Derived.Test.YtjeimihnoiephaaGreatDoorQX16
import Derived.Test.YtjeimihnoiephaaGreatDoorQX17
import Derived.Test.YtjeimihnoiephaaGreatDoorQX18
import Derived.Test.YtjeimihnoiephaaGreatDoorQX19
import Derived.Test.YtjeimihnoiephaaGreatDoorQX20
import Derived.Test.YtjeimihnoiephaaGreatDoorQX21
import Derived.Test.YtjeimihnoiephaaGreatDoorQX22
import Derived.Test.YtjeimihnoiephaaGreatDoorQX23
import Derived.Test.YtjeimihnoiephaaGreatDoorQX24
import Derived.Test.YtjeimihnoiephaaGreatDoorQX25
import Derived.Test.YtjeimihnoiephaaGreatDoorQX26
import Derived.Test.YtjeimihnoiephaaGreatDoorQX27
import Derived.Test.YtjeimihnoiephaaGreatDoorQX28
import Derived.Test.YtjeimihnoiephaaGreatDoorQX29
import Derived.Test.YtjeimihnoiephaaGreatDoorQX30
import Derived.Test.YtjeimihnoiephaaGreatDoorQX32
import Derived.Test.YtjeimihnoiephaaGreatDoorQX34
import Derived.Test.YtjeimihnoiephaaGreatDoorQX36
import Derived.Test.YtjeimihnoiephaaGreatDoorQX48
import Derived.Test.YtjeimihnoiephaaGreatDoorQX49
import Derived.ChangeKeysEq
namespace Go.Proofs.YtjeimihnoiephaaGreatDoor
open Go Go.RowKit
set_option linter.unusedVariables false
theorem qerr_ex (t:Q4):∃ e,QErr t e:=by
  cases h0:obad t.w with
  | true => exact ⟨_,.b0 h0⟩
  | false => cases h1:obad t.x with
    | true => exact ⟨_,.b1 h0 h1⟩
    | false => cases h2:obad t.y with
      | true => exact ⟨_,.b2 h0 h1 h2⟩
      | false => cases h3:obad t.z with
        | true => exact ⟨_,.b3 h0 h1 h2 h3⟩
        | false =>
          by_cases hz:t.zero
          · refine ⟨_,.zero ?_⟩
            cases t with
            | mk a b c d => obtain ⟨e0,e1,e2,e3⟩:=hz;simp only at e0 e1 e2 e3;subst e0 e1 e2 e3;rfl
          · exact ⟨_,.ok ⟨obad_f.1 h0,obad_f.1 h1,obad_f.1 h2,obad_f.1 h3⟩ hz⟩
theorem qerr_ok {t:Q4} {e:Int} (h:QErr t e) (h0:e = 0):Q4In t∧¬ t.zero:=by
  cases h with
  | b0 _ => omega
  | b1 _ _ => omega
  | b2 _ _ _ => omega
  | b3 _ _ _ _ => omega
  | zero _ => omega
  | ok h hz => exact ⟨h,hz⟩
set_option maxRecDepth 100000 in
set_option maxHeartbeats 2000000 in
theorem lchk_b0l (t:Q4) (w:World) (g:Gd w) (h0:t.w < -1000000):Calls Tryz.prog 12 #[.agg #[.int .i64 t.w,.int .i64 t.x,.int .i64 t.y,.int .i64 t.z]] w (Ret w (.int .i64 3)):=by
  have HG:=Lib.hid g
  clear g
  have l0_d:decide (t.w < -1000000) = true:=decide_eq_true (by omega)
  go_enter Tryz.func12,Tryz.ntmps12
  go_wp2_with fail
  refine wp_loop_rounds 1 ?_
  rw [rounds_succ]
  go_wp2
  go_ret
  exact ⟨rfl,((Ext.refl w).alloc _)⟩

set_option maxRecDepth 100000 in
set_option maxHeartbeats 2000000 in
theorem lchk_b0g (t:Q4) (w:World) (g:Gd w) (h0:1000000 < t.w):Calls Tryz.prog 12 #[.agg #[.int .i64 t.w,.int .i64 t.x,.int .i64 t.y,.int .i64 t.z]] w (Ret w (.int .i64 3)):=by
  have HG:=Lib.hid g
  clear g
  have l0_d:decide (t.w < -1000000) = false:=decide_eq_false (by omega)
  have g0_d:decide (1000000 < t.w) = true:=decide_eq_true (by omega)
  go_enter Tryz.func12,Tryz.ntmps12
  go_wp2_with fail
  refine wp_loop_rounds 1 ?_
  rw [rounds_succ]
  go_wp2
  go_ret
  exact ⟨rfl,((Ext.refl w).alloc _)⟩

set_option maxRecDepth 100000 in
set_option maxHeartbeats 2000000 in
theorem lchk_b1l (t:Q4) (w:World) (g:Gd w) (h0:-1000000 ≤ t.w∧t.w ≤ 1000000) (h1:t.x < -1000000):Calls Tryz.prog 12 #[.agg #[.int .i64 t.w,.int .i64 t.x,.int .i64 t.y,.int .i64 t.z]] w (Ret w (.int .i64 3)):=by
  have HG:=Lib.hid g
  clear g
  have l0_d:decide (t.w < -1000000) = false:=decide_eq_false (by omega)
  have g0_d:decide (1000000 < t.w) = false:=decide_eq_false (by omega)
  have l1_d:decide (t.x < -1000000) = true:=decide_eq_true (by omega)
  go_enter Tryz.func12,Tryz.ntmps12
  go_wp2_with fail
  refine wp_loop_rounds 2 ?_
  rw [rounds_succ]
  go_wp2_with fail
  rw [rounds_succ]
  go_wp2
  go_ret
  exact ⟨rfl,((Ext.refl w).alloc _)⟩

set_option maxRecDepth 100000 in
set_option maxHeartbeats 2000000 in
theorem lchk_b1g (t:Q4) (w:World) (g:Gd w) (h0:-1000000 ≤ t.w∧t.w ≤ 1000000) (h1:1000000 < t.x):Calls Tryz.prog 12 #[.agg #[.int .i64 t.w,.int .i64 t.x,.int .i64 t.y,.int .i64 t.z]] w (Ret w (.int .i64 3)):=by
  have HG:=Lib.hid g
  clear g
  have l0_d:decide (t.w < -1000000) = false:=decide_eq_false (by omega)
  have g0_d:decide (1000000 < t.w) = false:=decide_eq_false (by omega)
  have l1_d:decide (t.x < -1000000) = false:=decide_eq_false (by omega)
  have g1_d:decide (1000000 < t.x) = true:=decide_eq_true (by omega)
  go_enter Tryz.func12,Tryz.ntmps12
  go_wp2_with fail
  refine wp_loop_rounds 2 ?_
  rw [rounds_succ]
  go_wp2_with fail
  rw [rounds_succ]
  go_wp2
  go_ret
  exact ⟨rfl,((Ext.refl w).alloc _)⟩

set_option maxRecDepth 100000 in
set_option maxHeartbeats 2000000 in
theorem lchk_b2l (t:Q4) (w:World) (g:Gd w) (h0:-1000000 ≤ t.w∧t.w ≤ 1000000) (h1:-1000000 ≤ t.x∧t.x ≤ 1000000) (h2:t.y < -1000000):Calls Tryz.prog 12 #[.agg #[.int .i64 t.w,.int .i64 t.x,.int .i64 t.y,.int .i64 t.z]] w (Ret w (.int .i64 3)):=by
  have HG:=Lib.hid g
  clear g
  have l0_d:decide (t.w < -1000000) = false:=decide_eq_false (by omega)
  have g0_d:decide (1000000 < t.w) = false:=decide_eq_false (by omega)
  have l1_d:decide (t.x < -1000000) = false:=decide_eq_false (by omega)
  have g1_d:decide (1000000 < t.x) = false:=decide_eq_false (by omega)
  have l2_d:decide (t.y < -1000000) = true:=decide_eq_true (by omega)
  go_enter Tryz.func12,Tryz.ntmps12
  go_wp2_with fail
  refine wp_loop_rounds 3 ?_
  rw [rounds_succ]
  go_wp2_with fail
  rw [rounds_succ]
  go_wp2_with fail
  rw [rounds_succ]
  go_wp2
  go_ret
  exact ⟨rfl,((Ext.refl w).alloc _)⟩

set_option maxRecDepth 100000 in
set_option maxHeartbeats 2000000 in
theorem lchk_b2g (t:Q4) (w:World) (g:Gd w) (h0:-1000000 ≤ t.w∧t.w ≤ 1000000) (h1:-1000000 ≤ t.x∧t.x ≤ 1000000) (h2:1000000 < t.y):Calls Tryz.prog 12 #[.agg #[.int .i64 t.w,.int .i64 t.x,.int .i64 t.y,.int .i64 t.z]] w (Ret w (.int .i64 3)):=by
  have HG:=Lib.hid g
  clear g
  have l0_d:decide (t.w < -1000000) = false:=decide_eq_false (by omega)
  have g0_d:decide (1000000 < t.w) = false:=decide_eq_false (by omega)
  have l1_d:decide (t.x < -1000000) = false:=decide_eq_false (by omega)
  have g1_d:decide (1000000 < t.x) = false:=decide_eq_false (by omega)
  have l2_d:decide (t.y < -1000000) = false:=decide_eq_false (by omega)
  have g2_d:decide (1000000 < t.y) = true:=decide_eq_true (by omega)
  go_enter Tryz.func12,Tryz.ntmps12
  go_wp2_with fail
  refine wp_loop_rounds 3 ?_
  rw [rounds_succ]
  go_wp2_with fail
  rw [rounds_succ]
  go_wp2_with fail
  rw [rounds_succ]
  go_wp2
  go_ret
  exact ⟨rfl,((Ext.refl w).alloc _)⟩

set_option maxRecDepth 100000 in
set_option maxHeartbeats 2000000 in
theorem lchk_b3l (t:Q4) (w:World) (g:Gd w) (h0:-1000000 ≤ t.w∧t.w ≤ 1000000) (h1:-1000000 ≤ t.x∧t.x ≤ 1000000) (h2:-1000000 ≤ t.y∧t.y ≤ 1000000) (h3:t.z < -1000000):Calls Tryz.prog 12 #[.agg #[.int .i64 t.w,.int .i64 t.x,.int .i64 t.y,.int .i64 t.z]] w (Ret w (.int .i64 3)):=by
  have HG:=Lib.hid g
  clear g
  have l0_d:decide (t.w < -1000000) = false:=decide_eq_false (by omega)
  have g0_d:decide (1000000 < t.w) = false:=decide_eq_false (by omega)
  have l1_d:decide (t.x < -1000000) = false:=decide_eq_false (by omega)
  have g1_d:decide (1000000 < t.x) = false:=decide_eq_false (by omega)
  have l2_d:decide (t.y < -1000000) = false:=decide_eq_false (by omega)
  have g2_d:decide (1000000 < t.y) = false:=decide_eq_false (by omega)
  have l3_d:decide (t.z < -1000000) = true:=decide_eq_true (by omega)
  go_enter Tryz.func12,Tryz.ntmps12
  go_wp2_with fail
  refine wp_loop_rounds 4 ?_
  rw [rounds_succ]
  go_wp2_with fail
  rw [rounds_succ]
  go_wp2_with fail
  rw [rounds_succ]
  go_wp2_with fail
  rw [rounds_succ]
  go_wp2
  go_ret
  exact ⟨rfl,((Ext.refl w).alloc _)⟩

set_option maxRecDepth 100000 in
set_option maxHeartbeats 2000000 in
theorem lchk_b3g (t:Q4) (w:World) (g:Gd w) (h0:-1000000 ≤ t.w∧t.w ≤ 1000000) (h1:-1000000 ≤ t.x∧t.x ≤ 1000000) (h2:-1000000 ≤ t.y∧t.y ≤ 1000000) (h3:1000000 < t.z):Calls Tryz.prog 12 #[.agg #[.int .i64 t.w,.int .i64 t.x,.int .i64 t.y,.int .i64 t.z]] w (Ret w (.int .i64 3)):=by
  have HG:=Lib.hid g
  clear g
  have l0_d:decide (t.w < -1000000) = false:=decide_eq_false (by omega)
  have g0_d:decide (1000000 < t.w) = false:=decide_eq_false (by omega)
  have l1_d:decide (t.x < -1000000) = false:=decide_eq_false (by omega)
  have g1_d:decide (1000000 < t.x) = false:=decide_eq_false (by omega)
  have l2_d:decide (t.y < -1000000) = false:=decide_eq_false (by omega)
  have g2_d:decide (1000000 < t.y) = false:=decide_eq_false (by omega)
  have l3_d:decide (t.z < -1000000) = false:=decide_eq_false (by omega)
  have g3_d:decide (1000000 < t.z) = true:=decide_eq_true (by omega)
  go_enter Tryz.func12,Tryz.ntmps12
  go_wp2_with fail
  refine wp_loop_rounds 4 ?_
  rw [rounds_succ]
  go_wp2_with fail
  rw [rounds_succ]
  go_wp2_with fail
  rw [rounds_succ]
  go_wp2_with fail
  rw [rounds_succ]
  go_wp2
  go_ret
  exact ⟨rfl,((Ext.refl w).alloc _)⟩

set_option maxRecDepth 100000 in
set_option maxHeartbeats 2000000 in
theorem lchk_n0 (a b c d:Int) (w:World) (g:Gd w) (hi:Q4In ⟨a,b,c,d⟩) (h:a ≠ 0):Calls Tryz.prog 12 #[.agg #[.int .i64 a,.int .i64 b,.int .i64 c,.int .i64 d]] w (Ret w (.int .i64 0)):=by
  have HG:=Lib.hid g
  clear g
  have ha:=hi.w;simp only at ha
  have hb:=hi.x;simp only at hb
  have hc:=hi.y;simp only at hc
  have hd:=hi.z;simp only at hd
  have la_d:decide (a < -1000000) = false:=decide_eq_false (by omega)
  have ga_d:decide (1000000 < a) = false:=decide_eq_false (by omega)
  have lb_d:decide (b < -1000000) = false:=decide_eq_false (by omega)
  have gb_d:decide (1000000 < b) = false:=decide_eq_false (by omega)
  have lc_d:decide (c < -1000000) = false:=decide_eq_false (by omega)
  have gc_d:decide (1000000 < c) = false:=decide_eq_false (by omega)
  have ld_d:decide (d < -1000000) = false:=decide_eq_false (by omega)
  have gd_d:decide (1000000 < d) = false:=decide_eq_false (by omega)
  have h_n:(a != 0) = true:=bne_iff_ne.2 h
  have h_e:(a == 0) = false:=beq_eq_false_iff_ne.2 h
  clear h hi ha hb hc hd
  have eqa0:=eq4 a b c d 0 0 0 0
  go_enter Tryz.func12,Tryz.ntmps12
  go_wp2_with fail
  refine wp_loop_rounds 5 ?_
  rw [rounds_succ]
  go_wp2_with fail
  rw [rounds_succ]
  go_wp2_with fail
  rw [rounds_succ]
  go_wp2_with fail
  rw [rounds_succ]
  go_wp2_with fail
  rw [rounds_succ]
  go_wp2
  go_ret
  exact ⟨rfl,((Ext.refl w).alloc _)⟩

set_option maxRecDepth 100000 in
set_option maxHeartbeats 2000000 in
theorem lchk_n1 (b c d:Int) (w:World) (g:Gd w) (hi:Q4In ⟨0,b,c,d⟩) (h:b ≠ 0):Calls Tryz.prog 12 #[.agg #[.int .i64 0,.int .i64 b,.int .i64 c,.int .i64 d]] w (Ret w (.int .i64 0)):=by
  have HG:=Lib.hid g
  clear g
  have hb:=hi.x;simp only at hb
  have hc:=hi.y;simp only at hc
  have hd:=hi.z;simp only at hd
  have lb_d:decide (b < -1000000) = false:=decide_eq_false (by omega)
  have gb_d:decide (1000000 < b) = false:=decide_eq_false (by omega)
  have lc_d:decide (c < -1000000) = false:=decide_eq_false (by omega)
  have gc_d:decide (1000000 < c) = false:=decide_eq_false (by omega)
  have ld_d:decide (d < -1000000) = false:=decide_eq_false (by omega)
  have gd_d:decide (1000000 < d) = false:=decide_eq_false (by omega)
  have h_n:(b != 0) = true:=bne_iff_ne.2 h
  have h_e:(b == 0) = false:=beq_eq_false_iff_ne.2 h
  clear h hi hb hc hd
  have eqa0:=eq4 0 b c d 0 0 0 0
  go_enter Tryz.func12,Tryz.ntmps12
  go_wp2_with fail
  refine wp_loop_rounds 5 ?_
  rw [rounds_succ]
  go_wp2_with fail
  rw [rounds_succ]
  go_wp2_with fail
  rw [rounds_succ]
  go_wp2_with fail
  rw [rounds_succ]
  go_wp2_with fail
  rw [rounds_succ]
  go_wp2
  go_ret
  exact ⟨rfl,((Ext.refl w).alloc _)⟩

set_option maxRecDepth 100000 in
set_option maxHeartbeats 2000000 in
theorem lchk_n2 (c d:Int) (w:World) (g:Gd w) (hi:Q4In ⟨0,0,c,d⟩) (h:c ≠ 0):Calls Tryz.prog 12 #[.agg #[.int .i64 0,.int .i64 0,.int .i64 c,.int .i64 d]] w (Ret w (.int .i64 0)):=by
  have HG:=Lib.hid g
  clear g
  have hc:=hi.y;simp only at hc
  have hd:=hi.z;simp only at hd
  have lc_d:decide (c < -1000000) = false:=decide_eq_false (by omega)
  have gc_d:decide (1000000 < c) = false:=decide_eq_false (by omega)
  have ld_d:decide (d < -1000000) = false:=decide_eq_false (by omega)
  have gd_d:decide (1000000 < d) = false:=decide_eq_false (by omega)
  have h_n:(c != 0) = true:=bne_iff_ne.2 h
  have h_e:(c == 0) = false:=beq_eq_false_iff_ne.2 h
  clear h hi hc hd
  have eqa0:=eq4 0 0 c d 0 0 0 0
  go_enter Tryz.func12,Tryz.ntmps12
  go_wp2_with fail
  refine wp_loop_rounds 5 ?_
  rw [rounds_succ]
  go_wp2_with fail
  rw [rounds_succ]
  go_wp2_with fail
  rw [rounds_succ]
  go_wp2_with fail
  rw [rounds_succ]
  go_wp2_with fail
  rw [rounds_succ]
  go_wp2
  go_ret
  exact ⟨rfl,((Ext.refl w).alloc _)⟩

set_option maxRecDepth 100000 in
set_option maxHeartbeats 2000000 in
theorem lchk_n3 (d:Int) (w:World) (g:Gd w) (hi:Q4In ⟨0,0,0,d⟩) (h:d ≠ 0):Calls Tryz.prog 12 #[.agg #[.int .i64 0,.int .i64 0,.int .i64 0,.int .i64 d]] w (Ret w (.int .i64 0)):=by
  have HG:=Lib.hid g
  clear g
  have hd:=hi.z;simp only at hd
  have ld_d:decide (d < -1000000) = false:=decide_eq_false (by omega)
  have gd_d:decide (1000000 < d) = false:=decide_eq_false (by omega)
  have h_n:(d != 0) = true:=bne_iff_ne.2 h
  have h_e:(d == 0) = false:=beq_eq_false_iff_ne.2 h
  clear h hi hd
  have eqa0:=eq4 0 0 0 d 0 0 0 0
  go_enter Tryz.func12,Tryz.ntmps12
  go_wp2_with fail
  refine wp_loop_rounds 5 ?_
  rw [rounds_succ]
  go_wp2_with fail
  rw [rounds_succ]
  go_wp2_with fail
  rw [rounds_succ]
  go_wp2_with fail
  rw [rounds_succ]
  go_wp2_with fail
  rw [rounds_succ]
  go_wp2
  go_ret
  exact ⟨rfl,((Ext.refl w).alloc _)⟩

set_option maxRecDepth 100000 in
set_option maxHeartbeats 2000000 in
theorem lchk_z (w:World) (g:Gd w):Calls Tryz.prog 12 #[.agg #[.int .i64 0,.int .i64 0,.int .i64 0,.int .i64 0]] w (Ret w (.int .i64 17)):=by
  have HG:=Lib.hid g
  clear g
  have eqa0:=eq4 0 0 0 0 0 0 0 0
  go_enter Tryz.func12,Tryz.ntmps12
  go_wp2_with fail
  refine wp_loop_rounds 5 ?_
  rw [rounds_succ]
  go_wp2_with fail
  rw [rounds_succ]
  go_wp2_with fail
  rw [rounds_succ]
  go_wp2_with fail
  rw [rounds_succ]
  go_wp2_with fail
  rw [rounds_succ]
  go_wp2
  go_ret
  exact ⟨rfl,((Ext.refl w).alloc _)⟩

theorem lchk_l {t:Q4} {e:Int} (w:World) (g:Gd w) (h:QErr t e):Calls Tryz.prog 12 #[.agg #[.int .i64 t.w,.int .i64 t.x,.int .i64 t.y,.int .i64 t.z]] w (Ret w (.int .i64 e)):=by
  cases h with
  | b0  h =>
    rcases obad_t.1 h with e | e
    · exact lchk_b0g t w g  e
    · exact lchk_b0l t w g  e
  | b1 h0 h =>
    rcases obad_t.1 h with e | e
    · exact lchk_b1g t w g (obad_f.1 h0) e
    · exact lchk_b1l t w g (obad_f.1 h0) e
  | b2 h0 h1 h =>
    rcases obad_t.1 h with e | e
    · exact lchk_b2g t w g (obad_f.1 h0) (obad_f.1 h1) e
    · exact lchk_b2l t w g (obad_f.1 h0) (obad_f.1 h1) e
  | b3 h0 h1 h2 h =>
    rcases obad_t.1 h with e | e
    · exact lchk_b3g t w g (obad_f.1 h0) (obad_f.1 h1) (obad_f.1 h2) e
    · exact lchk_b3l t w g (obad_f.1 h0) (obad_f.1 h1) (obad_f.1 h2) e
  | zero h => subst h;exact lchk_z w g
  | ok hi hz =>
    cases t with
    | mk a b c d =>
    by_cases h0:a = 0
    · subst h0
      by_cases h1:b = 0
      · subst h1
        by_cases h2:c = 0
        · subst h2
          exact lchk_n3 d w g hi (fun e => hz ⟨rfl,rfl,rfl,e⟩)
        · exact lchk_n2 c d w g hi h2
      · exact lchk_n1 b c d w g hi h1
    · exact lchk_n0 a b c d w g hi h0

end Go.Proofs.YtjeimihnoiephaaGreatDoor
