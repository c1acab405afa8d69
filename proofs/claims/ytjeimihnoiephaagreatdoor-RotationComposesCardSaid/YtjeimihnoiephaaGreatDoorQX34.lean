/- Part 34 of the proof: M1, M3, M4. -/
import Derived.Test.YtjeimihnoiephaaGreatDoorQX1
import Derived.Test.YtjeimihnoiephaaGreatDoorQX2
import Derived.Test.YtjeimihnoiephaaGreatDoorQX3
import Derived.Test.YtjeimihnoiephaaGreatDoorQX4
import Derived.Test.YtjeimihnoiephaaGreatDoorQX5
import Derived.Test.YtjeimihnoiephaaGreatDoorQX6
import Derived.Test.YtjeimihnoiephaaGreatDoorQX7
import Derived.Test.YtjeimihnoiephaaGreatDoorQX8
import Derived.Test.YtjeimihnoiephaaGreatDoorQX9
import Derived.Test.YtjeimihnoiephaaGreatDoorQX10
import Derived.Test.YtjeimihnoiephaaGreatDoorQX11
import Derived.Test.YtjeimihnoiephaaGreatDoorQX12
import Derived.Test.YtjeimihnoiephaaGreatDoorQX13
import Derived.Test.YtjeimihnoiephaaGreatDoorQX14
import Derived.Test.YtjeimihnoiephaaGreatDoorQX15
import Derived.Test.YtjeimihnoiephaaGreatDoorQX16
import Derived.Test.YtjeimihnoiephaaGreatDoorQX17
import Derived.Test.YtjeimihnoiephaaGreatDoorQX18
import Derived.Test.YtjeimihnoiephaaGreatDoorQX19
import Derived.Test.YtjeimihnoiephaaGreatDoorQX20
import Derived.Test.YtjeimihnoiephaaGreatDoorQX21
import Derived.Test.YtjeimihnoiephaaGreatDoorQX22
import Derived.Test.YtjeimihnoiephaaGreatDoorQX23
import Derived.Test.YtjeimihnoiephaaGreatDoorQX24
import Derived.Test.YtjeimihnoiephaaGreatDoorQX25
import Derived.Test.YtjeimihnoiephaaGreatDoorQX26
import Derived.Test.YtjeimihnoiephaaGreatDoorQX27
import Derived.Test.YtjeimihnoiephaaGreatDoorQX28
import Derived.ChangeKeysEq
namespace Go.Proofs.YtjeimihnoiephaaGreatDoor
open Go Go.RowKit
set_option linter.unusedVariables false
def obad (n:Int):Bool:=decide (1000000 < n) || decide (n < -1000000)
theorem obad_f {n:Int}:obad n = false ↔ -1000000 ≤ n∧n ≤ 1000000:=by
  unfold obad;rw [Bool.or_eq_false_iff,decide_eq_false_iff_not,decide_eq_false_iff_not];omega
theorem obad_t {n:Int}:obad n = true ↔ 1000000 < n ∨ n < -1000000:=by
  unfold obad;rw [Bool.or_eq_true,decide_eq_true_iff,decide_eq_true_iff]
structure Q4In (t:Q4):Prop where
  w:-1000000 ≤ t.w∧t.w ≤ 1000000
  x:-1000000 ≤ t.x∧t.x ≤ 1000000
  y:-1000000 ≤ t.y∧t.y ≤ 1000000
  z:-1000000 ≤ t.z∧t.z ≤ 1000000
inductive QErr (t:Q4):Int → Prop
  | b0 (h:obad t.w = true):QErr t 3
  | b1 (h0:obad t.w = false) (h:obad t.x = true):QErr t 3
  | b2 (h0:obad t.w = false) (h1:obad t.x = false) (h:obad t.y = true):QErr t 3
  | b3 (h0:obad t.w = false) (h1:obad t.x = false) (h2:obad t.y = false) (h:obad t.z = true):QErr t 3
  | zero (h:t = ⟨0,0,0,0⟩):QErr t 17
  | ok (h:Q4In t) (hz:¬ t.zero):QErr t 0
theorem int_und9:Tryz.prog.underlying 3 = some (.int .i64):=by kernel_rfl
theorem eq4 (a b c d p q r s:Int) (W:World):(Op.equalIn 10000 22 (.agg #[.int .i64 a,.int .i64 b,.int .i64 c,.int .i64 d]) (.agg #[.int .i64 p,.int .i64 q,.int .i64 r,.int .i64 s])).run Tryz.prog W = .ok (a == p && (b == q && (c == r && (d == s)))) W:=by
  have hi0:(Tryz.prog.info? 3).isSome = true:=by kernel_rfl
  obtain ⟨i,hi⟩:=Option.isSome_iff_exists.1 hi0
  have hu:Tryz.prog.underlying 22 = some (.array 4 3):=by kernel_rfl
  have e:∀ (x y:Int),(Op.equalIn 9999 3 (.int .i64 x) (.int .i64 y)).run Tryz.prog W = .ok (x == y) W:=fun x y => run_equalIn_int W 9998 3 _ _ x y int_und9
  refine Eq.trans (run_equalIn_array W 9999 _ _ hu hi) ?_
  have hc:Tryz.prog.cellsOf 3 = 1:=by kernel_rfl
  have hr:List.range 4 = [0,1,2,3]:=rfl
  have p0:∀ a b c d:Int,(part 3 #[.int .i64 a,.int .i64 b,.int .i64 c,.int .i64 d] (0 * 1)).run Tryz.prog W = .ok (.int .i64 a) W:=fun a b c d => by kernel_rfl
  have p1:∀ a b c d:Int,(part 3 #[.int .i64 a,.int .i64 b,.int .i64 c,.int .i64 d] (1 * 1)).run Tryz.prog W = .ok (.int .i64 b) W:=fun a b c d => by kernel_rfl
  have p2:∀ a b c d:Int,(part 3 #[.int .i64 a,.int .i64 b,.int .i64 c,.int .i64 d] (2 * 1)).run Tryz.prog W = .ok (.int .i64 c) W:=fun a b c d => by kernel_rfl
  have p3:∀ a b c d:Int,(part 3 #[.int .i64 a,.int .i64 b,.int .i64 c,.int .i64 d] (3 * 1)).run Tryz.prog W = .ok (.int .i64 d) W:=fun a b c d => by kernel_rfl
  rw [hc,hr]
  simp only [Op.eqItems,Sem.run_bind,p0,e,Result.andThen_ok]
  cases (a == p)
  · rfl
  simp only [Bool.not_true,Bool.false_eq_true,if_false,Sem.run_bind,p1,e,Result.andThen_ok,Bool.true_and]
  cases (b == q)
  · rfl
  simp only [Bool.not_true,Bool.false_eq_true,if_false,Sem.run_bind,p2,e,Result.andThen_ok,Bool.true_and]
  cases (c == r)
  · rfl
  simp only [Bool.not_true,Bool.false_eq_true,if_false,Sem.run_bind,p3,e,Result.andThen_ok,Bool.true_and]
  cases (d == s) <;> rfl

set_option maxRecDepth 100000 in
set_option maxHeartbeats 2000000 in
theorem cb_hi (n:Int) (w:World) (g:Gd w) (h1:1000000 < n):Calls Tryz.prog 93 #[.int .i64 n] w (Ret w (.bool true)):=by
  have HG:=Lib.hid g
  clear g
  have h1_d:decide (1000000 < n) = true:=decide_eq_true (by omega)
  go_enter Tryz.func93,Tryz.ntmps93
  go_wp2
  go_ret
  exact ⟨rfl,(Ext.refl w)⟩

set_option maxRecDepth 100000 in
set_option maxHeartbeats 2000000 in
theorem cb_lo (n:Int) (w:World) (g:Gd w) (h1:n < -1000000):Calls Tryz.prog 93 #[.int .i64 n] w (Ret w (.bool true)):=by
  have HG:=Lib.hid g
  clear g
  have h1_d:decide (1000000 < n) = false:=decide_eq_false (by omega)
  have h2_d:decide (n < -1000000) = true:=decide_eq_true (by omega)
  go_enter Tryz.func93,Tryz.ntmps93
  go_wp2
  go_ret
  exact ⟨rfl,(Ext.refl w)⟩

set_option maxRecDepth 100000 in
set_option maxHeartbeats 2000000 in
theorem cb_ok (n:Int) (w:World) (g:Gd w) (h1:-1000000 ≤ n∧n ≤ 1000000):Calls Tryz.prog 93 #[.int .i64 n] w (Ret w (.bool false)):=by
  have HG:=Lib.hid g
  clear g
  have h1_d:decide (1000000 < n) = false:=decide_eq_false (by omega)
  have h2_d:decide (n < -1000000) = false:=decide_eq_false (by omega)
  go_enter Tryz.func93,Tryz.ntmps93
  go_wp2
  go_ret
  exact ⟨rfl,(Ext.refl w)⟩

theorem cb_c (n:Int) (v:Bool) (w:World) (g:Gd w) (h:obad n = v):Calls Tryz.prog 93 #[.int .i64 n] w (Ret w (.bool v)):=by
  cases v with
  | false => exact cb_ok n w g (obad_f.1 h)
  | true =>
    rcases obad_t.1 h with e | e
    · exact cb_hi n w g e
    · exact cb_lo n w g e

set_option maxRecDepth 100000 in
set_option maxHeartbeats 2000000 in
theorem cn_t (n:Int) (w:World) (g:Gd w) (h:n ≠ 0):Calls Tryz.prog 118 #[.int .i64 n] w (Ret w (.bool true)):=by
  have HG:=Lib.hid g
  clear g
  have h_n:(n != 0) = true:=bne_iff_ne.2 h
  have h_e:(n == 0) = false:=beq_eq_false_iff_ne.2 h
  go_enter Tryz.func118,Tryz.ntmps118
  go_wp2
  go_ret
  exact ⟨rfl,(Ext.refl w)⟩

theorem cn_f (w:World) (g:Gd w):Calls Tryz.prog 118 #[.int .i64 0] w (Ret w (.bool false)):=by
  have HG:=Lib.hid g
  clear g
  go_enter Tryz.func118,Tryz.ntmps118
  go_wp2
  go_ret
  exact ⟨rfl,Ext.refl _⟩
theorem cn_z (n:Int) (w:World) (g:Gd w) (h:n = 0):Calls Tryz.prog 118 #[.int .i64 n] w (Ret w (.bool false)):=by subst h;exact cn_f w g

set_option maxRecDepth 100000 in
set_option maxHeartbeats 2000000 in
theorem ixb_0 (t:Q4) (kb:Nat) {ty:TypeId} (w:World) (g:Gd w) (hB:Blk w kb #[.int .i64 t.w,.int .i64 t.x,.int .i64 t.y,.int .i64 t.z] ty) (h0:obad t.w = true):Calls Tryz.prog 117 #[.slice (some ⟨kb,0,none⟩) 4 4,.func (.func 93) #[] #[]] w (Ret w (.int .i64 0)):=by
  have HCB:=Lib.hid hB
  have HO0:=Lib.hid h0
  have HG:=Lib.hid g
  clear hB h0 g
  go_enter Tryz.func117,Tryz.ntmps117
  go_wp2_with fail
  refine wp_loop_rounds 1 ?_
  rw [rounds_succ]
  have cP_0:=HCB.out.cell 0 rfl
  go_wp2_with fail
  refine (cb_c t.w true _ (HG.out.ext (Ext.refl w)) HO0.out).mono ?_;rintro e w1 ⟨rfl,e1⟩
  have HX1:Hid (Ext w w1):=Lib.hid ((Ext.refl w).trans e1)
  clear e1 cP_0
  go_wp2
  go_ret
  exact ⟨rfl,HX1.out⟩

set_option maxRecDepth 100000 in
set_option maxHeartbeats 2000000 in
theorem ixn_0 (t:Q4) (kb:Nat) {ty:TypeId} (w:World) (g:Gd w) (hB:Blk w kb #[.int .i64 t.w,.int .i64 t.x,.int .i64 t.y,.int .i64 t.z] ty) (h0:t.w ≠ 0):Calls Tryz.prog 117 #[.slice (some ⟨kb,0,none⟩) 4 4,.func (.func 118) #[] #[]] w (Ret w (.int .i64 0)):=by
  have HCB:=Lib.hid hB
  have HO0:=Lib.hid h0
  have HG:=Lib.hid g
  clear hB h0 g
  go_enter Tryz.func117,Tryz.ntmps117
  go_wp2_with fail
  refine wp_loop_rounds 1 ?_
  rw [rounds_succ]
  have cP_0:=HCB.out.cell 0 rfl
  go_wp2_with fail
  refine (cn_t t.w _ (HG.out.ext (Ext.refl w)) HO0.out).mono ?_;rintro e w1 ⟨rfl,e1⟩
  have HX1:Hid (Ext w w1):=Lib.hid ((Ext.refl w).trans e1)
  clear e1 cP_0
  go_wp2
  go_ret
  exact ⟨rfl,HX1.out⟩

set_option maxRecDepth 100000 in
set_option maxHeartbeats 2000000 in
theorem ixb_1 (t:Q4) (kb:Nat) {ty:TypeId} (w:World) (g:Gd w) (hB:Blk w kb #[.int .i64 t.w,.int .i64 t.x,.int .i64 t.y,.int .i64 t.z] ty) (h0:obad t.w = false) (h1:obad t.x = true):Calls Tryz.prog 117 #[.slice (some ⟨kb,0,none⟩) 4 4,.func (.func 93) #[] #[]] w (Ret w (.int .i64 1)):=by
  have HCB:=Lib.hid hB
  have HO0:=Lib.hid h0
  have HO1:=Lib.hid h1
  have HG:=Lib.hid g
  clear hB h0 h1 g
  go_enter Tryz.func117,Tryz.ntmps117
  go_wp2_with fail
  refine wp_loop_rounds 2 ?_
  rw [rounds_succ]
  have cP_0:=HCB.out.cell 0 rfl
  go_wp2_with fail
  refine (cb_c t.w false _ (HG.out.ext (Ext.refl w)) HO0.out).mono ?_;rintro e w1 ⟨rfl,e1⟩
  have HX1:Hid (Ext w w1):=Lib.hid ((Ext.refl w).trans e1)
  have HBP_1:=Lib.hid (Blk.ext HCB.out e1)
  clear e1 cP_0
  go_wp2_with fail
  rw [rounds_succ]
  have cP_1:=HBP_1.out.cell 1 rfl
  go_wp2_with fail
  refine (cb_c t.x true _ (HG.out.ext HX1.out) HO1.out).mono ?_;rintro e w2 ⟨rfl,e2⟩
  have HX2:Hid (Ext w w2):=Lib.hid (HX1.out.trans e2)
  clear e2 cP_1
  go_wp2
  go_ret
  exact ⟨rfl,HX2.out⟩

set_option maxRecDepth 100000 in
set_option maxHeartbeats 2000000 in
theorem ixn_1 (t:Q4) (kb:Nat) {ty:TypeId} (w:World) (g:Gd w) (hB:Blk w kb #[.int .i64 t.w,.int .i64 t.x,.int .i64 t.y,.int .i64 t.z] ty) (h0:t.w = 0) (h1:t.x ≠ 0):Calls Tryz.prog 117 #[.slice (some ⟨kb,0,none⟩) 4 4,.func (.func 118) #[] #[]] w (Ret w (.int .i64 1)):=by
  have HCB:=Lib.hid hB
  have HO0:=Lib.hid h0
  have HO1:=Lib.hid h1
  have HG:=Lib.hid g
  clear hB h0 h1 g
  go_enter Tryz.func117,Tryz.ntmps117
  go_wp2_with fail
  refine wp_loop_rounds 2 ?_
  rw [rounds_succ]
  have cP_0:=HCB.out.cell 0 rfl
  go_wp2_with fail
  refine (cn_z t.w _ (HG.out.ext (Ext.refl w)) HO0.out).mono ?_;rintro e w1 ⟨rfl,e1⟩
  have HX1:Hid (Ext w w1):=Lib.hid ((Ext.refl w).trans e1)
  have HBP_1:=Lib.hid (Blk.ext HCB.out e1)
  clear e1 cP_0
  go_wp2_with fail
  rw [rounds_succ]
  have cP_1:=HBP_1.out.cell 1 rfl
  go_wp2_with fail
  refine (cn_t t.x _ (HG.out.ext HX1.out) HO1.out).mono ?_;rintro e w2 ⟨rfl,e2⟩
  have HX2:Hid (Ext w w2):=Lib.hid (HX1.out.trans e2)
  clear e2 cP_1
  go_wp2
  go_ret
  exact ⟨rfl,HX2.out⟩

set_option maxRecDepth 100000 in
set_option maxHeartbeats 2000000 in
theorem ixb_2 (t:Q4) (kb:Nat) {ty:TypeId} (w:World) (g:Gd w) (hB:Blk w kb #[.int .i64 t.w,.int .i64 t.x,.int .i64 t.y,.int .i64 t.z] ty) (h0:obad t.w = false) (h1:obad t.x = false) (h2:obad t.y = true):Calls Tryz.prog 117 #[.slice (some ⟨kb,0,none⟩) 4 4,.func (.func 93) #[] #[]] w (Ret w (.int .i64 2)):=by
  have HCB:=Lib.hid hB
  have HO0:=Lib.hid h0
  have HO1:=Lib.hid h1
  have HO2:=Lib.hid h2
  have HG:=Lib.hid g
  clear hB h0 h1 h2 g
  go_enter Tryz.func117,Tryz.ntmps117
  go_wp2_with fail
  refine wp_loop_rounds 3 ?_
  rw [rounds_succ]
  have cP_0:=HCB.out.cell 0 rfl
  go_wp2_with fail
  refine (cb_c t.w false _ (HG.out.ext (Ext.refl w)) HO0.out).mono ?_;rintro e w1 ⟨rfl,e1⟩
  have HX1:Hid (Ext w w1):=Lib.hid ((Ext.refl w).trans e1)
  have HBP_1:=Lib.hid (Blk.ext HCB.out e1)
  clear e1 cP_0
  go_wp2_with fail
  rw [rounds_succ]
  have cP_1:=HBP_1.out.cell 1 rfl
  go_wp2_with fail
  refine (cb_c t.x false _ (HG.out.ext HX1.out) HO1.out).mono ?_;rintro e w2 ⟨rfl,e2⟩
  have HX2:Hid (Ext w w2):=Lib.hid (HX1.out.trans e2)
  have HBP_2:=Lib.hid (Blk.ext HBP_1.out e2)
  clear e2 cP_1
  go_wp2_with fail
  rw [rounds_succ]
  have cP_2:=HBP_2.out.cell 2 rfl
  go_wp2_with fail
  refine (cb_c t.y true _ (HG.out.ext HX2.out) HO2.out).mono ?_;rintro e w3 ⟨rfl,e3⟩
  have HX3:Hid (Ext w w3):=Lib.hid (HX2.out.trans e3)
  clear e3 cP_2
  go_wp2
  go_ret
  exact ⟨rfl,HX3.out⟩

set_option maxRecDepth 100000 in
set_option maxHeartbeats 2000000 in
theorem ixn_2 (t:Q4) (kb:Nat) {ty:TypeId} (w:World) (g:Gd w) (hB:Blk w kb #[.int .i64 t.w,.int .i64 t.x,.int .i64 t.y,.int .i64 t.z] ty) (h0:t.w = 0) (h1:t.x = 0) (h2:t.y ≠ 0):Calls Tryz.prog 117 #[.slice (some ⟨kb,0,none⟩) 4 4,.func (.func 118) #[] #[]] w (Ret w (.int .i64 2)):=by
  have HCB:=Lib.hid hB
  have HO0:=Lib.hid h0
  have HO1:=Lib.hid h1
  have HO2:=Lib.hid h2
  have HG:=Lib.hid g
  clear hB h0 h1 h2 g
  go_enter Tryz.func117,Tryz.ntmps117
  go_wp2_with fail
  refine wp_loop_rounds 3 ?_
  rw [rounds_succ]
  have cP_0:=HCB.out.cell 0 rfl
  go_wp2_with fail
  refine (cn_z t.w _ (HG.out.ext (Ext.refl w)) HO0.out).mono ?_;rintro e w1 ⟨rfl,e1⟩
  have HX1:Hid (Ext w w1):=Lib.hid ((Ext.refl w).trans e1)
  have HBP_1:=Lib.hid (Blk.ext HCB.out e1)
  clear e1 cP_0
  go_wp2_with fail
  rw [rounds_succ]
  have cP_1:=HBP_1.out.cell 1 rfl
  go_wp2_with fail
  refine (cn_z t.x _ (HG.out.ext HX1.out) HO1.out).mono ?_;rintro e w2 ⟨rfl,e2⟩
  have HX2:Hid (Ext w w2):=Lib.hid (HX1.out.trans e2)
  have HBP_2:=Lib.hid (Blk.ext HBP_1.out e2)
  clear e2 cP_1
  go_wp2_with fail
  rw [rounds_succ]
  have cP_2:=HBP_2.out.cell 2 rfl
  go_wp2_with fail
  refine (cn_t t.y _ (HG.out.ext HX2.out) HO2.out).mono ?_;rintro e w3 ⟨rfl,e3⟩
  have HX3:Hid (Ext w w3):=Lib.hid (HX2.out.trans e3)
  clear e3 cP_2
  go_wp2
  go_ret
  exact ⟨rfl,HX3.out⟩

set_option maxRecDepth 100000 in
set_option maxHeartbeats 2000000 in
theorem ixb_3 (t:Q4) (kb:Nat) {ty:TypeId} (w:World) (g:Gd w) (hB:Blk w kb #[.int .i64 t.w,.int .i64 t.x,.int .i64 t.y,.int .i64 t.z] ty) (h0:obad t.w = false) (h1:obad t.x = false) (h2:obad t.y = false) (h3:obad t.z = true):Calls Tryz.prog 117 #[.slice (some ⟨kb,0,none⟩) 4 4,.func (.func 93) #[] #[]] w (Ret w (.int .i64 3)):=by
  have HCB:=Lib.hid hB
  have HO0:=Lib.hid h0
  have HO1:=Lib.hid h1
  have HO2:=Lib.hid h2
  have HO3:=Lib.hid h3
  have HG:=Lib.hid g
  clear hB h0 h1 h2 h3 g
  go_enter Tryz.func117,Tryz.ntmps117
  go_wp2_with fail
  refine wp_loop_rounds 4 ?_
  rw [rounds_succ]
  have cP_0:=HCB.out.cell 0 rfl
  go_wp2_with fail
  refine (cb_c t.w false _ (HG.out.ext (Ext.refl w)) HO0.out).mono ?_;rintro e w1 ⟨rfl,e1⟩
  have HX1:Hid (Ext w w1):=Lib.hid ((Ext.refl w).trans e1)
  have HBP_1:=Lib.hid (Blk.ext HCB.out e1)
  clear e1 cP_0
  go_wp2_with fail
  rw [rounds_succ]
  have cP_1:=HBP_1.out.cell 1 rfl
  go_wp2_with fail
  refine (cb_c t.x false _ (HG.out.ext HX1.out) HO1.out).mono ?_;rintro e w2 ⟨rfl,e2⟩
  have HX2:Hid (Ext w w2):=Lib.hid (HX1.out.trans e2)
  have HBP_2:=Lib.hid (Blk.ext HBP_1.out e2)
  clear e2 cP_1
  go_wp2_with fail
  rw [rounds_succ]
  have cP_2:=HBP_2.out.cell 2 rfl
  go_wp2_with fail
  refine (cb_c t.y false _ (HG.out.ext HX2.out) HO2.out).mono ?_;rintro e w3 ⟨rfl,e3⟩
  have HX3:Hid (Ext w w3):=Lib.hid (HX2.out.trans e3)
  have HBP_3:=Lib.hid (Blk.ext HBP_2.out e3)
  clear e3 cP_2
  go_wp2_with fail
  rw [rounds_succ]
  have cP_3:=HBP_3.out.cell 3 rfl
  go_wp2_with fail
  refine (cb_c t.z true _ (HG.out.ext HX3.out) HO3.out).mono ?_;rintro e w4 ⟨rfl,e4⟩
  have HX4:Hid (Ext w w4):=Lib.hid (HX3.out.trans e4)
  clear e4 cP_3
  go_wp2
  go_ret
  exact ⟨rfl,HX4.out⟩

set_option maxRecDepth 100000 in
set_option maxHeartbeats 2000000 in
theorem ixn_3 (t:Q4) (kb:Nat) {ty:TypeId} (w:World) (g:Gd w) (hB:Blk w kb #[.int .i64 t.w,.int .i64 t.x,.int .i64 t.y,.int .i64 t.z] ty) (h0:t.w = 0) (h1:t.x = 0) (h2:t.y = 0) (h3:t.z ≠ 0):Calls Tryz.prog 117 #[.slice (some ⟨kb,0,none⟩) 4 4,.func (.func 118) #[] #[]] w (Ret w (.int .i64 3)):=by
  have HCB:=Lib.hid hB
  have HO0:=Lib.hid h0
  have HO1:=Lib.hid h1
  have HO2:=Lib.hid h2
  have HO3:=Lib.hid h3
  have HG:=Lib.hid g
  clear hB h0 h1 h2 h3 g
  go_enter Tryz.func117,Tryz.ntmps117
  go_wp2_with fail
  refine wp_loop_rounds 4 ?_
  rw [rounds_succ]
  have cP_0:=HCB.out.cell 0 rfl
  go_wp2_with fail
  refine (cn_z t.w _ (HG.out.ext (Ext.refl w)) HO0.out).mono ?_;rintro e w1 ⟨rfl,e1⟩
  have HX1:Hid (Ext w w1):=Lib.hid ((Ext.refl w).trans e1)
  have HBP_1:=Lib.hid (Blk.ext HCB.out e1)
  clear e1 cP_0
  go_wp2_with fail
  rw [rounds_succ]
  have cP_1:=HBP_1.out.cell 1 rfl
  go_wp2_with fail
  refine (cn_z t.x _ (HG.out.ext HX1.out) HO1.out).mono ?_;rintro e w2 ⟨rfl,e2⟩
  have HX2:Hid (Ext w w2):=Lib.hid (HX1.out.trans e2)
  have HBP_2:=Lib.hid (Blk.ext HBP_1.out e2)
  clear e2 cP_1
  go_wp2_with fail
  rw [rounds_succ]
  have cP_2:=HBP_2.out.cell 2 rfl
  go_wp2_with fail
  refine (cn_z t.y _ (HG.out.ext HX2.out) HO2.out).mono ?_;rintro e w3 ⟨rfl,e3⟩
  have HX3:Hid (Ext w w3):=Lib.hid (HX2.out.trans e3)
  have HBP_3:=Lib.hid (Blk.ext HBP_2.out e3)
  clear e3 cP_2
  go_wp2_with fail
  rw [rounds_succ]
  have cP_3:=HBP_3.out.cell 3 rfl
  go_wp2_with fail
  refine (cn_t t.z _ (HG.out.ext HX3.out) HO3.out).mono ?_;rintro e w4 ⟨rfl,e4⟩
  have HX4:Hid (Ext w w4):=Lib.hid (HX3.out.trans e4)
  clear e4 cP_3
  go_wp2
  go_ret
  exact ⟨rfl,HX4.out⟩

set_option maxRecDepth 100000 in
set_option maxHeartbeats 2000000 in
theorem ixb_n (t:Q4) (kb:Nat) {ty:TypeId} (w:World) (g:Gd w) (hB:Blk w kb #[.int .i64 t.w,.int .i64 t.x,.int .i64 t.y,.int .i64 t.z] ty) (h0:obad t.w = false) (h1:obad t.x = false) (h2:obad t.y = false) (h3:obad t.z = false):Calls Tryz.prog 117 #[.slice (some ⟨kb,0,none⟩) 4 4,.func (.func 93) #[] #[]] w (Ret w (.int .i64 (-1))):=by
  have HCB:=Lib.hid hB
  have HO0:=Lib.hid h0
  have HO1:=Lib.hid h1
  have HO2:=Lib.hid h2
  have HO3:=Lib.hid h3
  have HG:=Lib.hid g
  clear hB h0 h1 h2 h3 g
  go_enter Tryz.func117,Tryz.ntmps117
  go_wp2_with fail
  refine wp_loop_rounds 5 ?_
  rw [rounds_succ]
  have cP_0:=HCB.out.cell 0 rfl
  go_wp2_with fail
  refine (cb_c t.w false _ (HG.out.ext (Ext.refl w)) HO0.out).mono ?_;rintro e w1 ⟨rfl,e1⟩
  have HX1:Hid (Ext w w1):=Lib.hid ((Ext.refl w).trans e1)
  have HBP_1:=Lib.hid (Blk.ext HCB.out e1)
  clear e1 cP_0
  go_wp2_with fail
  rw [rounds_succ]
  have cP_1:=HBP_1.out.cell 1 rfl
  go_wp2_with fail
  refine (cb_c t.x false _ (HG.out.ext HX1.out) HO1.out).mono ?_;rintro e w2 ⟨rfl,e2⟩
  have HX2:Hid (Ext w w2):=Lib.hid (HX1.out.trans e2)
  have HBP_2:=Lib.hid (Blk.ext HBP_1.out e2)
  clear e2 cP_1
  go_wp2_with fail
  rw [rounds_succ]
  have cP_2:=HBP_2.out.cell 2 rfl
  go_wp2_with fail
  refine (cb_c t.y false _ (HG.out.ext HX2.out) HO2.out).mono ?_;rintro e w3 ⟨rfl,e3⟩
  have HX3:Hid (Ext w w3):=Lib.hid (HX2.out.trans e3)
  have HBP_3:=Lib.hid (Blk.ext HBP_2.out e3)
  clear e3 cP_2
  go_wp2_with fail
  rw [rounds_succ]
  have cP_3:=HBP_3.out.cell 3 rfl
  go_wp2_with fail
  refine (cb_c t.z false _ (HG.out.ext HX3.out) HO3.out).mono ?_;rintro e w4 ⟨rfl,e4⟩
  have HX4:Hid (Ext w w4):=Lib.hid (HX3.out.trans e4)
  clear e4 cP_3
  go_wp2_with fail
  rw [rounds_succ]
  go_wp2
  go_ret
  exact ⟨rfl,HX4.out⟩

set_option maxRecDepth 100000 in
set_option maxHeartbeats 2000000 in
theorem cfb_0 (t:Q4) (kb:Nat) {ty:TypeId} (w:World) (g:Gd w) (hB:Blk w kb #[.int .i64 t.w,.int .i64 t.x,.int .i64 t.y,.int .i64 t.z] ty) (h0:obad t.w = true):Calls Tryz.prog 92 #[.slice (some ⟨kb,0,none⟩) 4 4,.func (.func 93) #[] #[]] w (Ret w (.bool true)):=by
  have HCB:=Lib.hid hB
  have HO0:=Lib.hid h0
  have HG:=Lib.hid g
  clear hB h0 g
  go_enter Tryz.func92,Tryz.ntmps92
  go_wp2_with fail
  refine (ixb_0 t (kb) _ (HG.out.ext (Ext.refl w)) HCB.out HO0.out).mono ?_;rintro e w1 ⟨rfl,e1⟩
  have HX1:Hid (Ext w w1):=Lib.hid ((Ext.refl w).trans e1)
  have HBP_1:=Lib.hid (Blk.ext HCB.out e1)
  clear e1
  go_wp2
  go_ret
  exact ⟨rfl,HX1.out⟩

set_option maxRecDepth 100000 in
set_option maxHeartbeats 2000000 in
theorem cfb_1 (t:Q4) (kb:Nat) {ty:TypeId} (w:World) (g:Gd w) (hB:Blk w kb #[.int .i64 t.w,.int .i64 t.x,.int .i64 t.y,.int .i64 t.z] ty) (h0:obad t.w = false) (h1:obad t.x = true):Calls Tryz.prog 92 #[.slice (some ⟨kb,0,none⟩) 4 4,.func (.func 93) #[] #[]] w (Ret w (.bool true)):=by
  have HCB:=Lib.hid hB
  have HO0:=Lib.hid h0
  have HO1:=Lib.hid h1
  have HG:=Lib.hid g
  clear hB h0 h1 g
  go_enter Tryz.func92,Tryz.ntmps92
  go_wp2_with fail
  refine (ixb_1 t (kb) _ (HG.out.ext (Ext.refl w)) HCB.out HO0.out HO1.out).mono ?_;rintro e w1 ⟨rfl,e1⟩
  have HX1:Hid (Ext w w1):=Lib.hid ((Ext.refl w).trans e1)
  have HBP_1:=Lib.hid (Blk.ext HCB.out e1)
  clear e1
  go_wp2
  go_ret
  exact ⟨rfl,HX1.out⟩

set_option maxRecDepth 100000 in
set_option maxHeartbeats 2000000 in
theorem cfb_2 (t:Q4) (kb:Nat) {ty:TypeId} (w:World) (g:Gd w) (hB:Blk w kb #[.int .i64 t.w,.int .i64 t.x,.int .i64 t.y,.int .i64 t.z] ty) (h0:obad t.w = false) (h1:obad t.x = false) (h2:obad t.y = true):Calls Tryz.prog 92 #[.slice (some ⟨kb,0,none⟩) 4 4,.func (.func 93) #[] #[]] w (Ret w (.bool true)):=by
  have HCB:=Lib.hid hB
  have HO0:=Lib.hid h0
  have HO1:=Lib.hid h1
  have HO2:=Lib.hid h2
  have HG:=Lib.hid g
  clear hB h0 h1 h2 g
  go_enter Tryz.func92,Tryz.ntmps92
  go_wp2_with fail
  refine (ixb_2 t (kb) _ (HG.out.ext (Ext.refl w)) HCB.out HO0.out HO1.out HO2.out).mono ?_;rintro e w1 ⟨rfl,e1⟩
  have HX1:Hid (Ext w w1):=Lib.hid ((Ext.refl w).trans e1)
  have HBP_1:=Lib.hid (Blk.ext HCB.out e1)
  clear e1
  go_wp2
  go_ret
  exact ⟨rfl,HX1.out⟩

set_option maxRecDepth 100000 in
set_option maxHeartbeats 2000000 in
theorem cfb_3 (t:Q4) (kb:Nat) {ty:TypeId} (w:World) (g:Gd w) (hB:Blk w kb #[.int .i64 t.w,.int .i64 t.x,.int .i64 t.y,.int .i64 t.z] ty) (h0:obad t.w = false) (h1:obad t.x = false) (h2:obad t.y = false) (h3:obad t.z = true):Calls Tryz.prog 92 #[.slice (some ⟨kb,0,none⟩) 4 4,.func (.func 93) #[] #[]] w (Ret w (.bool true)):=by
  have HCB:=Lib.hid hB
  have HO0:=Lib.hid h0
  have HO1:=Lib.hid h1
  have HO2:=Lib.hid h2
  have HO3:=Lib.hid h3
  have HG:=Lib.hid g
  clear hB h0 h1 h2 h3 g
  go_enter Tryz.func92,Tryz.ntmps92
  go_wp2_with fail
  refine (ixb_3 t (kb) _ (HG.out.ext (Ext.refl w)) HCB.out HO0.out HO1.out HO2.out HO3.out).mono ?_;rintro e w1 ⟨rfl,e1⟩
  have HX1:Hid (Ext w w1):=Lib.hid ((Ext.refl w).trans e1)
  have HBP_1:=Lib.hid (Blk.ext HCB.out e1)
  clear e1
  go_wp2
  go_ret
  exact ⟨rfl,HX1.out⟩

set_option maxRecDepth 100000 in
set_option maxHeartbeats 2000000 in
theorem cfb_n (t:Q4) (kb:Nat) {ty:TypeId} (w:World) (g:Gd w) (hB:Blk w kb #[.int .i64 t.w,.int .i64 t.x,.int .i64 t.y,.int .i64 t.z] ty) (h0:obad t.w = false) (h1:obad t.x = false) (h2:obad t.y = false) (h3:obad t.z = false):Calls Tryz.prog 92 #[.slice (some ⟨kb,0,none⟩) 4 4,.func (.func 93) #[] #[]] w (Ret w (.bool false)):=by
  have HCB:=Lib.hid hB
  have HO0:=Lib.hid h0
  have HO1:=Lib.hid h1
  have HO2:=Lib.hid h2
  have HO3:=Lib.hid h3
  have HG:=Lib.hid g
  clear hB h0 h1 h2 h3 g
  go_enter Tryz.func92,Tryz.ntmps92
  go_wp2_with fail
  refine (ixb_n t (kb) _ (HG.out.ext (Ext.refl w)) HCB.out HO0.out HO1.out HO2.out HO3.out).mono ?_;rintro e w1 ⟨rfl,e1⟩
  have HX1:Hid (Ext w w1):=Lib.hid ((Ext.refl w).trans e1)
  have HBP_1:=Lib.hid (Blk.ext HCB.out e1)
  clear e1
  go_wp2
  go_ret
  exact ⟨rfl,HX1.out⟩

set_option maxRecDepth 100000 in
set_option maxHeartbeats 2000000 in
theorem rchk_b0 (t:Q4) (w:World) (g:Gd w) (h0:obad t.w = true):Calls Tryz.prog 41 #[.agg #[.int .i64 t.w,.int .i64 t.x,.int .i64 t.y,.int .i64 t.z]] w (Ret w (.int .i64 3)):=by
  have HO0:=Lib.hid h0
  have HG:=Lib.hid g
  clear h0 g
  go_enter Tryz.func41,Tryz.ntmps41
  go_wp2_with fail
  refine (cfb_0 t (w.heap.size) _ (HG.out.ext ((Ext.refl w).alloc _)) (Blk.new' (w:=_) (cs:=#[.int .i64 t.w,.int .i64 t.x,.int .i64 t.y,.int .i64 t.z]) (t:=22) (by first | rfl | (simp only [World.size_alloc];done) | (simp only [World.size_alloc];omega) | simp)) HO0.out).mono ?_;rintro e w1 ⟨rfl,e1⟩
  have HX1:Hid (Ext w w1):=Lib.hid (((Ext.refl w).alloc _).trans e1)
  have HB0_1:Hid (Blk w1 (w.heap.size) #[.int .i64 t.w,.int .i64 t.x,.int .i64 t.y,.int .i64 t.z] 22):=Lib.hid (Blk.ext (Blk.new' (w:=_) (cs:=#[.int .i64 t.w,.int .i64 t.x,.int .i64 t.y,.int .i64 t.z]) (t:=22) (by first | rfl | (simp only [World.size_alloc];done) | (simp only [World.size_alloc];omega) | simp)) e1)
  have HGEB0:Hid (w.heap.size ≤ w.heap.size):=Lib.hid (by first | omega | (simp only [];omega) | (simp;omega))
  clear e1
  go_wp2
  go_ret
  exact ⟨rfl,HX1.out⟩

set_option maxRecDepth 100000 in
set_option maxHeartbeats 2000000 in
theorem rchk_b1 (t:Q4) (w:World) (g:Gd w) (h0:obad t.w = false) (h1:obad t.x = true):Calls Tryz.prog 41 #[.agg #[.int .i64 t.w,.int .i64 t.x,.int .i64 t.y,.int .i64 t.z]] w (Ret w (.int .i64 3)):=by
  have HO0:=Lib.hid h0
  have HO1:=Lib.hid h1
  have HG:=Lib.hid g
  clear h0 h1 g
  go_enter Tryz.func41,Tryz.ntmps41
  go_wp2_with fail
  refine (cfb_1 t (w.heap.size) _ (HG.out.ext ((Ext.refl w).alloc _)) (Blk.new' (w:=_) (cs:=#[.int .i64 t.w,.int .i64 t.x,.int .i64 t.y,.int .i64 t.z]) (t:=22) (by first | rfl | (simp only [World.size_alloc];done) | (simp only [World.size_alloc];omega) | simp)) HO0.out HO1.out).mono ?_;rintro e w1 ⟨rfl,e1⟩
  have HX1:Hid (Ext w w1):=Lib.hid (((Ext.refl w).alloc _).trans e1)
  have HB0_1:Hid (Blk w1 (w.heap.size) #[.int .i64 t.w,.int .i64 t.x,.int .i64 t.y,.int .i64 t.z] 22):=Lib.hid (Blk.ext (Blk.new' (w:=_) (cs:=#[.int .i64 t.w,.int .i64 t.x,.int .i64 t.y,.int .i64 t.z]) (t:=22) (by first | rfl | (simp only [World.size_alloc];done) | (simp only [World.size_alloc];omega) | simp)) e1)
  have HGEB0:Hid (w.heap.size ≤ w.heap.size):=Lib.hid (by first | omega | (simp only [];omega) | (simp;omega))
  clear e1
  go_wp2
  go_ret
  exact ⟨rfl,HX1.out⟩

set_option maxRecDepth 100000 in
set_option maxHeartbeats 2000000 in
theorem rchk_b2 (t:Q4) (w:World) (g:Gd w) (h0:obad t.w = false) (h1:obad t.x = false) (h2:obad t.y = true):Calls Tryz.prog 41 #[.agg #[.int .i64 t.w,.int .i64 t.x,.int .i64 t.y,.int .i64 t.z]] w (Ret w (.int .i64 3)):=by
  have HO0:=Lib.hid h0
  have HO1:=Lib.hid h1
  have HO2:=Lib.hid h2
  have HG:=Lib.hid g
  clear h0 h1 h2 g
  go_enter Tryz.func41,Tryz.ntmps41
  go_wp2_with fail
  refine (cfb_2 t (w.heap.size) _ (HG.out.ext ((Ext.refl w).alloc _)) (Blk.new' (w:=_) (cs:=#[.int .i64 t.w,.int .i64 t.x,.int .i64 t.y,.int .i64 t.z]) (t:=22) (by first | rfl | (simp only [World.size_alloc];done) | (simp only [World.size_alloc];omega) | simp)) HO0.out HO1.out HO2.out).mono ?_;rintro e w1 ⟨rfl,e1⟩
  have HX1:Hid (Ext w w1):=Lib.hid (((Ext.refl w).alloc _).trans e1)
  have HB0_1:Hid (Blk w1 (w.heap.size) #[.int .i64 t.w,.int .i64 t.x,.int .i64 t.y,.int .i64 t.z] 22):=Lib.hid (Blk.ext (Blk.new' (w:=_) (cs:=#[.int .i64 t.w,.int .i64 t.x,.int .i64 t.y,.int .i64 t.z]) (t:=22) (by first | rfl | (simp only [World.size_alloc];done) | (simp only [World.size_alloc];omega) | simp)) e1)
  have HGEB0:Hid (w.heap.size ≤ w.heap.size):=Lib.hid (by first | omega | (simp only [];omega) | (simp;omega))
  clear e1
  go_wp2
  go_ret
  exact ⟨rfl,HX1.out⟩

set_option maxRecDepth 100000 in
set_option maxHeartbeats 2000000 in
theorem rchk_b3 (t:Q4) (w:World) (g:Gd w) (h0:obad t.w = false) (h1:obad t.x = false) (h2:obad t.y = false) (h3:obad t.z = true):Calls Tryz.prog 41 #[.agg #[.int .i64 t.w,.int .i64 t.x,.int .i64 t.y,.int .i64 t.z]] w (Ret w (.int .i64 3)):=by
  have HO0:=Lib.hid h0
  have HO1:=Lib.hid h1
  have HO2:=Lib.hid h2
  have HO3:=Lib.hid h3
  have HG:=Lib.hid g
  clear h0 h1 h2 h3 g
  go_enter Tryz.func41,Tryz.ntmps41
  go_wp2_with fail
  refine (cfb_3 t (w.heap.size) _ (HG.out.ext ((Ext.refl w).alloc _)) (Blk.new' (w:=_) (cs:=#[.int .i64 t.w,.int .i64 t.x,.int .i64 t.y,.int .i64 t.z]) (t:=22) (by first | rfl | (simp only [World.size_alloc];done) | (simp only [World.size_alloc];omega) | simp)) HO0.out HO1.out HO2.out HO3.out).mono ?_;rintro e w1 ⟨rfl,e1⟩
  have HX1:Hid (Ext w w1):=Lib.hid (((Ext.refl w).alloc _).trans e1)
  have HB0_1:Hid (Blk w1 (w.heap.size) #[.int .i64 t.w,.int .i64 t.x,.int .i64 t.y,.int .i64 t.z] 22):=Lib.hid (Blk.ext (Blk.new' (w:=_) (cs:=#[.int .i64 t.w,.int .i64 t.x,.int .i64 t.y,.int .i64 t.z]) (t:=22) (by first | rfl | (simp only [World.size_alloc];done) | (simp only [World.size_alloc];omega) | simp)) e1)
  have HGEB0:Hid (w.heap.size ≤ w.heap.size):=Lib.hid (by first | omega | (simp only [];omega) | (simp;omega))
  clear e1
  go_wp2
  go_ret
  exact ⟨rfl,HX1.out⟩

set_option maxRecDepth 100000 in
set_option maxHeartbeats 2000000 in
theorem rchk_n0 (a b c d:Int) (w:World) (g:Gd w) (hi:Q4In ⟨a,b,c,d⟩) (h:a ≠ 0):Calls Tryz.prog 41 #[.agg #[.int .i64 a,.int .i64 b,.int .i64 c,.int .i64 d]] w (Ret w (.int .i64 0)):=by
  have HI:=Lib.hid hi
  have HG:=Lib.hid g
  clear hi g
  have h_n:(a != 0) = true:=bne_iff_ne.2 h
  have h_e:(a == 0) = false:=beq_eq_false_iff_ne.2 h
  clear h
  have eqa0:=eq4 a b c d 0 0 0 0
  go_enter Tryz.func41,Tryz.ntmps41
  go_wp2_with fail
  refine (cfb_n ⟨a,b,c,d⟩ (w.heap.size) _ (HG.out.ext ((Ext.refl w).alloc _)) (Blk.new' (w:=_) (cs:=#[.int .i64 a,.int .i64 b,.int .i64 c,.int .i64 d]) (t:=22) (by first | rfl | (simp only [World.size_alloc];done) | (simp only [World.size_alloc];omega) | simp)) (obad_f.2 HI.out.w) (obad_f.2 HI.out.x) (obad_f.2 HI.out.y) (obad_f.2 HI.out.z)).mono ?_;rintro e w1 ⟨rfl,e1⟩
  have HX1:Hid (Ext w w1):=Lib.hid (((Ext.refl w).alloc _).trans e1)
  have HB0_1:Hid (Blk w1 (w.heap.size) #[.int .i64 a,.int .i64 b,.int .i64 c,.int .i64 d] 22):=Lib.hid (Blk.ext (Blk.new' (w:=_) (cs:=#[.int .i64 a,.int .i64 b,.int .i64 c,.int .i64 d]) (t:=22) (by first | rfl | (simp only [World.size_alloc];done) | (simp only [World.size_alloc];omega) | simp)) e1)
  have HGEB0:Hid (w.heap.size ≤ w.heap.size):=Lib.hid (by first | omega | (simp only [];omega) | (simp;omega))
  clear e1
  have c0_0:=HB0_1.out.cell 0 rfl
  have c0_1:=HB0_1.out.cell 1 rfl
  have c0_2:=HB0_1.out.cell 2 rfl
  have c0_3:=HB0_1.out.cell 3 rfl
  go_wp2
  go_ret
  exact ⟨rfl,HX1.out⟩

set_option maxRecDepth 100000 in
set_option maxHeartbeats 2000000 in
theorem rchk_n1 (b c d:Int) (w:World) (g:Gd w) (hi:Q4In ⟨0,b,c,d⟩) (h:b ≠ 0):Calls Tryz.prog 41 #[.agg #[.int .i64 0,.int .i64 b,.int .i64 c,.int .i64 d]] w (Ret w (.int .i64 0)):=by
  have HI:=Lib.hid hi
  have HG:=Lib.hid g
  clear hi g
  have h_n:(b != 0) = true:=bne_iff_ne.2 h
  have h_e:(b == 0) = false:=beq_eq_false_iff_ne.2 h
  clear h
  have eqa0:=eq4 0 b c d 0 0 0 0
  go_enter Tryz.func41,Tryz.ntmps41
  go_wp2_with fail
  refine (cfb_n ⟨0,b,c,d⟩ (w.heap.size) _ (HG.out.ext ((Ext.refl w).alloc _)) (Blk.new' (w:=_) (cs:=#[.int .i64 0,.int .i64 b,.int .i64 c,.int .i64 d]) (t:=22) (by first | rfl | (simp only [World.size_alloc];done) | (simp only [World.size_alloc];omega) | simp)) (obad_f.2 HI.out.w) (obad_f.2 HI.out.x) (obad_f.2 HI.out.y) (obad_f.2 HI.out.z)).mono ?_;rintro e w1 ⟨rfl,e1⟩
  have HX1:Hid (Ext w w1):=Lib.hid (((Ext.refl w).alloc _).trans e1)
  have HB0_1:Hid (Blk w1 (w.heap.size) #[.int .i64 0,.int .i64 b,.int .i64 c,.int .i64 d] 22):=Lib.hid (Blk.ext (Blk.new' (w:=_) (cs:=#[.int .i64 0,.int .i64 b,.int .i64 c,.int .i64 d]) (t:=22) (by first | rfl | (simp only [World.size_alloc];done) | (simp only [World.size_alloc];omega) | simp)) e1)
  have HGEB0:Hid (w.heap.size ≤ w.heap.size):=Lib.hid (by first | omega | (simp only [];omega) | (simp;omega))
  clear e1
  have c0_0:=HB0_1.out.cell 0 rfl
  have c0_1:=HB0_1.out.cell 1 rfl
  have c0_2:=HB0_1.out.cell 2 rfl
  have c0_3:=HB0_1.out.cell 3 rfl
  go_wp2
  go_ret
  exact ⟨rfl,HX1.out⟩

set_option maxRecDepth 100000 in
set_option maxHeartbeats 2000000 in
theorem rchk_n2 (c d:Int) (w:World) (g:Gd w) (hi:Q4In ⟨0,0,c,d⟩) (h:c ≠ 0):Calls Tryz.prog 41 #[.agg #[.int .i64 0,.int .i64 0,.int .i64 c,.int .i64 d]] w (Ret w (.int .i64 0)):=by
  have HI:=Lib.hid hi
  have HG:=Lib.hid g
  clear hi g
  have h_n:(c != 0) = true:=bne_iff_ne.2 h
  have h_e:(c == 0) = false:=beq_eq_false_iff_ne.2 h
  clear h
  have eqa0:=eq4 0 0 c d 0 0 0 0
  go_enter Tryz.func41,Tryz.ntmps41
  go_wp2_with fail
  refine (cfb_n ⟨0,0,c,d⟩ (w.heap.size) _ (HG.out.ext ((Ext.refl w).alloc _)) (Blk.new' (w:=_) (cs:=#[.int .i64 0,.int .i64 0,.int .i64 c,.int .i64 d]) (t:=22) (by first | rfl | (simp only [World.size_alloc];done) | (simp only [World.size_alloc];omega) | simp)) (obad_f.2 HI.out.w) (obad_f.2 HI.out.x) (obad_f.2 HI.out.y) (obad_f.2 HI.out.z)).mono ?_;rintro e w1 ⟨rfl,e1⟩
  have HX1:Hid (Ext w w1):=Lib.hid (((Ext.refl w).alloc _).trans e1)
  have HB0_1:Hid (Blk w1 (w.heap.size) #[.int .i64 0,.int .i64 0,.int .i64 c,.int .i64 d] 22):=Lib.hid (Blk.ext (Blk.new' (w:=_) (cs:=#[.int .i64 0,.int .i64 0,.int .i64 c,.int .i64 d]) (t:=22) (by first | rfl | (simp only [World.size_alloc];done) | (simp only [World.size_alloc];omega) | simp)) e1)
  have HGEB0:Hid (w.heap.size ≤ w.heap.size):=Lib.hid (by first | omega | (simp only [];omega) | (simp;omega))
  clear e1
  have c0_0:=HB0_1.out.cell 0 rfl
  have c0_1:=HB0_1.out.cell 1 rfl
  have c0_2:=HB0_1.out.cell 2 rfl
  have c0_3:=HB0_1.out.cell 3 rfl
  go_wp2
  go_ret
  exact ⟨rfl,HX1.out⟩

set_option maxRecDepth 100000 in
set_option maxHeartbeats 2000000 in
theorem rchk_n3 (d:Int) (w:World) (g:Gd w) (hi:Q4In ⟨0,0,0,d⟩) (h:d ≠ 0):Calls Tryz.prog 41 #[.agg #[.int .i64 0,.int .i64 0,.int .i64 0,.int .i64 d]] w (Ret w (.int .i64 0)):=by
  have HI:=Lib.hid hi
  have HG:=Lib.hid g
  clear hi g
  have h_n:(d != 0) = true:=bne_iff_ne.2 h
  have h_e:(d == 0) = false:=beq_eq_false_iff_ne.2 h
  clear h
  have eqa0:=eq4 0 0 0 d 0 0 0 0
  go_enter Tryz.func41,Tryz.ntmps41
  go_wp2_with fail
  refine (cfb_n ⟨0,0,0,d⟩ (w.heap.size) _ (HG.out.ext ((Ext.refl w).alloc _)) (Blk.new' (w:=_) (cs:=#[.int .i64 0,.int .i64 0,.int .i64 0,.int .i64 d]) (t:=22) (by first | rfl | (simp only [World.size_alloc];done) | (simp only [World.size_alloc];omega) | simp)) (obad_f.2 HI.out.w) (obad_f.2 HI.out.x) (obad_f.2 HI.out.y) (obad_f.2 HI.out.z)).mono ?_;rintro e w1 ⟨rfl,e1⟩
  have HX1:Hid (Ext w w1):=Lib.hid (((Ext.refl w).alloc _).trans e1)
  have HB0_1:Hid (Blk w1 (w.heap.size) #[.int .i64 0,.int .i64 0,.int .i64 0,.int .i64 d] 22):=Lib.hid (Blk.ext (Blk.new' (w:=_) (cs:=#[.int .i64 0,.int .i64 0,.int .i64 0,.int .i64 d]) (t:=22) (by first | rfl | (simp only [World.size_alloc];done) | (simp only [World.size_alloc];omega) | simp)) e1)
  have HGEB0:Hid (w.heap.size ≤ w.heap.size):=Lib.hid (by first | omega | (simp only [];omega) | (simp;omega))
  clear e1
  have c0_0:=HB0_1.out.cell 0 rfl
  have c0_1:=HB0_1.out.cell 1 rfl
  have c0_2:=HB0_1.out.cell 2 rfl
  have c0_3:=HB0_1.out.cell 3 rfl
  go_wp2
  go_ret
  exact ⟨rfl,HX1.out⟩

set_option maxRecDepth 100000 in
set_option maxHeartbeats 2000000 in
theorem rchk_z (w:World) (g:Gd w):Calls Tryz.prog 41 #[.agg #[.int .i64 0,.int .i64 0,.int .i64 0,.int .i64 0]] w (Ret w (.int .i64 17)):=by
  have HG:=Lib.hid g
  clear g
  have eqa0:=eq4 0 0 0 0 0 0 0 0
  go_enter Tryz.func41,Tryz.ntmps41
  go_wp2_with fail
  refine (cfb_n ⟨0,0,0,0⟩ (w.heap.size) _ (HG.out.ext ((Ext.refl w).alloc _)) (Blk.new' (w:=_) (cs:=#[.int .i64 0,.int .i64 0,.int .i64 0,.int .i64 0]) (t:=22) (by first | rfl | (simp only [World.size_alloc];done) | (simp only [World.size_alloc];omega) | simp)) (by decide) (by decide) (by decide) (by decide)).mono ?_;rintro e w1 ⟨rfl,e1⟩
  have HX1:Hid (Ext w w1):=Lib.hid (((Ext.refl w).alloc _).trans e1)
  have HB0_1:Hid (Blk w1 (w.heap.size) #[.int .i64 0,.int .i64 0,.int .i64 0,.int .i64 0] 22):=Lib.hid (Blk.ext (Blk.new' (w:=_) (cs:=#[.int .i64 0,.int .i64 0,.int .i64 0,.int .i64 0]) (t:=22) (by first | rfl | (simp only [World.size_alloc];done) | (simp only [World.size_alloc];omega) | simp)) e1)
  have HGEB0:Hid (w.heap.size ≤ w.heap.size):=Lib.hid (by first | omega | (simp only [];omega) | (simp;omega))
  clear e1
  have c0_0:=HB0_1.out.cell 0 rfl
  have c0_1:=HB0_1.out.cell 1 rfl
  have c0_2:=HB0_1.out.cell 2 rfl
  have c0_3:=HB0_1.out.cell 3 rfl
  go_wp2
  go_ret
  exact ⟨rfl,HX1.out⟩

theorem rchk_l {t:Q4} {e:Int} (w:World) (g:Gd w) (h:QErr t e):Calls Tryz.prog 41 #[.agg #[.int .i64 t.w,.int .i64 t.x,.int .i64 t.y,.int .i64 t.z]] w (Ret w (.int .i64 e)):=by
  cases h with
  | b0  h => exact rchk_b0 t w g  h
  | b1 h0 h => exact rchk_b1 t w g h0 h
  | b2 h0 h1 h => exact rchk_b2 t w g h0 h1 h
  | b3 h0 h1 h2 h => exact rchk_b3 t w g h0 h1 h2 h
  | zero h => subst h;exact rchk_z w g
  | ok hi hz =>
    cases t with
    | mk a b c d =>
    by_cases h0:a = 0
    · subst h0
      by_cases h1:b = 0
      · subst h1
        by_cases h2:c = 0
        · subst h2
          exact rchk_n3 d w g hi (fun e => hz ⟨rfl,rfl,rfl,e⟩)
        · exact rchk_n2 c d w g hi h2
      · exact rchk_n1 b c d w g hi h1
    · exact rchk_n0 a b c d w g hi h0

end Go.Proofs.YtjeimihnoiephaaGreatDoor

namespace Go.Proofs.YtjeimihnoiephaaGreatDoor
open Go Go.RowKit
set_option linter.unusedVariables false
theorem mul_bd {a b:Int} (ha:-1000000 ≤ a∧a ≤ 1000000) (hb:-1000000 ≤ b∧b ≤ 1000000):-1000000000000 ≤ a * b∧a * b ≤ 1000000000000:=by
  have h:(a * b).natAbs ≤ 1000000 * 1000000:=by rw [Int.natAbs_mul];exact Nat.mul_le_mul (by omega) (by omega)
  omega
theorem rof_c (n s:Int) (w:World) (g:Gd w) (h:-10000000000000 ≤ n∧n ≤ 10000000000000) (hs:0 < s∧s ≤ 10000000000000):Calls Tryz.prog 66 #[.int .i64 n,.int .i64 s] w (Ret w (.tuple #[.string (qs (fr n s)),.int .i64 0])):=by
  obtain ⟨d,rfl⟩:∃ d:Nat,s = (d:Int):=⟨s.toNat,by omega⟩
  have i1:IB 14 n:=⟨by have:=h;omega⟩
  have i2:IB 14 (d:Int):=⟨by have:=hs;omega⟩
  have hd:d ≠ 0:=by omega
  have HI1:=Lib.hid i1;have HI2:=Lib.hid i2;have HD:=Lib.hid hd;have HG:=Lib.hid g;have H:=Lib.hid h;have HS:=Lib.hid hs
  have e:fr n (d:Int) = mkRat n d:=rfl
  rw [e]
  clear i1 i2 hd g h hs e
  go_enter Tryz.func66,Tryz.ntmps66
  go_wp2_with fail
  refine (of_c n (by have:=H.out;omega) (by have:=H.out;omega) _ HG.out).mono ?_;rintro e w1 ⟨rfl,e1⟩
  go_wp2_with fail
  refine (of_c (d:Int) (by have:=HS.out;omega) (by have:=HS.out;omega) _ (HG.out.ext e1)).mono ?_;rintro e w2 ⟨rfl,e2⟩
  go_wp2_with fail
  refine (new_c n d HD.out _ (HG.out.ext (e1.trans e2)) HI1.out HI2.out (by decide) (by decide)).mono ?_;rintro e w3 ⟨rfl,e3⟩
  go_wp2
  go_ret2
  exact ⟨rfl,(e1.trans e2).trans e3⟩

set_option maxRecDepth 100000 in
set_option maxHeartbeats 2000000 in
theorem rrow_c (a b c s:Int) (kb:Nat) {ty:TypeId} (w:World) (g:Gd w) (hB:Blk w kb #[.int .i64 s] ty) (ha:-10000000000000 ≤ a∧a ≤ 10000000000000) (hb:-10000000000000 ≤ b∧b ≤ 10000000000000) (hc:-10000000000000 ≤ c∧c ≤ 10000000000000) (hs:0 < s∧s ≤ 10000000000000):Calls Tryz.prog 119 #[.int .i64 a,.int .i64 b,.int .i64 c,.pointer (some ⟨kb,0,none⟩)] w (Ret w (.agg #[.string (qs (fr a s)),.string (qs (fr b s)),.string (qs (fr c s))])):=by
  have HCB:=Lib.hid hB
  have HA:=Lib.hid ha
  have HB:=Lib.hid hb
  have HC:=Lib.hid hc
  have HS:=Lib.hid hs
  have HG:=Lib.hid g
  clear hB ha hb hc hs g
  have ix0:∀ W,(Instr.index 147 (.agg #[.int .i64 a,.int .i64 b,.int .i64 c]) (.int .i64 0)).run Tryz.prog W = .ok (.int .i64 a) W:=fun W => by kernel_rfl
  have ix1:∀ W,(Instr.index 147 (.agg #[.int .i64 a,.int .i64 b,.int .i64 c]) (.int .i64 1)).run Tryz.prog W = .ok (.int .i64 b) W:=fun W => by kernel_rfl
  have ix2:∀ W,(Instr.index 147 (.agg #[.int .i64 a,.int .i64 b,.int .i64 c]) (.int .i64 2)).run Tryz.prog W = .ok (.int .i64 c) W:=fun W => by kernel_rfl
  go_enter Tryz.func119,Tryz.ntmps119
  go_wp2_with fail
  refine wp_loop_rounds 4 ?_
  rw [rounds_succ]
  go_upto_region 5 with fail
  refine wp_name (fun W => Ext w W∧Blk W (kb) #[.int .i64 s] ty∧Blk W (w.heap.size) #[.string ⟨#[]⟩,.string ⟨#[]⟩,.string ⟨#[]⟩] 31∧Blk W (w.heap.size + 1) #[.string ⟨#[]⟩,.string ⟨#[]⟩,.string ⟨#[]⟩] 107) ⟨(((Ext.refl w).alloc _).alloc _),((HCB.out.alloc _).alloc _),((Blk.new' (w:=_) (cs:=#[.string ⟨#[]⟩,.string ⟨#[]⟩,.string ⟨#[]⟩]) (t:=31) (by first | rfl | (simp only [World.size_alloc];done) | (simp only [World.size_alloc];omega) | simp)).alloc _),(Blk.new' (w:=_) (cs:=#[.string ⟨#[]⟩,.string ⟨#[]⟩,.string ⟨#[]⟩]) (t:=107) (by first | rfl | (simp only [World.size_alloc];done) | (simp only [World.size_alloc];omega) | simp))⟩ ?_
  rintro w1 ⟨e1,bBP_1,bB0_1,bB1_1⟩
  have HX1:=Lib.hid e1;have HBP_1:=Lib.hid bBP_1;have HB0_1:=Lib.hid bB0_1;have HB1_1:=Lib.hid bB1_1
  have HGEB0:Hid (w.heap.size ≤ w.heap.size):=Lib.hid (by first | omega | (simp only [];omega) | (simp;omega))
  have HGEB1:Hid (w.heap.size ≤ w.heap.size + 1):=Lib.hid (by first | omega | (simp only [];omega) | (simp;omega))
  clear e1 bBP_1 bB0_1 bB1_1
  have cP_0:=HBP_1.out.cell 0 rfl
  go_wp2_with fail
  refine (rof_c a s _ (HG.out.ext HX1.out) HA.out HS.out).mono ?_;rintro e w2 ⟨rfl,e2⟩
  have HX2:Hid (Ext w w2):=Lib.hid (HX1.out.trans e2)
  have HBP_2:=Lib.hid (Blk.ext HBP_1.out e2)
  have HB0_2:=Lib.hid (Blk.ext HB0_1.out e2)
  have HB1_2:=Lib.hid (Blk.ext HB1_1.out e2)
  clear e2 cP_0
  have c1_0:=HB1_2.out.cell 0 rfl
  have f1_0:=HB1_2.out.free 0
  go_wp2_with fail
  rw [rounds_succ]
  clear c1_0 f1_0
  go_upto_region 5 with fail
  refine wp_name (fun W => Ext w W∧Blk W (kb) #[.int .i64 s] ty∧Blk W (w.heap.size) #[.string ⟨#[]⟩,.string ⟨#[]⟩,.string ⟨#[]⟩] 31∧Blk W (w.heap.size + 1) #[.string (qs (fr a s)),.string ⟨#[]⟩,.string ⟨#[]⟩] 107) ⟨(HX2.out.setCell (by have:=HGEB1.out;first | omega | (simp only [];omega) | (simp;omega)) _),(HBP_2.out.other (a:=⟨w.heap.size + 1,0,none⟩) _ (by have:=HCB.out.lt;first | omega | (simp only [];omega) | (simp;omega))),(HB0_2.out.other (a:=⟨w.heap.size + 1,0,none⟩) _ (by first | omega | (simp only [];omega) | (simp;omega))),(HB1_2.out.set 0 (.string (qs (fr a s))))⟩ ?_
  rintro w3 ⟨e3,bBP_3,bB0_3,bB1_3⟩
  have HX3:=Lib.hid e3;have HBP_3:=Lib.hid bBP_3;have HB0_3:=Lib.hid bB0_3;have HB1_3:=Lib.hid bB1_3
  clear e3 bBP_3 bB0_3 bB1_3
  have cP_0:=HBP_3.out.cell 0 rfl
  go_wp2_with fail
  refine (rof_c b s _ (HG.out.ext HX3.out) HB.out HS.out).mono ?_;rintro e w4 ⟨rfl,e4⟩
  have HX4:Hid (Ext w w4):=Lib.hid (HX3.out.trans e4)
  have HBP_4:=Lib.hid (Blk.ext HBP_3.out e4)
  have HB0_4:=Lib.hid (Blk.ext HB0_3.out e4)
  have HB1_4:=Lib.hid (Blk.ext HB1_3.out e4)
  clear e4 cP_0
  have c1_1:=HB1_4.out.cell 1 rfl
  have f1_1:=HB1_4.out.free 1
  go_wp2_with fail
  rw [rounds_succ]
  clear c1_1 f1_1
  go_upto_region 5 with fail
  refine wp_name (fun W => Ext w W∧Blk W (kb) #[.int .i64 s] ty∧Blk W (w.heap.size) #[.string ⟨#[]⟩,.string ⟨#[]⟩,.string ⟨#[]⟩] 31∧Blk W (w.heap.size + 1) #[.string (qs (fr a s)),.string (qs (fr b s)),.string ⟨#[]⟩] 107) ⟨(HX4.out.setCell (by have:=HGEB1.out;first | omega | (simp only [];omega) | (simp;omega)) _),(HBP_4.out.other (a:=⟨w.heap.size + 1,1,none⟩) _ (by have:=HCB.out.lt;first | omega | (simp only [];omega) | (simp;omega))),(HB0_4.out.other (a:=⟨w.heap.size + 1,1,none⟩) _ (by first | omega | (simp only [];omega) | (simp;omega))),(HB1_4.out.set 1 (.string (qs (fr b s))))⟩ ?_
  rintro w5 ⟨e5,bBP_5,bB0_5,bB1_5⟩
  have HX5:=Lib.hid e5;have HBP_5:=Lib.hid bBP_5;have HB0_5:=Lib.hid bB0_5;have HB1_5:=Lib.hid bB1_5
  clear e5 bBP_5 bB0_5 bB1_5
  have cP_0:=HBP_5.out.cell 0 rfl
  go_wp2_with fail
  refine (rof_c c s _ (HG.out.ext HX5.out) HC.out HS.out).mono ?_;rintro e w6 ⟨rfl,e6⟩
  have HX6:Hid (Ext w w6):=Lib.hid (HX5.out.trans e6)
  have HB0_6:=Lib.hid (Blk.ext HB0_5.out e6)
  have HB1_6:=Lib.hid (Blk.ext HB1_5.out e6)
  clear e6 cP_0
  have c1_2:=HB1_6.out.cell 2 rfl
  have f1_2:=HB1_6.out.free 2
  go_wp2_with fail
  rw [rounds_succ]
  clear c1_2 f1_2
  go_upto_region 7 with fail
  refine wp_name (fun W => Ext w W∧Blk W (w.heap.size) #[.string ⟨#[]⟩,.string ⟨#[]⟩,.string ⟨#[]⟩] 31∧Blk W (w.heap.size + 1) #[.string (qs (fr a s)),.string (qs (fr b s)),.string (qs (fr c s))] 107) ⟨(HX6.out.setCell (by have:=HGEB1.out;first | omega | (simp only [];omega) | (simp;omega)) _),(HB0_6.out.other (a:=⟨w.heap.size + 1,2,none⟩) _ (by first | omega | (simp only [];omega) | (simp;omega))),(HB1_6.out.set 2 (.string (qs (fr c s))))⟩ ?_
  rintro w7 ⟨e7,bB0_7,bB1_7⟩
  have HX7:=Lib.hid e7;have HB0_7:=Lib.hid bB0_7;have HB1_7:=Lib.hid bB1_7
  clear e7 bB0_7 bB1_7
  have c1_0:=HB1_7.out.cell 0 rfl
  have c1_1:=HB1_7.out.cell 1 rfl
  have c1_2:=HB1_7.out.cell 2 rfl
  have c0_0:=HB0_7.out.cell 0 rfl
  have f0_0:=HB0_7.out.free 0
  have c0_1:=HB0_7.out.cell 1 rfl
  have f0_1:=HB0_7.out.free 1
  have c0_2:=HB0_7.out.cell 2 rfl
  have f0_2:=HB0_7.out.free 2
  go_wp2_with fail
  refine wp_name (fun W => Ext w W∧Blk W (w.heap.size) #[.string (qs (fr a s)),.string (qs (fr b s)),.string (qs (fr c s))] 31) ⟨(((HX7.out.setCell (by have:=HGEB0.out;first | omega | (simp only [];omega) | (simp;omega)) _).setCell (by have:=HGEB0.out;first | omega | (simp only [];omega) | (simp;omega)) _).setCell (by have:=HGEB0.out;first | omega | (simp only [];omega) | (simp;omega)) _),(((HB0_7.out.set 0 (.string (qs (fr a s)))).set 1 (.string (qs (fr b s)))).set 2 (.string (qs (fr c s))))⟩ ?_
  rintro w8 ⟨e8,bB0_8⟩
  have HX8:=Lib.hid e8;have HB0_8:=Lib.hid bB0_8
  clear e8 bB0_8 c1_0 c1_1 c1_2 c0_0 f0_0 c0_1 f0_1 c0_2 f0_2
  have gB0_0:=HB0_8.out.cell 0 rfl
  have gB0_1:=HB0_8.out.cell 1 rfl
  have gB0_2:=HB0_8.out.cell 2 rfl
  refine bodyPost_ret (v:=.agg #[.string (qs (fr a s)),.string (qs (fr b s)),.string (qs (fr c s))]) (by simp [results,Tryz.results119,go_sem,gB0_0,gB0_1,gB0_2]) rfl ⟨rfl,HX8.out⟩

set_option maxRecDepth 100000 in
set_option maxHeartbeats 16000000 in
theorem rrows_c (t:Q4) (w:World) (g:Gd w) (hi:Q4In t) (hz:¬ t.zero):Calls Tryz.prog 60 #[.agg #[.int .i64 t.w,.int .i64 t.x,.int .i64 t.y,.int .i64 t.z]] w (Ret w (.agg #[.string (qs ((row1 t).x)),.string (qs ((row1 t).y)),.string (qs ((row1 t).z)),.string (qs ((row2 t).x)),.string (qs ((row2 t).y)),.string (qs ((row2 t).z)),.string (qs ((row3 t).x)),.string (qs ((row3 t).y)),.string (qs ((row3 t).z))])):=by
  have HG:=Lib.hid g
  clear g
  have bw:=hi.w;have bx:=hi.x;have by_:=hi.y;have bz:=hi.z
  have pww:=mul_bd bw bw
  have pwx:=mul_bd bw bx
  have pwy:=mul_bd bw by_
  have pwz:=mul_bd bw bz
  have pxw:=mul_bd bx bw
  have pxx:=mul_bd bx bx
  have pxy:=mul_bd bx by_
  have pxz:=mul_bd bx bz
  have pyw:=mul_bd by_ bw
  have pyx:=mul_bd by_ bx
  have pyy:=mul_bd by_ by_
  have pyz:=mul_bd by_ bz
  have pzw:=mul_bd bz bw
  have pzx:=mul_bd bz bx
  have pzy:=mul_bd bz by_
  have pzz:=mul_bd bz bz
  have sw:=sqi_nonneg t.w;have sx:=sqi_nonneg t.x;have sy:=sqi_nonneg t.y;have sz:=sqi_nonneg t.z
  have hpos:=norm4_pos hz
  have hS:t.w * t.w + t.x * t.x + t.y * t.y + t.z * t.z = norm4 t:=rfl
  have HNN:Hid (0 < norm4 t∧norm4 t ≤ 10000000000000):=Lib.hid ⟨hpos,by rw [← hS];omega⟩
  have HR1:Hid ((-10000000000000 ≤ (t.w * t.w + t.x * t.x - t.y * t.y - t.z * t.z)∧(t.w * t.w + t.x * t.x - t.y * t.y - t.z * t.z) ≤ 10000000000000)∧(-10000000000000 ≤ (2 * (t.x * t.y - t.w * t.z))∧(2 * (t.x * t.y - t.w * t.z)) ≤ 10000000000000)∧(-10000000000000 ≤ (2 * (t.x * t.z + t.w * t.y))∧(2 * (t.x * t.z + t.w * t.y)) ≤ 10000000000000)):=Lib.hid ⟨by omega,by omega,by omega⟩
  have HR2:Hid ((-10000000000000 ≤ (2 * (t.x * t.y + t.w * t.z))∧(2 * (t.x * t.y + t.w * t.z)) ≤ 10000000000000)∧(-10000000000000 ≤ (t.w * t.w - t.x * t.x + t.y * t.y - t.z * t.z)∧(t.w * t.w - t.x * t.x + t.y * t.y - t.z * t.z) ≤ 10000000000000)∧(-10000000000000 ≤ (2 * (t.y * t.z - t.w * t.x))∧(2 * (t.y * t.z - t.w * t.x)) ≤ 10000000000000)):=Lib.hid ⟨by omega,by omega,by omega⟩
  have HR3:Hid ((-10000000000000 ≤ (2 * (t.x * t.z - t.w * t.y))∧(2 * (t.x * t.z - t.w * t.y)) ≤ 10000000000000)∧(-10000000000000 ≤ (2 * (t.y * t.z + t.w * t.x))∧(2 * (t.y * t.z + t.w * t.x)) ≤ 10000000000000)∧(-10000000000000 ≤ (t.w * t.w - t.x * t.x - t.y * t.y + t.z * t.z)∧(t.w * t.w - t.x * t.x - t.y * t.y + t.z * t.z) ≤ 10000000000000)):=Lib.hid ⟨by omega,by omega,by omega⟩
  clear hpos hi hz
  go_enter Tryz.func60,Tryz.ntmps60
  go_wp2_with fail
  refine wp_name (fun W => Ext w W∧Blk W (w.heap.size) #[.int .i64 t.w,.int .i64 t.x,.int .i64 t.y,.int .i64 t.z] 22∧Blk W (w.heap.size + 1) #[.string ⟨#[]⟩,.string ⟨#[]⟩,.string ⟨#[]⟩,.string ⟨#[]⟩,.string ⟨#[]⟩,.string ⟨#[]⟩,.string ⟨#[]⟩,.string ⟨#[]⟩,.string ⟨#[]⟩] 59) ⟨(((Ext.refl w).alloc _).alloc _),((Blk.new' (w:=_) (cs:=#[.int .i64 t.w,.int .i64 t.x,.int .i64 t.y,.int .i64 t.z]) (t:=22) (by first | rfl | (simp only [World.size_alloc];done) | (simp only [World.size_alloc];omega) | simp)).alloc _),(Blk.new' (w:=_) (cs:=#[.string ⟨#[]⟩,.string ⟨#[]⟩,.string ⟨#[]⟩,.string ⟨#[]⟩,.string ⟨#[]⟩,.string ⟨#[]⟩,.string ⟨#[]⟩,.string ⟨#[]⟩,.string ⟨#[]⟩]) (t:=59) (by first | rfl | (simp only [World.size_alloc];done) | (simp only [World.size_alloc];omega) | simp))⟩ ?_
  rintro w1 ⟨e1,bB0_1,bB1_1⟩
  have HX1:=Lib.hid e1;have HB0_1:=Lib.hid bB0_1;have HB1_1:=Lib.hid bB1_1
  have HGEB0:Hid (w.heap.size ≤ w.heap.size):=Lib.hid (by first | omega | (simp only [];omega) | (simp;omega))
  have HGEB1:Hid (w.heap.size ≤ w.heap.size + 1):=Lib.hid (by first | omega | (simp only [];omega) | (simp;omega))
  clear e1 bB0_1 bB1_1
  refine region_lin [.val (.pointer (some ⟨w.heap.size,0,none⟩)),.val (.int .i64 t.w),.val (.pointer (some ⟨w.heap.size,1,none⟩)),.val (.int .i64 t.x),.val (.pointer (some ⟨w.heap.size,2,none⟩)),.val (.int .i64 t.y),.val (.pointer (some ⟨w.heap.size,3,none⟩)),.val (.int .i64 t.z),.val (.int .i64 t.w),.val (.int .i64 t.x),.val (.int .i64 t.y),.val (.int .i64 t.z)] (by kernel_rfl) (by kernel_rfl) (by kernel_rfl) ?_ (fun g1 w2 hx_ hm_ hne_ => ?_)
  · skip
    refine RnL.cons (fun g1 A_ W_ hs_ => ?_) ?_
    · have q1_:=(hs_.old 1 (by kernel_rfl):A_.tmps[1]?.getD undef = .pointer (some ⟨w.heap.size,0,none⟩))
      refine Rn.val fun K_ hK_ => ?_
      go_simp
      exact hK_.out _ (Ext.refl _)
    refine RnL.cons (fun g1 A_ W_ hs_ => ?_) ?_
    · have q9_:=hs_.val 0 rfl rfl rfl
      have cB0_0:=((HB0_1.out.drew.ext hs_.1)).cell 0 rfl
      refine Rn.val fun K_ hK_ => ?_
      go_simp
      exact hK_.out _ (Ext.refl _)
    refine RnL.cons (fun g1 A_ W_ hs_ => ?_) ?_
    · have q1_:=(hs_.old 1 (by kernel_rfl):A_.tmps[1]?.getD undef = .pointer (some ⟨w.heap.size,0,none⟩))
      refine Rn.val fun K_ hK_ => ?_
      go_simp
      exact hK_.out _ (Ext.refl _)
    refine RnL.cons (fun g1 A_ W_ hs_ => ?_) ?_
    · have q11_:=hs_.val 2 rfl rfl rfl
      have cB0_1:=((HB0_1.out.drew.ext hs_.1)).cell 1 rfl
      refine Rn.val fun K_ hK_ => ?_
      go_simp
      exact hK_.out _ (Ext.refl _)
    refine RnL.cons (fun g1 A_ W_ hs_ => ?_) ?_
    · have q1_:=(hs_.old 1 (by kernel_rfl):A_.tmps[1]?.getD undef = .pointer (some ⟨w.heap.size,0,none⟩))
      refine Rn.val fun K_ hK_ => ?_
      go_simp
      exact hK_.out _ (Ext.refl _)
    refine RnL.cons (fun g1 A_ W_ hs_ => ?_) ?_
    · have q13_:=hs_.val 4 rfl rfl rfl
      have cB0_2:=((HB0_1.out.drew.ext hs_.1)).cell 2 rfl
      refine Rn.val fun K_ hK_ => ?_
      go_simp
      exact hK_.out _ (Ext.refl _)
    refine RnL.cons (fun g1 A_ W_ hs_ => ?_) ?_
    · have q1_:=(hs_.old 1 (by kernel_rfl):A_.tmps[1]?.getD undef = .pointer (some ⟨w.heap.size,0,none⟩))
      refine Rn.val fun K_ hK_ => ?_
      go_simp
      exact hK_.out _ (Ext.refl _)
    refine RnL.cons (fun g1 A_ W_ hs_ => ?_) ?_
    · have q15_:=hs_.val 6 rfl rfl rfl
      have cB0_3:=((HB0_1.out.drew.ext hs_.1)).cell 3 rfl
      refine Rn.val fun K_ hK_ => ?_
      go_simp
      exact hK_.out _ (Ext.refl _)
    refine RnL.cons (fun g1 A_ W_ hs_ => ?_) ?_
    · have q10_:=hs_.val 1 rfl rfl rfl
      refine Rn.val fun K_ hK_ => ?_
      go_simp
      exact hK_.out _ (Ext.refl _)
    refine RnL.cons (fun g1 A_ W_ hs_ => ?_) ?_
    · have q12_:=hs_.val 3 rfl rfl rfl
      refine Rn.val fun K_ hK_ => ?_
      go_simp
      exact hK_.out _ (Ext.refl _)
    refine RnL.cons (fun g1 A_ W_ hs_ => ?_) ?_
    · have q14_:=hs_.val 5 rfl rfl rfl
      refine Rn.val fun K_ hK_ => ?_
      go_simp
      exact hK_.out _ (Ext.refl _)
    refine RnL.cons (fun g1 A_ W_ hs_ => ?_) ?_
    · have q16_:=hs_.val 7 rfl rfl rfl
      refine Rn.val fun K_ hK_ => ?_
      go_simp
      exact hK_.out _ (Ext.refl _)
    exact RnL.nil
  simp only [fs,Kd.value,puts,Act.put,List.setIfInBounds_toArray,List.set_cons_zero,List.set_cons_succ]
  have HX2:Hid (Ext w w2):=Lib.hid (HX1.out.drew.trans hx_)
  have HB1_2:=Lib.hid (HB1_1.out.drew.ext hx_)
  clear hx_ hm_ hne_
  go_upto_region 4 with fail
  refine wp_name (fun W => Ext w W∧Blk W (w.heap.size + 1) #[.string ⟨#[]⟩,.string ⟨#[]⟩,.string ⟨#[]⟩,.string ⟨#[]⟩,.string ⟨#[]⟩,.string ⟨#[]⟩,.string ⟨#[]⟩,.string ⟨#[]⟩,.string ⟨#[]⟩] 59∧Blk W (w2.heap.size) #[.int .i64 (norm4 t)] 3) ⟨(HX2.out.alloc _),(HB1_2.out.alloc _),(Blk.new' (w:=_) (cs:=#[.int .i64 (norm4 t)]) (t:=3) (by first | rfl | (simp only [World.size_alloc];done) | (simp only [World.size_alloc];omega) | simp))⟩ ?_
  rintro w3 ⟨e3,bB1_3,bB2_3⟩
  have HX3:=Lib.hid e3;have HB1_3:=Lib.hid bB1_3;have HB2_3:=Lib.hid bB2_3
  have HGEB2:Hid (w.heap.size ≤ w2.heap.size):=Lib.hid (by have:=HX2.out.size;first | omega | (simp only [];omega) | (simp;omega))
  clear e3 bB1_3 bB2_3
  go_wp2_with fail
  refine ((rrow_c (t.w * t.w + t.x * t.x - t.y * t.y - t.z * t.z) (2 * (t.x * t.y - t.w * t.z)) (2 * (t.x * t.z + t.w * t.y)) (norm4 t) (w2.heap.size) _ (HG.out.ext HX3.out) HB2_3.out HR1.out.1 HR1.out.2.1 HR1.out.2.2 HNN.out:Calls _ _ _ _ (Ret _ (.agg #[.string (qs (row1 t).x),.string (qs (row1 t).y),.string (qs (row1 t).z)])))).mono ?_;rintro e w4 ⟨rfl,e4⟩
  have HX4:Hid (Ext w w4):=Lib.hid (HX3.out.trans e4)
  have HB1_4:=Lib.hid (Blk.ext HB1_3.out e4)
  have HB2_4:=Lib.hid (Blk.ext HB2_3.out e4)
  clear e4
  go_wp2_with fail
  refine ((rrow_c (2 * (t.x * t.y + t.w * t.z)) (t.w * t.w - t.x * t.x + t.y * t.y - t.z * t.z) (2 * (t.y * t.z - t.w * t.x)) (norm4 t) (w2.heap.size) _ (HG.out.ext HX4.out) HB2_4.out HR2.out.1 HR2.out.2.1 HR2.out.2.2 HNN.out:Calls _ _ _ _ (Ret _ (.agg #[.string (qs (row2 t).x),.string (qs (row2 t).y),.string (qs (row2 t).z)])))).mono ?_;rintro e w5 ⟨rfl,e5⟩
  have HX5:Hid (Ext w w5):=Lib.hid (HX4.out.trans e5)
  have HB1_5:=Lib.hid (Blk.ext HB1_4.out e5)
  have HB2_5:=Lib.hid (Blk.ext HB2_4.out e5)
  clear e5
  go_wp2_with fail
  refine ((rrow_c (2 * (t.x * t.z - t.w * t.y)) (2 * (t.y * t.z + t.w * t.x)) (t.w * t.w - t.x * t.x - t.y * t.y + t.z * t.z) (norm4 t) (w2.heap.size) _ (HG.out.ext HX5.out) HB2_5.out HR3.out.1 HR3.out.2.1 HR3.out.2.2 HNN.out:Calls _ _ _ _ (Ret _ (.agg #[.string (qs (row3 t).x),.string (qs (row3 t).y),.string (qs (row3 t).z)])))).mono ?_;rintro e w6 ⟨rfl,e6⟩
  have HX6:Hid (Ext w w6):=Lib.hid (HX5.out.trans e6)
  have HB1_6:=Lib.hid (Blk.ext HB1_5.out e6)
  have HB2_6:=Lib.hid (Blk.ext HB2_5.out e6)
  clear e6
  have c1_0:=HB1_6.out.cell 0 rfl
  have f1_0:=HB1_6.out.free 0
  have c1_1:=HB1_6.out.cell 1 rfl
  have f1_1:=HB1_6.out.free 1
  have c1_2:=HB1_6.out.cell 2 rfl
  have f1_2:=HB1_6.out.free 2
  have c1_3:=HB1_6.out.cell 3 rfl
  have f1_3:=HB1_6.out.free 3
  have c1_4:=HB1_6.out.cell 4 rfl
  have f1_4:=HB1_6.out.free 4
  have c1_5:=HB1_6.out.cell 5 rfl
  have f1_5:=HB1_6.out.free 5
  have c1_6:=HB1_6.out.cell 6 rfl
  have f1_6:=HB1_6.out.free 6
  have c1_7:=HB1_6.out.cell 7 rfl
  have f1_7:=HB1_6.out.free 7
  have c1_8:=HB1_6.out.cell 8 rfl
  have f1_8:=HB1_6.out.free 8
  go_wp2_with fail
  refine wp_name (fun W => Ext w W∧Blk W (w.heap.size + 1) #[.string (qs ((row1 t).x)),.string (qs ((row1 t).y)),.string (qs ((row1 t).z)),.string (qs ((row2 t).x)),.string (qs ((row2 t).y)),.string (qs ((row2 t).z)),.string (qs ((row3 t).x)),.string (qs ((row3 t).y)),.string (qs ((row3 t).z))] 59) ⟨(((((((((HX6.out.setCell (by have:=HGEB1.out;first | omega | (simp only [];omega) | (simp;omega)) _).setCell (by have:=HGEB1.out;first | omega | (simp only [];omega) | (simp;omega)) _).setCell (by have:=HGEB1.out;first | omega | (simp only [];omega) | (simp;omega)) _).setCell (by have:=HGEB1.out;first | omega | (simp only [];omega) | (simp;omega)) _).setCell (by have:=HGEB1.out;first | omega | (simp only [];omega) | (simp;omega)) _).setCell (by have:=HGEB1.out;first | omega | (simp only [];omega) | (simp;omega)) _).setCell (by have:=HGEB1.out;first | omega | (simp only [];omega) | (simp;omega)) _).setCell (by have:=HGEB1.out;first | omega | (simp only [];omega) | (simp;omega)) _).setCell (by have:=HGEB1.out;first | omega | (simp only [];omega) | (simp;omega)) _),(((((((((HB1_6.out.set 0 (.string (qs ((row1 t).x)))).set 1 (.string (qs ((row1 t).y)))).set 2 (.string (qs ((row1 t).z)))).set 3 (.string (qs ((row2 t).x)))).set 4 (.string (qs ((row2 t).y)))).set 5 (.string (qs ((row2 t).z)))).set 6 (.string (qs ((row3 t).x)))).set 7 (.string (qs ((row3 t).y)))).set 8 (.string (qs ((row3 t).z))))⟩ ?_
  rintro w7 ⟨e7,bB1_7⟩
  have HX7:=Lib.hid e7;have HB1_7:=Lib.hid bB1_7
  clear e7 bB1_7 c1_0 f1_0 c1_1 f1_1 c1_2 f1_2 c1_3 f1_3 c1_4 f1_4 c1_5 f1_5 c1_6 f1_6 c1_7 f1_7 c1_8 f1_8
  have gB1_0:=HB1_7.out.cell 0 rfl
  have gB1_1:=HB1_7.out.cell 1 rfl
  have gB1_2:=HB1_7.out.cell 2 rfl
  have gB1_3:=HB1_7.out.cell 3 rfl
  have gB1_4:=HB1_7.out.cell 4 rfl
  have gB1_5:=HB1_7.out.cell 5 rfl
  have gB1_6:=HB1_7.out.cell 6 rfl
  have gB1_7:=HB1_7.out.cell 7 rfl
  have gB1_8:=HB1_7.out.cell 8 rfl
  refine bodyPost_ret (v:=.agg #[.string (qs ((row1 t).x)),.string (qs ((row1 t).y)),.string (qs ((row1 t).z)),.string (qs ((row2 t).x)),.string (qs ((row2 t).y)),.string (qs ((row2 t).z)),.string (qs ((row3 t).x)),.string (qs ((row3 t).y)),.string (qs ((row3 t).z))]) (by simp [results,Tryz.results60,go_sem,gB1_0,gB1_1,gB1_2,gB1_3,gB1_4,gB1_5,gB1_6,gB1_7,gB1_8]) rfl ⟨rfl,HX7.out⟩
end Go.Proofs.YtjeimihnoiephaaGreatDoor

namespace Go.Proofs.YtjeimihnoiephaaGreatDoor
open Go Go.RowKit
set_option linter.unusedVariables false
theorem norm4_le {t:Q4} (h:Q4In t):norm4 t ≤ 4000000000000:=by
  unfold norm4
  have a:=mul_bd h.w h.w;have b:=mul_bd h.x h.x;have c:=mul_bd h.y h.y;have d:=mul_bd h.z h.z
  omega
theorem rows_qb {t:Q4} (h:Q4In t) (hz:¬ t.zero):VB 13 (row1 t)∧VB 13 (row2 t)∧VB 13 (row3 t):=by
  have hp:=norm4_pos hz
  have hn:=norm4_le h
  have e:∀ n:Int,-8000000000000 ≤ n → n ≤ 8000000000000 → QB 13 (fr n (norm4 t)):=fun n h1 h2 => qb_fr hp (by omega) (by omega)
  have p:∀ {a b:Int},(-1000000 ≤ a∧a ≤ 1000000) → (-1000000 ≤ b∧b ≤ 1000000) → -1000000000000 ≤ a * b∧a * b ≤ 1000000000000:=fun ha hb => mul_bd ha hb
  have ww:=p h.w h.w;have xx:=p h.x h.x;have yy:=p h.y h.y;have zz:=p h.z h.z
  have xy:=p h.x h.y;have wz:=p h.w h.z;have xz:=p h.x h.z;have wy:=p h.w h.y;have yz:=p h.y h.z;have wx:=p h.w h.x
  exact ⟨⟨e _ (by omega) (by omega),e _ (by omega) (by omega),e _ (by omega) (by omega)⟩,⟨e _ (by omega) (by omega),e _ (by omega) (by omega),e _ (by omega) (by omega)⟩,⟨e _ (by omega) (by omega),e _ (by omega) (by omega),e _ (by omega) (by omega)⟩⟩
theorem dot3_qb {a b:V3} {k m:Nat} (ha:VB k a) (hb:VB m b):QB (3 * (k + m) + 4) (dot3 a b):=(((ha.x.mul hb.x).add (ha.y.mul hb.y)).add (ha.z.mul hb.z)).mono (by omega)
theorem rot_qb {t:Q4} {v:V3} {k:Nat} (h:Q4In t) (hz:¬ t.zero) (hv:VB k v):VB (3 * (13 + k) + 4) (rot t v):=by
  have hr:=rows_qb h hz
  exact ⟨dot3_qb hr.1 hv,dot3_qb hr.2.1 hv,dot3_qb hr.2.2 hv⟩

set_option maxRecDepth 100000 in
set_option maxHeartbeats 2000000 in
theorem rdot_c (a b:V3) {k m:Nat} (w:World) (g:Gd w) (ha:VB k a) (hb:VB m b) (hk:k ≤ 200) (hm:m ≤ 200):Calls Tryz.prog 120 #[.agg #[.string (qs a.x),.string (qs a.y),.string (qs a.z)],.agg #[.string (qs b.x),.string (qs b.y),.string (qs b.z)]] w (Ret w (.string (qs (a.x * b.x + a.y * b.y + a.z * b.z)))):=by
  have HA:=Lib.hid ha
  have HB:=Lib.hid hb
  have HG:=Lib.hid g
  clear ha hb g
  go_enter Tryz.func120,Tryz.ntmps120
  go_wp2_with fail
  refine wp_name (fun W => Ext w W∧Blk W (w.heap.size) #[.string (qs a.x),.string (qs a.y),.string (qs a.z)] 31∧Blk W (w.heap.size + 1) #[.string (qs b.x),.string (qs b.y),.string (qs b.z)] 31) ⟨(((Ext.refl w).alloc _).alloc _),((Blk.new' (w:=_) (cs:=#[.string (qs a.x),.string (qs a.y),.string (qs a.z)]) (t:=31) (by first | rfl | (simp only [World.size_alloc];done) | (simp only [World.size_alloc];omega) | simp)).alloc _),(Blk.new' (w:=_) (cs:=#[.string (qs b.x),.string (qs b.y),.string (qs b.z)]) (t:=31) (by first | rfl | (simp only [World.size_alloc];done) | (simp only [World.size_alloc];omega) | simp))⟩ ?_
  rintro w1 ⟨e1,bB0_1,bB1_1⟩
  have HX1:=Lib.hid e1;have HB0_1:=Lib.hid bB0_1;have HB1_1:=Lib.hid bB1_1
  have HGEB0:Hid (w.heap.size ≤ w.heap.size):=Lib.hid (by first | omega | (simp only [];omega) | (simp;omega))
  have HGEB1:Hid (w.heap.size ≤ w.heap.size + 1):=Lib.hid (by first | omega | (simp only [];omega) | (simp;omega))
  clear e1 bB0_1 bB1_1
  refine region_lin [.val (.pointer (some ⟨w.heap.size,0,none⟩)),.val (.string (qs a.x)),.val (.pointer (some ⟨w.heap.size + 1,0,none⟩)),.val (.string (qs b.x)),.val (.string (qs (a.x * b.x))),.val (.pointer (some ⟨w.heap.size,1,none⟩)),.val (.string (qs a.y)),.val (.pointer (some ⟨w.heap.size + 1,1,none⟩)),.val (.string (qs b.y)),.val (.string (qs (a.y * b.y))),.val (.pointer (some ⟨w.heap.size,2,none⟩)),.val (.string (qs a.z)),.val (.pointer (some ⟨w.heap.size + 1,2,none⟩)),.val (.string (qs b.z)),.val (.string (qs (a.z * b.z))),.mem (fun b_ => .slice (some ⟨b_,0,none⟩) 3 3) #[.string (qs (a.x * b.x)),.string (qs (a.y * b.y)),.string (qs (a.z * b.z))] 29 Option.none,.val (.string (qs (a.x * b.x + a.y * b.y + a.z * b.z))),.val (.string (qs (a.x * b.x + a.y * b.y + a.z * b.z)))] (by kernel_rfl) (by kernel_rfl) (by kernel_rfl) ?_ (fun g1 w2 hx_ hm_ hne_ => ?_)
  · skip
    refine RnL.cons (fun g1 A_ W_ hs_ => ?_) ?_
    · have q2_:=(hs_.old 2 (by kernel_rfl):A_.tmps[2]?.getD undef = .pointer (some ⟨w.heap.size,0,none⟩))
      refine Rn.val fun K_ hK_ => ?_
      go_simp
      exact hK_.out _ (Ext.refl _)
    refine RnL.cons (fun g1 A_ W_ hs_ => ?_) ?_
    · have q5_:=hs_.val 0 rfl rfl rfl
      have cB0_0:=((HB0_1.out.drew.ext hs_.1)).cell 0 rfl
      refine Rn.val fun K_ hK_ => ?_
      go_simp
      exact hK_.out _ (Ext.refl _)
    refine RnL.cons (fun g1 A_ W_ hs_ => ?_) ?_
    · have q3_:=(hs_.old 3 (by kernel_rfl):A_.tmps[3]?.getD undef = .pointer (some ⟨w.heap.size + 1,0,none⟩))
      refine Rn.val fun K_ hK_ => ?_
      go_simp
      exact hK_.out _ (Ext.refl _)
    refine RnL.cons (fun g1 A_ W_ hs_ => ?_) ?_
    · have q7_:=hs_.val 2 rfl rfl rfl
      have cB1_0:=((HB1_1.out.drew.ext hs_.1)).cell 0 rfl
      refine Rn.val fun K_ hK_ => ?_
      go_simp
      exact hK_.out _ (Ext.refl _)
    refine RnL.cons (fun g1 A_ W_ hs_ => ?_) ?_
    · have q6_:=hs_.val 1 rfl rfl rfl
      have q8_:=hs_.val 3 rfl rfl rfl
      refine Rn.val fun K_ hK_ => ?_
      go_simp
      refine (rmul_c a.x b.x _ (HG.out.ext (HX1.out.drew.trans hs_.1)) HA.out.x HB.out.x (by omega) (by omega)).mono ?_;rintro e W9_ ⟨rfl,e9_⟩;exact hK_.out _ e9_
    refine RnL.cons (fun g1 A_ W_ hs_ => ?_) ?_
    · have q2_:=(hs_.old 2 (by kernel_rfl):A_.tmps[2]?.getD undef = .pointer (some ⟨w.heap.size,0,none⟩))
      refine Rn.val fun K_ hK_ => ?_
      go_simp
      exact hK_.out _ (Ext.refl _)
    refine RnL.cons (fun g1 A_ W_ hs_ => ?_) ?_
    · have q10_:=hs_.val 5 rfl rfl rfl
      have cB0_1:=((HB0_1.out.drew.ext hs_.1)).cell 1 rfl
      refine Rn.val fun K_ hK_ => ?_
      go_simp
      exact hK_.out _ (Ext.refl _)
    refine RnL.cons (fun g1 A_ W_ hs_ => ?_) ?_
    · have q3_:=(hs_.old 3 (by kernel_rfl):A_.tmps[3]?.getD undef = .pointer (some ⟨w.heap.size + 1,0,none⟩))
      refine Rn.val fun K_ hK_ => ?_
      go_simp
      exact hK_.out _ (Ext.refl _)
    refine RnL.cons (fun g1 A_ W_ hs_ => ?_) ?_
    · have q12_:=hs_.val 7 rfl rfl rfl
      have cB1_1:=((HB1_1.out.drew.ext hs_.1)).cell 1 rfl
      refine Rn.val fun K_ hK_ => ?_
      go_simp
      exact hK_.out _ (Ext.refl _)
    refine RnL.cons (fun g1 A_ W_ hs_ => ?_) ?_
    · have q11_:=hs_.val 6 rfl rfl rfl
      have q13_:=hs_.val 8 rfl rfl rfl
      refine Rn.val fun K_ hK_ => ?_
      go_simp
      refine (rmul_c a.y b.y _ (HG.out.ext (HX1.out.drew.trans hs_.1)) HA.out.y HB.out.y (by omega) (by omega)).mono ?_;rintro e W9_ ⟨rfl,e9_⟩;exact hK_.out _ e9_
    refine RnL.cons (fun g1 A_ W_ hs_ => ?_) ?_
    · have q2_:=(hs_.old 2 (by kernel_rfl):A_.tmps[2]?.getD undef = .pointer (some ⟨w.heap.size,0,none⟩))
      refine Rn.val fun K_ hK_ => ?_
      go_simp
      exact hK_.out _ (Ext.refl _)
    refine RnL.cons (fun g1 A_ W_ hs_ => ?_) ?_
    · have q15_:=hs_.val 10 rfl rfl rfl
      have cB0_2:=((HB0_1.out.drew.ext hs_.1)).cell 2 rfl
      refine Rn.val fun K_ hK_ => ?_
      go_simp
      exact hK_.out _ (Ext.refl _)
    refine RnL.cons (fun g1 A_ W_ hs_ => ?_) ?_
    · have q3_:=(hs_.old 3 (by kernel_rfl):A_.tmps[3]?.getD undef = .pointer (some ⟨w.heap.size + 1,0,none⟩))
      refine Rn.val fun K_ hK_ => ?_
      go_simp
      exact hK_.out _ (Ext.refl _)
    refine RnL.cons (fun g1 A_ W_ hs_ => ?_) ?_
    · have q17_:=hs_.val 12 rfl rfl rfl
      have cB1_2:=((HB1_1.out.drew.ext hs_.1)).cell 2 rfl
      refine Rn.val fun K_ hK_ => ?_
      go_simp
      exact hK_.out _ (Ext.refl _)
    refine RnL.cons (fun g1 A_ W_ hs_ => ?_) ?_
    · have q16_:=hs_.val 11 rfl rfl rfl
      have q18_:=hs_.val 13 rfl rfl rfl
      refine Rn.val fun K_ hK_ => ?_
      go_simp
      refine (rmul_c a.z b.z _ (HG.out.ext (HX1.out.drew.trans hs_.1)) HA.out.z HB.out.z (by omega) (by omega)).mono ?_;rintro e W9_ ⟨rfl,e9_⟩;exact hK_.out _ e9_
    refine RnL.cons (fun g1 A_ W_ hs_ => ?_) ?_
    · have q9_:=hs_.val 4 rfl rfl rfl
      have q14_:=hs_.val 9 rfl rfl rfl
      have q19_:=hs_.val 14 rfl rfl rfl
      refine Rn.mem fun K_ hK_ => ?_
      go_simp
      exact hK_.out
    refine RnL.cons (fun g1 A_ W_ hs_ => ?_) ?_
    · have q20_:=(hs_.mem 15 rfl rfl rfl).1
      refine Rn.val fun K_ hK_ => ?_
      go_simp
      refine (sum3_c (a.x * b.x) (a.y * b.y) (a.z * b.z) (g1 15) _ (HG.out.ext (HX1.out.drew.trans hs_.1)) (HA.out.x.mul HB.out.x) (HA.out.y.mul HB.out.y) (HA.out.z.mul HB.out.z) ((hs_.mem 15 rfl rfl rfl).2.2 rfl) (by omega)).mono ?_;rintro e W9_ ⟨rfl,e9_⟩;exact hK_.out _ e9_
    refine RnL.cons (fun g1 A_ W_ hs_ => ?_) ?_
    · have q21_:=hs_.val 16 rfl rfl rfl
      refine Rn.val fun K_ hK_ => ?_
      go_simp
      exact hK_.out _ (Ext.refl _)
    exact RnL.nil
  simp only [fs,Kd.value,puts,Act.put,List.setIfInBounds_toArray,List.set_cons_zero,List.set_cons_succ,Nat.reduceAdd]
  have HX2:Hid (Ext w w2):=Lib.hid (HX1.out.drew.trans hx_)
  have HB2_2:Hid (Blk w2 (g1 15) #[.string (qs (a.x * b.x)),.string (qs (a.y * b.y)),.string (qs (a.z * b.z))] 29):=Lib.hid (hm_ 15 _ _ _ _ rfl).2;have HGEB2:Hid (w.heap.size ≤ g1 15):=Lib.hid (Nat.le_trans HX1.out.size (hm_ 15 _ _ _ _ rfl).1)
  clear hx_ hm_ hne_
  generalize g1 15 = i2 at *
  clear g1
  go_wp2
  go_ret
  exact ⟨rfl,HX2.out⟩

set_option maxRecDepth 100000 in
set_option maxHeartbeats 4000000 in
theorem rturned_c (t:Q4) (v:V3) {k:Nat} (w:World) (g:Gd w) (hi:Q4In t) (hz:¬ t.zero) (hv:VB k v) (hk:k ≤ 40):Calls Tryz.prog 63 #[.agg #[.int .i64 t.w,.int .i64 t.x,.int .i64 t.y,.int .i64 t.z],.agg #[.string (qs v.x),.string (qs v.y),.string (qs v.z)]] w (Ret w (.agg #[.string (qs ((rot t v).x)),.string (qs ((rot t v).y)),.string (qs ((rot t v).z))])):=by
  have HI:=Lib.hid hi
  have HZ:=Lib.hid hz
  have HV:=Lib.hid hv
  have HG:=Lib.hid g
  clear hi hz hv g
  have HQ1:=Lib.hid (rows_qb HI.out HZ.out).1;have HQ2:=Lib.hid (rows_qb HI.out HZ.out).2.1;have HQ3:=Lib.hid (rows_qb HI.out HZ.out).2.2
  go_enter Tryz.func63,Tryz.ntmps63
  go_wp2_with fail
  refine (rrows_c t _ (HG.out.ext ((((Ext.refl w).alloc _).alloc _).alloc _)) HI.out HZ.out).mono ?_;rintro e w1 ⟨rfl,e1⟩
  have HX1:Hid (Ext w w1):=Lib.hid (((((Ext.refl w).alloc _).alloc _).alloc _).trans e1)
  have HB1_1:Hid (Blk w1 (w.heap.size + 1) #[.string (qs v.x),.string (qs v.y),.string (qs v.z)] 31):=Lib.hid (Blk.ext ((Blk.new' (w:=_) (cs:=#[.string (qs v.x),.string (qs v.y),.string (qs v.z)]) (t:=31) (by first | rfl | (simp only [World.size_alloc];done) | (simp only [World.size_alloc];omega) | simp)).alloc _) e1)
  have HB2_1:Hid (Blk w1 (w.heap.size + 1 + 1) #[.string ⟨#[]⟩,.string ⟨#[]⟩,.string ⟨#[]⟩] 31):=Lib.hid (Blk.ext (Blk.new' (w:=_) (cs:=#[.string ⟨#[]⟩,.string ⟨#[]⟩,.string ⟨#[]⟩]) (t:=31) (by first | rfl | (simp only [World.size_alloc];done) | (simp only [World.size_alloc];omega) | simp)) e1)
  have HGEB1:Hid (w.heap.size ≤ w.heap.size + 1):=Lib.hid (by first | omega | (simp only [];omega) | (simp;omega))
  have HGEB2:Hid (w.heap.size ≤ w.heap.size + 1 + 1):=Lib.hid (by first | omega | (simp only [];omega) | (simp;omega))
  clear e1
  go_wp2_with fail
  refine wp_name (fun W => Ext w W∧Blk W (w.heap.size + 1) #[.string (qs v.x),.string (qs v.y),.string (qs v.z)] 31∧Blk W (w.heap.size + 1 + 1) #[.string ⟨#[]⟩,.string ⟨#[]⟩,.string ⟨#[]⟩] 31∧Blk W (w1.heap.size) #[.string (qs ((row1 t).x)),.string (qs ((row1 t).y)),.string (qs ((row1 t).z)),.string (qs ((row2 t).x)),.string (qs ((row2 t).y)),.string (qs ((row2 t).z)),.string (qs ((row3 t).x)),.string (qs ((row3 t).y)),.string (qs ((row3 t).z))] 59) ⟨(HX1.out.alloc _),(HB1_1.out.alloc _),(HB2_1.out.alloc _),(Blk.new' (w:=_) (cs:=#[.string (qs ((row1 t).x)),.string (qs ((row1 t).y)),.string (qs ((row1 t).z)),.string (qs ((row2 t).x)),.string (qs ((row2 t).y)),.string (qs ((row2 t).z)),.string (qs ((row3 t).x)),.string (qs ((row3 t).y)),.string (qs ((row3 t).z))]) (t:=59) (by first | rfl | (simp only [World.size_alloc];done) | (simp only [World.size_alloc];omega) | simp))⟩ ?_
  rintro w2 ⟨e2,bB1_2,bB2_2,bB3_2⟩
  have HX2:=Lib.hid e2;have HB1_2:=Lib.hid bB1_2;have HB2_2:=Lib.hid bB2_2;have HB3_2:=Lib.hid bB3_2
  have HGEB3:Hid (w.heap.size ≤ w1.heap.size):=Lib.hid (by have:=HX1.out.size;first | omega | (simp only [];omega) | (simp;omega))
  clear e2 bB1_2 bB2_2 bB3_2
  refine region_lin_s (X:=w) [⟨w.heap.size + 1 + 1,#[.string ⟨#[]⟩,.string ⟨#[]⟩,.string ⟨#[]⟩],#[.string (qs ((rot t v).x)),.string (qs ((rot t v).y)),.string (qs ((rot t v).z))],31⟩] [.val (.pointer (some ⟨w1.heap.size,0,none⟩)),.val (.agg #[.string (qs ((row1 t).x)),.string (qs ((row1 t).y)),.string (qs ((row1 t).z))]),.val (.agg #[.string (qs v.x),.string (qs v.y),.string (qs v.z)]),.val (.string (qs ((rot t v).x))),.val (.pointer (some ⟨w1.heap.size,3,none⟩)),.val (.agg #[.string (qs ((row2 t).x)),.string (qs ((row2 t).y)),.string (qs ((row2 t).z))]),.val (.agg #[.string (qs v.x),.string (qs v.y),.string (qs v.z)]),.val (.string (qs ((rot t v).y))),.val (.pointer (some ⟨w1.heap.size,6,none⟩)),.val (.agg #[.string (qs ((row3 t).x)),.string (qs ((row3 t).y)),.string (qs ((row3 t).z))]),.val (.agg #[.string (qs v.x),.string (qs v.y),.string (qs v.z)]),.val (.string (qs ((rot t v).z))),.val (.agg #[.string (qs ((rot t v).x)),.string (qs ((rot t v).y)),.string (qs ((rot t v).z))]),.st 0] (by kernel_rfl) (by kernel_rfl) (by kernel_rfl) HX2.out.drew (List.forall_mem_cons.2 ⟨⟨HGEB2.out,HB2_2.out.drew⟩,(fun _ h => by cases h)⟩) dis1 ?_ (fun g2 w3 hx_ hk_ hb_ hm_ hne_ => ?_)
  · skip
    refine RnL.cons (fun g2 A_ W_ hs_ => ?_) ?_
    · have q5_:=(hs_.old 5 (by kernel_rfl):A_.tmps[5]?.getD undef = .pointer (some ⟨w1.heap.size,0,none⟩))
      refine Rn.val fun K_ hK_ => ?_
      go_simp
      exact hK_.out _ (Ext.refl _)
    refine RnL.cons (fun g2 A_ W_ hs_ => ?_) ?_
    · have q8_:=hs_.val 0 rfl rfl rfl
      have cB3_0:=((hs_.keep (fm2 (show w.heap.size + 1 + 1 ≠ w1.heap.size from by have:=HB2_1.out.lt;first | omega | (simp only [];omega) | (simp;omega)) fm0) HB3_2.out.drew)).cell 0 rfl
      have cB3_1:=((hs_.keep (fm2 (show w.heap.size + 1 + 1 ≠ w1.heap.size from by have:=HB2_1.out.lt;first | omega | (simp only [];omega) | (simp;omega)) fm0) HB3_2.out.drew)).cell 1 rfl
      have cB3_2:=((hs_.keep (fm2 (show w.heap.size + 1 + 1 ≠ w1.heap.size from by have:=HB2_1.out.lt;first | omega | (simp only [];omega) | (simp;omega)) fm0) HB3_2.out.drew)).cell 2 rfl
      refine Rn.val fun K_ hK_ => ?_
      go_simp
      exact hK_.out _ (Ext.refl _)
    refine RnL.cons (fun g2 A_ W_ hs_ => ?_) ?_
    · have q3_:=(hs_.old 3 (by kernel_rfl):A_.tmps[3]?.getD undef = .pointer (some ⟨w.heap.size + 1,0,none⟩))
      have cB1_0:=((hs_.keep (fm2 (show w.heap.size + 1 + 1 ≠ w.heap.size + 1 from by first | omega | (simp only [];omega) | (simp;omega)) fm0) HB1_2.out.drew)).cell 0 rfl
      have cB1_1:=((hs_.keep (fm2 (show w.heap.size + 1 + 1 ≠ w.heap.size + 1 from by first | omega | (simp only [];omega) | (simp;omega)) fm0) HB1_2.out.drew)).cell 1 rfl
      have cB1_2:=((hs_.keep (fm2 (show w.heap.size + 1 + 1 ≠ w.heap.size + 1 from by first | omega | (simp only [];omega) | (simp;omega)) fm0) HB1_2.out.drew)).cell 2 rfl
      refine Rn.val fun K_ hK_ => ?_
      go_simp
      exact hK_.out _ (Ext.refl _)
    refine RnL.cons (fun g2 A_ W_ hs_ => ?_) ?_
    · have q9_:=hs_.val 1 rfl rfl rfl
      have q10_:=hs_.val 2 rfl rfl rfl
      refine Rn.val fun K_ hK_ => ?_
      go_simp
      refine ((rdot_c (row1 t) v _ (HG.out.ext hs_.1) HQ1.out HV.out (by omega) (by omega):Calls _ _ _ _ (Ret _ (.string (qs (rot t v).x))))).mono ?_;rintro e W9_ ⟨rfl,e9_⟩;exact hK_.out _ e9_
    refine RnL.cons (fun g2 A_ W_ hs_ => ?_) ?_
    · have q5_:=(hs_.old 5 (by kernel_rfl):A_.tmps[5]?.getD undef = .pointer (some ⟨w1.heap.size,0,none⟩))
      refine Rn.val fun K_ hK_ => ?_
      go_simp
      exact hK_.out _ (Ext.refl _)
    refine RnL.cons (fun g2 A_ W_ hs_ => ?_) ?_
    · have q12_:=hs_.val 4 rfl rfl rfl
      have cB3_3:=((hs_.keep (fm2 (show w.heap.size + 1 + 1 ≠ w1.heap.size from by have:=HB2_1.out.lt;first | omega | (simp only [];omega) | (simp;omega)) fm0) HB3_2.out.drew)).cell 3 rfl
      have cB3_4:=((hs_.keep (fm2 (show w.heap.size + 1 + 1 ≠ w1.heap.size from by have:=HB2_1.out.lt;first | omega | (simp only [];omega) | (simp;omega)) fm0) HB3_2.out.drew)).cell 4 rfl
      have cB3_5:=((hs_.keep (fm2 (show w.heap.size + 1 + 1 ≠ w1.heap.size from by have:=HB2_1.out.lt;first | omega | (simp only [];omega) | (simp;omega)) fm0) HB3_2.out.drew)).cell 5 rfl
      refine Rn.val fun K_ hK_ => ?_
      go_simp
      exact hK_.out _ (Ext.refl _)
    refine RnL.cons (fun g2 A_ W_ hs_ => ?_) ?_
    · have q3_:=(hs_.old 3 (by kernel_rfl):A_.tmps[3]?.getD undef = .pointer (some ⟨w.heap.size + 1,0,none⟩))
      have cB1_0:=((hs_.keep (fm2 (show w.heap.size + 1 + 1 ≠ w.heap.size + 1 from by first | omega | (simp only [];omega) | (simp;omega)) fm0) HB1_2.out.drew)).cell 0 rfl
      have cB1_1:=((hs_.keep (fm2 (show w.heap.size + 1 + 1 ≠ w.heap.size + 1 from by first | omega | (simp only [];omega) | (simp;omega)) fm0) HB1_2.out.drew)).cell 1 rfl
      have cB1_2:=((hs_.keep (fm2 (show w.heap.size + 1 + 1 ≠ w.heap.size + 1 from by first | omega | (simp only [];omega) | (simp;omega)) fm0) HB1_2.out.drew)).cell 2 rfl
      refine Rn.val fun K_ hK_ => ?_
      go_simp
      exact hK_.out _ (Ext.refl _)
    refine RnL.cons (fun g2 A_ W_ hs_ => ?_) ?_
    · have q13_:=hs_.val 5 rfl rfl rfl
      have q14_:=hs_.val 6 rfl rfl rfl
      refine Rn.val fun K_ hK_ => ?_
      go_simp
      refine ((rdot_c (row2 t) v _ (HG.out.ext hs_.1) HQ2.out HV.out (by omega) (by omega):Calls _ _ _ _ (Ret _ (.string (qs (rot t v).y))))).mono ?_;rintro e W9_ ⟨rfl,e9_⟩;exact hK_.out _ e9_
    refine RnL.cons (fun g2 A_ W_ hs_ => ?_) ?_
    · have q5_:=(hs_.old 5 (by kernel_rfl):A_.tmps[5]?.getD undef = .pointer (some ⟨w1.heap.size,0,none⟩))
      refine Rn.val fun K_ hK_ => ?_
      go_simp
      exact hK_.out _ (Ext.refl _)
    refine RnL.cons (fun g2 A_ W_ hs_ => ?_) ?_
    · have q16_:=hs_.val 8 rfl rfl rfl
      have cB3_6:=((hs_.keep (fm2 (show w.heap.size + 1 + 1 ≠ w1.heap.size from by have:=HB2_1.out.lt;first | omega | (simp only [];omega) | (simp;omega)) fm0) HB3_2.out.drew)).cell 6 rfl
      have cB3_7:=((hs_.keep (fm2 (show w.heap.size + 1 + 1 ≠ w1.heap.size from by have:=HB2_1.out.lt;first | omega | (simp only [];omega) | (simp;omega)) fm0) HB3_2.out.drew)).cell 7 rfl
      have cB3_8:=((hs_.keep (fm2 (show w.heap.size + 1 + 1 ≠ w1.heap.size from by have:=HB2_1.out.lt;first | omega | (simp only [];omega) | (simp;omega)) fm0) HB3_2.out.drew)).cell 8 rfl
      refine Rn.val fun K_ hK_ => ?_
      go_simp
      exact hK_.out _ (Ext.refl _)
    refine RnL.cons (fun g2 A_ W_ hs_ => ?_) ?_
    · have q3_:=(hs_.old 3 (by kernel_rfl):A_.tmps[3]?.getD undef = .pointer (some ⟨w.heap.size + 1,0,none⟩))
      have cB1_0:=((hs_.keep (fm2 (show w.heap.size + 1 + 1 ≠ w.heap.size + 1 from by first | omega | (simp only [];omega) | (simp;omega)) fm0) HB1_2.out.drew)).cell 0 rfl
      have cB1_1:=((hs_.keep (fm2 (show w.heap.size + 1 + 1 ≠ w.heap.size + 1 from by first | omega | (simp only [];omega) | (simp;omega)) fm0) HB1_2.out.drew)).cell 1 rfl
      have cB1_2:=((hs_.keep (fm2 (show w.heap.size + 1 + 1 ≠ w.heap.size + 1 from by first | omega | (simp only [];omega) | (simp;omega)) fm0) HB1_2.out.drew)).cell 2 rfl
      refine Rn.val fun K_ hK_ => ?_
      go_simp
      exact hK_.out _ (Ext.refl _)
    refine RnL.cons (fun g2 A_ W_ hs_ => ?_) ?_
    · have q17_:=hs_.val 9 rfl rfl rfl
      have q18_:=hs_.val 10 rfl rfl rfl
      refine Rn.val fun K_ hK_ => ?_
      go_simp
      refine ((rdot_c (row3 t) v _ (HG.out.ext hs_.1) HQ3.out HV.out (by omega) (by omega):Calls _ _ _ _ (Ret _ (.string (qs (rot t v).z))))).mono ?_;rintro e W9_ ⟨rfl,e9_⟩;exact hK_.out _ e9_
    refine RnL.cons (fun g2 A_ W_ hs_ => ?_) ?_
    · have q11_:=hs_.val 3 rfl rfl rfl
      have q15_:=hs_.val 7 rfl rfl rfl
      have q19_:=hs_.val 11 rfl rfl rfl
      refine Rn.val fun K_ hK_ => ?_
      go_simp
      exact hK_.out _ (Ext.refl _)
    refine RnL.cons (fun g2 A_ W_ hs_ => ?_) ?_
    · have q4_:=(hs_.old 4 (by kernel_rfl):A_.tmps[4]?.getD undef = .pointer (some ⟨w.heap.size + 1 + 1,0,none⟩))
      have q20_:=hs_.val 12 rfl rfl rfl
      refine Rn.st (n:=0) rfl fun hB0 K_ hK_ => ?_
      have hB:Blk W_ (w.heap.size + 1 + 1) #[.string ⟨#[]⟩,.string ⟨#[]⟩,.string ⟨#[]⟩] 31:=hB0;clear hB0
      have c_0:=hB.cell 0 rfl;have f_0:=hB.free 0
      have c_1:=hB.cell 1 rfl;have f_1:=hB.free 1
      have c_2:=hB.cell 2 rfl;have f_2:=hB.free 2
      have HB:=Lib.hid hB;clear hB
      go_simp
      exact hK_.out _ ((((Only.refl _ _).set 0 _).set 1 _).set 2 _) (((HB.out.set 0 _).set 1 _).set 2 _)
    exact RnL.nil
  simp only [fs,Kd.value,puts,Act.put,List.setIfInBounds_toArray,List.set_cons_zero,List.set_cons_succ]
  have HX3:Hid (Ext w w3):=Lib.hid hx_
  have HB2_3:Hid (Blk w3 (w.heap.size + 1 + 1) #[.string (qs ((rot t v).x)),.string (qs ((rot t v).y)),.string (qs ((rot t v).z))] 31):=Lib.hid (hb_ 0 _ rfl)
  clear hx_ hm_ hne_ hk_ hb_
  go_wp2_with fail
  have gB2_0:=HB2_3.out.cell 0 rfl
  have gB2_1:=HB2_3.out.cell 1 rfl
  have gB2_2:=HB2_3.out.cell 2 rfl
  refine bodyPost_ret (v:=.agg #[.string (qs ((rot t v).x)),.string (qs ((rot t v).y)),.string (qs ((rot t v).z))]) (by simp [results,Tryz.results63,go_sem,gB2_0,gB2_1,gB2_2]) rfl ⟨rfl,HX3.out⟩

set_option maxRecDepth 100000 in
set_option maxHeartbeats 2000000 in
theorem rboth_n (t:Q4) (v:T3) (w:World) (g:Gd w) (hq:QErr t 0) (hv:TS v) (hr:terr v.l = 2):Calls Tryz.prog 61 #[.agg #[.int .i64 t.w,.int .i64 t.x,.int .i64 t.y,.int .i64 t.z],.agg #[.string v.x,.string v.y,.string v.z]] w (Ret w (.int .i64 2)):=by
  have HE:=Lib.hid hq
  have HV:=Lib.hid hv
  have HR:=Lib.hid hr
  have HG:=Lib.hid g
  clear hq hv hr g
  go_enter Tryz.func61,Tryz.ntmps61
  go_wp2_with fail
  refine (rchk_l _ (HG.out.ext (((Ext.refl w).alloc _).alloc _)) HE.out).mono ?_;rintro e w1 ⟨rfl,e1⟩
  have HX1:Hid (Ext w w1):=Lib.hid ((((Ext.refl w).alloc _).alloc _).trans e1)
  have HB1_1:Hid (Blk w1 (w.heap.size + 1) #[.string v.x,.string v.y,.string v.z] 31):=Lib.hid (Blk.ext (Blk.new' (w:=_) (cs:=#[.string v.x,.string v.y,.string v.z]) (t:=31) (by first | rfl | (simp only [World.size_alloc];done) | (simp only [World.size_alloc];omega) | simp)) e1)
  have HGEB1:Hid (w.heap.size ≤ w.heap.size + 1):=Lib.hid (by first | omega | (simp only [];omega) | (simp;omega))
  clear e1
  have c1_0:=HB1_1.out.cell 0 rfl
  have c1_1:=HB1_1.out.cell 1 rfl
  have c1_2:=HB1_1.out.cell 2 rfl
  go_wp2_with fail
  refine ((HR.out ▸ vcheck_c v _ (HG.out.ext HX1.out) HV.out)).mono ?_;rintro e w2 ⟨rfl,e2⟩
  have HX2:Hid (Ext w w2):=Lib.hid (HX1.out.trans e2)
  clear e2 c1_0 c1_1 c1_2
  go_wp2
  go_ret
  exact ⟨rfl,HX2.out⟩

set_option maxRecDepth 100000 in
set_option maxHeartbeats 2000000 in
theorem rboth_ok (t:Q4) (v:V3) (w:World) (g:Gd w) (hq:QErr t 0) (hv:VB 200 v):Calls Tryz.prog 61 #[.agg #[.int .i64 t.w,.int .i64 t.x,.int .i64 t.y,.int .i64 t.z],.agg #[.string (qs v.x),.string (qs v.y),.string (qs v.z)]] w (Ret w (.int .i64 0)):=by
  have HE:=Lib.hid hq
  have HV:=Lib.hid hv
  have HG:=Lib.hid g
  clear hq hv g
  go_enter Tryz.func61,Tryz.ntmps61
  go_wp2_with fail
  refine (rchk_l _ (HG.out.ext (((Ext.refl w).alloc _).alloc _)) HE.out).mono ?_;rintro e w1 ⟨rfl,e1⟩
  have HX1:Hid (Ext w w1):=Lib.hid ((((Ext.refl w).alloc _).alloc _).trans e1)
  have HB1_1:Hid (Blk w1 (w.heap.size + 1) #[.string (qs v.x),.string (qs v.y),.string (qs v.z)] 31):=Lib.hid (Blk.ext (Blk.new' (w:=_) (cs:=#[.string (qs v.x),.string (qs v.y),.string (qs v.z)]) (t:=31) (by first | rfl | (simp only [World.size_alloc];done) | (simp only [World.size_alloc];omega) | simp)) e1)
  have HGEB1:Hid (w.heap.size ≤ w.heap.size + 1):=Lib.hid (by first | omega | (simp only [];omega) | (simp;omega))
  clear e1
  have c1_0:=HB1_1.out.cell 0 rfl
  have c1_1:=HB1_1.out.cell 1 rfl
  have c1_2:=HB1_1.out.cell 2 rfl
  go_wp2_with fail
  refine (vCheck_ok v _ (HG.out.ext HX1.out) HV.out).mono ?_;rintro e w2 ⟨rfl,e2⟩
  have HX2:Hid (Ext w w2):=Lib.hid (HX1.out.trans e2)
  clear e2 c1_0 c1_1 c1_2
  go_wp2
  go_ret
  exact ⟨rfl,HX2.out⟩

set_option maxRecDepth 100000 in
set_option maxHeartbeats 2000000 in
theorem rres_ok (v:V3) (w:World) (g:Gd w) (hv:VB 200 v):Calls Tryz.prog 62 #[.agg #[.string (qs v.x),.string (qs v.y),.string (qs v.z)]] w (Ret w (.tuple #[.agg #[.string (qs v.x),.string (qs v.y),.string (qs v.z)],.int .i64 0])):=by
  have HV:=Lib.hid hv
  have HG:=Lib.hid g
  clear hv g
  go_enter Tryz.func62,Tryz.ntmps62
  go_wp2_with fail
  refine (vCheck_ok v _ (HG.out.ext (((Ext.refl w).alloc _).alloc _)) HV.out).mono ?_;rintro e w1 ⟨rfl,e1⟩
  have HX1:Hid (Ext w w1):=Lib.hid ((((Ext.refl w).alloc _).alloc _).trans e1)
  have HB0_1:Hid (Blk w1 (w.heap.size) #[.string (qs v.x),.string (qs v.y),.string (qs v.z)] 31):=Lib.hid (Blk.ext ((Blk.new' (w:=_) (cs:=#[.string (qs v.x),.string (qs v.y),.string (qs v.z)]) (t:=31) (by first | rfl | (simp only [World.size_alloc];done) | (simp only [World.size_alloc];omega) | simp)).alloc _) e1)
  have HB1_1:Hid (Blk w1 (w.heap.size + 1) #[.string ⟨#[]⟩,.string ⟨#[]⟩,.string ⟨#[]⟩] 31):=Lib.hid (Blk.ext (Blk.new' (w:=_) (cs:=#[.string ⟨#[]⟩,.string ⟨#[]⟩,.string ⟨#[]⟩]) (t:=31) (by first | rfl | (simp only [World.size_alloc];done) | (simp only [World.size_alloc];omega) | simp)) e1)
  have HGEB0:Hid (w.heap.size ≤ w.heap.size):=Lib.hid (by first | omega | (simp only [];omega) | (simp;omega))
  have HGEB1:Hid (w.heap.size ≤ w.heap.size + 1):=Lib.hid (by first | omega | (simp only [];omega) | (simp;omega))
  clear e1
  have c0_0:=HB0_1.out.cell 0 rfl
  have c0_1:=HB0_1.out.cell 1 rfl
  have c0_2:=HB0_1.out.cell 2 rfl
  have c1_0:=HB1_1.out.cell 0 rfl
  have f1_0:=HB1_1.out.free 0
  have c1_1:=HB1_1.out.cell 1 rfl
  have f1_1:=HB1_1.out.free 1
  have c1_2:=HB1_1.out.cell 2 rfl
  have f1_2:=HB1_1.out.free 2
  go_wp2_with fail
  refine wp_name (fun W => Ext w W∧Blk W (w.heap.size + 1) #[.string (qs v.x),.string (qs v.y),.string (qs v.z)] 31) ⟨(((HX1.out.setCell (by have:=HGEB1.out;first | omega | (simp only [];omega) | (simp;omega)) _).setCell (by have:=HGEB1.out;first | omega | (simp only [];omega) | (simp;omega)) _).setCell (by have:=HGEB1.out;first | omega | (simp only [];omega) | (simp;omega)) _),(((HB1_1.out.set 0 (.string (qs v.x))).set 1 (.string (qs v.y))).set 2 (.string (qs v.z)))⟩ ?_
  rintro w2 ⟨e2,bB1_2⟩
  have HX2:=Lib.hid e2;have HB1_2:=Lib.hid bB1_2
  clear e2 bB1_2 c0_0 c0_1 c0_2 c1_0 f1_0 c1_1 f1_1 c1_2 f1_2
  have gB1_0:=HB1_2.out.cell 0 rfl
  have gB1_1:=HB1_2.out.cell 1 rfl
  have gB1_2:=HB1_2.out.cell 2 rfl
  refine bodyPost_ret (v:=.tuple #[.agg #[.string (qs v.x),.string (qs v.y),.string (qs v.z)],.int .i64 0]) (by simp [results,Tryz.results62,go_sem,gB1_0,gB1_1,gB1_2]) rfl ⟨rfl,HX2.out⟩

set_option maxRecDepth 100000 in
set_option maxHeartbeats 2000000 in
theorem rapply_c (t:Q4) (v:V3) {k:Nat} (w:World) (g:Gd w) (hi:Q4In t) (hz:¬ t.zero) (hv:VB k v) (hk:k ≤ 40):Calls Tryz.prog 30 #[.agg #[.int .i64 t.w,.int .i64 t.x,.int .i64 t.y,.int .i64 t.z],.agg #[.string (qs v.x),.string (qs v.y),.string (qs v.z)]] w (Ret w (.tuple #[.agg #[.string (qs ((rot t v).x)),.string (qs ((rot t v).y)),.string (qs ((rot t v).z))],.int .i64 0])):=by
  have HI:=Lib.hid hi
  have HZ:=Lib.hid hz
  have HV:=Lib.hid hv
  have HG:=Lib.hid g
  clear hi hz hv g
  have HRV:=Lib.hid (rot_qb HI.out HZ.out HV.out)
  go_enter Tryz.func30,Tryz.ntmps30
  go_wp2_with fail
  refine (rboth_ok t v _ (HG.out.ext ((((Ext.refl w).alloc _).alloc _).alloc _)) (.ok HI.out HZ.out) (HV.out.mono (by omega))).mono ?_;rintro e w1 ⟨rfl,e1⟩
  have HX1:Hid (Ext w w1):=Lib.hid (((((Ext.refl w).alloc _).alloc _).alloc _).trans e1)
  have HB0_1:Hid (Blk w1 (w.heap.size) #[.int .i64 t.w,.int .i64 t.x,.int .i64 t.y,.int .i64 t.z] 22):=Lib.hid (Blk.ext (((Blk.new' (w:=_) (cs:=#[.int .i64 t.w,.int .i64 t.x,.int .i64 t.y,.int .i64 t.z]) (t:=22) (by first | rfl | (simp only [World.size_alloc];done) | (simp only [World.size_alloc];omega) | simp)).alloc _).alloc _) e1)
  have HB1_1:Hid (Blk w1 (w.heap.size + 1) #[.string (qs v.x),.string (qs v.y),.string (qs v.z)] 31):=Lib.hid (Blk.ext ((Blk.new' (w:=_) (cs:=#[.string (qs v.x),.string (qs v.y),.string (qs v.z)]) (t:=31) (by first | rfl | (simp only [World.size_alloc];done) | (simp only [World.size_alloc];omega) | simp)).alloc _) e1)
  have HB2_1:Hid (Blk w1 (w.heap.size + 1 + 1) #[.string ⟨#[]⟩,.string ⟨#[]⟩,.string ⟨#[]⟩] 31):=Lib.hid (Blk.ext (Blk.new' (w:=_) (cs:=#[.string ⟨#[]⟩,.string ⟨#[]⟩,.string ⟨#[]⟩]) (t:=31) (by first | rfl | (simp only [World.size_alloc];done) | (simp only [World.size_alloc];omega) | simp)) e1)
  have HGEB0:Hid (w.heap.size ≤ w.heap.size):=Lib.hid (by first | omega | (simp only [];omega) | (simp;omega))
  have HGEB1:Hid (w.heap.size ≤ w.heap.size + 1):=Lib.hid (by first | omega | (simp only [];omega) | (simp;omega))
  have HGEB2:Hid (w.heap.size ≤ w.heap.size + 1 + 1):=Lib.hid (by first | omega | (simp only [];omega) | (simp;omega))
  clear e1
  have c0_0:=HB0_1.out.cell 0 rfl
  have c0_1:=HB0_1.out.cell 1 rfl
  have c0_2:=HB0_1.out.cell 2 rfl
  have c0_3:=HB0_1.out.cell 3 rfl
  have c1_0:=HB1_1.out.cell 0 rfl
  have c1_1:=HB1_1.out.cell 1 rfl
  have c1_2:=HB1_1.out.cell 2 rfl
  go_wp2_with fail
  refine (rturned_c t v _ (HG.out.ext HX1.out) HI.out HZ.out HV.out (by omega)).mono ?_;rintro e w2 ⟨rfl,e2⟩
  have HX2:Hid (Ext w w2):=Lib.hid (HX1.out.trans e2)
  have HB2_2:=Lib.hid (Blk.ext HB2_1.out e2)
  clear e2 c0_0 c0_1 c0_2 c0_3 c1_0 c1_1 c1_2
  go_wp2_with fail
  refine (rres_ok (rot t v) _ (HG.out.ext HX2.out) (HRV.out.mono (by omega))).mono ?_;rintro e w3 ⟨rfl,e3⟩
  have HX3:Hid (Ext w w3):=Lib.hid (HX2.out.trans e3)
  have HB2_3:=Lib.hid (Blk.ext HB2_2.out e3)
  clear e3
  have c2_0:=HB2_3.out.cell 0 rfl
  have f2_0:=HB2_3.out.free 0
  have c2_1:=HB2_3.out.cell 1 rfl
  have f2_1:=HB2_3.out.free 1
  have c2_2:=HB2_3.out.cell 2 rfl
  have f2_2:=HB2_3.out.free 2
  go_wp2_with fail
  refine wp_name (fun W => Ext w W∧Blk W (w.heap.size + 1 + 1) #[.string (qs ((rot t v).x)),.string (qs ((rot t v).y)),.string (qs ((rot t v).z))] 31) ⟨(((HX3.out.setCell (by have:=HGEB2.out;first | omega | (simp only [];omega) | (simp;omega)) _).setCell (by have:=HGEB2.out;first | omega | (simp only [];omega) | (simp;omega)) _).setCell (by have:=HGEB2.out;first | omega | (simp only [];omega) | (simp;omega)) _),(((HB2_3.out.set 0 (.string (qs ((rot t v).x)))).set 1 (.string (qs ((rot t v).y)))).set 2 (.string (qs ((rot t v).z))))⟩ ?_
  rintro w4 ⟨e4,bB2_4⟩
  have HX4:=Lib.hid e4;have HB2_4:=Lib.hid bB2_4
  clear e4 bB2_4 c2_0 f2_0 c2_1 f2_1 c2_2 f2_2
  have gB2_0:=HB2_4.out.cell 0 rfl
  have gB2_1:=HB2_4.out.cell 1 rfl
  have gB2_2:=HB2_4.out.cell 2 rfl
  refine bodyPost_ret (v:=.tuple #[.agg #[.string (qs ((rot t v).x)),.string (qs ((rot t v).y)),.string (qs ((rot t v).z))],.int .i64 0]) (by simp [results,Tryz.results30,go_sem,gB2_0,gB2_1,gB2_2]) rfl ⟨rfl,HX4.out⟩
end Go.Proofs.YtjeimihnoiephaaGreatDoor
