/- Part 29 of the proof: M1, M12, M3. -/
import Derived.Test.YtjeimihnoiephaaGreatDoorQZ28
import Derived.ChangeKeysEq
set_option maxRecDepth 100000
namespace Go.Proofs.YtjeimihnoiephaaGreatDoor
open Go Go.RowKit
set_option linter.unusedVariables false
def obad (n:Int):Bool:=decide (1000000<n) || decide (n < -1000000)
theorem obad_f {n:Int}:obad n=false ↔ -1000000≤n∧n≤1000000:=by
  unfold obad;rw [Bool.or_eq_false_iff,decide_eq_false_iff_not,decide_eq_false_iff_not];omega
theorem obad_t {n:Int}:obad n=true ↔ 1000000<n∨n < -1000000:=by
  unfold obad;rw [Bool.or_eq_true,decide_eq_true_iff,decide_eq_true_iff]
structure Q4In (t:Q4):Prop where
  w:-1000000≤t.w∧t.w≤1000000
  x:-1000000≤t.x∧t.x≤1000000
  y:-1000000≤t.y∧t.y≤1000000
  z:-1000000≤t.z∧t.z≤1000000
inductive QErr (t:Q4):Int→Prop
  | b0 (h:obad t.w=true):QErr t 3
  | b1 (h0:obad t.w=false) (h:obad t.x=true):QErr t 3
  | b2 (h0:obad t.w=false) (h1:obad t.x=false) (h:obad t.y=true):QErr t 3
  | b3 (h0:obad t.w=false) (h1:obad t.x=false) (h2:obad t.y=false) (h:obad t.z=true):QErr t 3
  | zero (h:t=⟨0,0,0,0⟩):QErr t 17
  | ok (h:Q4In t) (hz:¬ t.zero):QErr t 0
theorem int_und9:Tryz.prog.underlying 3=some (.int .i64):=by kernel_rfl
theorem eq4 (a b c d p q r s:Int) (W:World):(Op.equalIn 10000 22 (.agg #[.int .i64 a,.int .i64 b,.int .i64 c,.int .i64 d]) (.agg #[.int .i64 p,.int .i64 q,.int .i64 r,.int .i64 s])).run Tryz.prog W = .ok (a == p && (b == q && (c == r && (d == s)))) W:=by
  have hi0:(Tryz.prog.info? 3).isSome=true:=by kernel_rfl
  obtain ⟨i,hi⟩:=Option.isSome_iff_exists.1 hi0
  have hu:Tryz.prog.underlying 22=some (.array 4 3):=by kernel_rfl
  have e:∀ (x y:Int),(Op.equalIn 9999 3 (.int .i64 x) (.int .i64 y)).run Tryz.prog W = .ok (x == y) W:=fun x y=>run_equalIn_int W 9998 3 _ _ x y int_und9
  refine Eq.trans (run_equalIn_array W 9999 _ _ hu hi) ?_
  have hc:Tryz.prog.cellsOf 3=1:=by kernel_rfl
  have hr:List.range 4=[0,1,2,3]:=rfl
  have p0:∀ a b c d:Int,(part 3 #[.int .i64 a,.int .i64 b,.int .i64 c,.int .i64 d] (0*1)).run Tryz.prog W = .ok (.int .i64 a) W:=fun a b c d=>by kernel_rfl
  have p1:∀ a b c d:Int,(part 3 #[.int .i64 a,.int .i64 b,.int .i64 c,.int .i64 d] (1*1)).run Tryz.prog W = .ok (.int .i64 b) W:=fun a b c d=>by kernel_rfl
  have p2:∀ a b c d:Int,(part 3 #[.int .i64 a,.int .i64 b,.int .i64 c,.int .i64 d] (2*1)).run Tryz.prog W = .ok (.int .i64 c) W:=fun a b c d=>by kernel_rfl
  have p3:∀ a b c d:Int,(part 3 #[.int .i64 a,.int .i64 b,.int .i64 c,.int .i64 d] (3*1)).run Tryz.prog W = .ok (.int .i64 d) W:=fun a b c d=>by kernel_rfl
  rw [hc,hr]
  simp only [Op.eqItems,Sem.run_bind,p0,e,Result.andThen_ok]
  cases (a == p)
  · rfl
  simp only [Bool.not_true,Bool.false_eq_true,if_false,Sem.run_bind,p1,e,Result.andThen_ok,Bool.true_and]
  cases (b == q)
  · rfl
  simp only [Bool.not_true,Bool.false_eq_true,if_false,Sem.run_bind,p2,e,Result.andThen_ok,Bool.true_and]
  cases (c == r)
  · rfl
  simp only [Bool.not_true,Bool.false_eq_true,if_false,Sem.run_bind,p3,e,Result.andThen_ok,Bool.true_and]
  cases (d == s) <;> rfl

set_option maxHeartbeats 2000000 in
theorem cb_hi (n:Int) (w:World) (g:Gd w) (h1:1000000<n):Calls Tryz.prog 93 #[.int .i64 n] w (Ret w (.bool true)):=by
  have HG:=Lib.hid g
  clear g
  have h1_d:decide (1000000<n)=true:=decide_eq_true (by omega)
  go_enter Tryz.func93,Tryz.ntmps93
  go_wp2
  go_ret
  exact ⟨rfl,(Ext.refl w)⟩

set_option maxHeartbeats 2000000 in
theorem cb_lo (n:Int) (w:World) (g:Gd w) (h1:n < -1000000):Calls Tryz.prog 93 #[.int .i64 n] w (Ret w (.bool true)):=by
  have HG:=Lib.hid g
  clear g
  have h1_d:decide (1000000<n)=false:=decide_eq_false (by omega)
  have h2_d:decide (n < -1000000)=true:=decide_eq_true (by omega)
  go_enter Tryz.func93,Tryz.ntmps93
  go_wp2
  go_ret
  exact ⟨rfl,(Ext.refl w)⟩

set_option maxHeartbeats 2000000 in
theorem cb_ok (n:Int) (w:World) (g:Gd w) (h1:-1000000≤n∧n≤1000000):Calls Tryz.prog 93 #[.int .i64 n] w (Ret w (.bool false)):=by
  have HG:=Lib.hid g
  clear g
  have h1_d:decide (1000000<n)=false:=decide_eq_false (by omega)
  have h2_d:decide (n < -1000000)=false:=decide_eq_false (by omega)
  go_enter Tryz.func93,Tryz.ntmps93
  go_wp2
  go_ret
  exact ⟨rfl,(Ext.refl w)⟩

theorem cb_c (n:Int) (v:Bool) (w:World) (g:Gd w) (h:obad n=v):Calls Tryz.prog 93 #[.int .i64 n] w (Ret w (.bool v)):=by
  cases v with
  | false=>exact cb_ok n w g (obad_f.1 h)
  | true =>
    rcases obad_t.1 h with e|e
    · exact cb_hi n w g e
    · exact cb_lo n w g e

set_option maxHeartbeats 2000000 in
theorem cn_t (n:Int) (w:World) (g:Gd w) (h:n≠0):Calls Tryz.prog 118 #[.int .i64 n] w (Ret w (.bool true)):=by
  have HG:=Lib.hid g
  clear g
  have h_n:(n != 0)=true:=bne_iff_ne.2 h
  have h_e:(n == 0)=false:=beq_eq_false_iff_ne.2 h
  go_enter Tryz.func118,Tryz.ntmps118
  go_wp2
  go_ret
  exact ⟨rfl,(Ext.refl w)⟩

theorem cn_f (w:World) (g:Gd w):Calls Tryz.prog 118 #[.int .i64 0] w (Ret w (.bool false)):=by
  have HG:=Lib.hid g
  clear g
  go_enter Tryz.func118,Tryz.ntmps118
  go_wp2
  go_ret
  exact ⟨rfl,Ext.refl _⟩
theorem cn_z (n:Int) (w:World) (g:Gd w) (h:n=0):Calls Tryz.prog 118 #[.int .i64 n] w (Ret w (.bool false)):=by subst h;exact cn_f w g

set_option maxHeartbeats 2000000 in
theorem ixb_0 (t:Q4) (kb:Nat) {ty:TypeId} (w:World) (g:Gd w) (hB:Blk w kb #[.int .i64 t.w,.int .i64 t.x,.int .i64 t.y,.int .i64 t.z] ty) (h0:obad t.w=true):Calls Tryz.prog 117 #[.slice (some ⟨kb,0,none⟩) 4 4,.func (.func 93) #[] #[]] w (Ret w (.int .i64 0)):=by
  have HCB:=Lib.hid hB
  have HO0:=Lib.hid h0
  have HG:=Lib.hid g
  clear hB h0 g
  go_enter Tryz.func117,Tryz.ntmps117
  go_wp2_with fail
  refine wp_loop_rounds 1 ?_
  rw [rounds_succ]
  have cP_0:=HCB.out.cell 0 rfl
  go_wp2_with fail
  refine (cb_c t.w true _ (HG.out.ext (Ext.refl w)) HO0.out).mono ?_;rintro e w1 ⟨rfl,e1⟩
  have HX1:Hid (Ext w w1):=Lib.hid ((Ext.refl w).trans e1)
  clear e1 cP_0
  go_wp2
  go_ret
  exact ⟨rfl,HX1.out⟩

set_option maxHeartbeats 2000000 in
theorem ixn_0 (t:Q4) (kb:Nat) {ty:TypeId} (w:World) (g:Gd w) (hB:Blk w kb #[.int .i64 t.w,.int .i64 t.x,.int .i64 t.y,.int .i64 t.z] ty) (h0:t.w≠0):Calls Tryz.prog 117 #[.slice (some ⟨kb,0,none⟩) 4 4,.func (.func 118) #[] #[]] w (Ret w (.int .i64 0)):=by
  have HCB:=Lib.hid hB
  have HO0:=Lib.hid h0
  have HG:=Lib.hid g
  clear hB h0 g
  go_enter Tryz.func117,Tryz.ntmps117
  go_wp2_with fail
  refine wp_loop_rounds 1 ?_
  rw [rounds_succ]
  have cP_0:=HCB.out.cell 0 rfl
  go_wp2_with fail
  refine (cn_t t.w _ (HG.out.ext (Ext.refl w)) HO0.out).mono ?_;rintro e w1 ⟨rfl,e1⟩
  have HX1:Hid (Ext w w1):=Lib.hid ((Ext.refl w).trans e1)
  clear e1 cP_0
  go_wp2
  go_ret
  exact ⟨rfl,HX1.out⟩

set_option maxHeartbeats 2000000 in
theorem ixb_1 (t:Q4) (kb:Nat) {ty:TypeId} (w:World) (g:Gd w) (hB:Blk w kb #[.int .i64 t.w,.int .i64 t.x,.int .i64 t.y,.int .i64 t.z] ty) (h0:obad t.w=false) (h1:obad t.x=true):Calls Tryz.prog 117 #[.slice (some ⟨kb,0,none⟩) 4 4,.func (.func 93) #[] #[]] w (Ret w (.int .i64 1)):=by
  have HCB:=Lib.hid hB
  have HO0:=Lib.hid h0
  have HO1:=Lib.hid h1
  have HG:=Lib.hid g
  clear hB h0 h1 g
  go_enter Tryz.func117,Tryz.ntmps117
  go_wp2_with fail
  refine wp_loop_rounds 2 ?_
  rw [rounds_succ]
  have cP_0:=HCB.out.cell 0 rfl
  go_wp2_with fail
  refine (cb_c t.w false _ (HG.out.ext (Ext.refl w)) HO0.out).mono ?_;rintro e w1 ⟨rfl,e1⟩
  have HX1:Hid (Ext w w1):=Lib.hid ((Ext.refl w).trans e1)
  have HBP_1:=Lib.hid (Blk.ext HCB.out e1)
  clear e1 cP_0
  go_wp2_with fail
  rw [rounds_succ]
  have cP_1:=HBP_1.out.cell 1 rfl
  go_wp2_with fail
  refine (cb_c t.x true _ (HG.out.ext HX1.out) HO1.out).mono ?_;rintro e w2 ⟨rfl,e2⟩
  have HX2:Hid (Ext w w2):=Lib.hid (HX1.out.trans e2)
  clear e2 cP_1
  go_wp2
  go_ret
  exact ⟨rfl,HX2.out⟩

set_option maxHeartbeats 2000000 in
theorem ixn_1 (t:Q4) (kb:Nat) {ty:TypeId} (w:World) (g:Gd w) (hB:Blk w kb #[.int .i64 t.w,.int .i64 t.x,.int .i64 t.y,.int .i64 t.z] ty) (h0:t.w=0) (h1:t.x≠0):Calls Tryz.prog 117 #[.slice (some ⟨kb,0,none⟩) 4 4,.func (.func 118) #[] #[]] w (Ret w (.int .i64 1)):=by
  have HCB:=Lib.hid hB
  have HO0:=Lib.hid h0
  have HO1:=Lib.hid h1
  have HG:=Lib.hid g
  clear hB h0 h1 g
  go_enter Tryz.func117,Tryz.ntmps117
  go_wp2_with fail
  refine wp_loop_rounds 2 ?_
  rw [rounds_succ]
  have cP_0:=HCB.out.cell 0 rfl
  go_wp2_with fail
  refine (cn_z t.w _ (HG.out.ext (Ext.refl w)) HO0.out).mono ?_;rintro e w1 ⟨rfl,e1⟩
  have HX1:Hid (Ext w w1):=Lib.hid ((Ext.refl w).trans e1)
  have HBP_1:=Lib.hid (Blk.ext HCB.out e1)
  clear e1 cP_0
  go_wp2_with fail
  rw [rounds_succ]
  have cP_1:=HBP_1.out.cell 1 rfl
  go_wp2_with fail
  refine (cn_t t.x _ (HG.out.ext HX1.out) HO1.out).mono ?_;rintro e w2 ⟨rfl,e2⟩
  have HX2:Hid (Ext w w2):=Lib.hid (HX1.out.trans e2)
  clear e2 cP_1
  go_wp2
  go_ret
  exact ⟨rfl,HX2.out⟩

set_option maxHeartbeats 2000000 in
theorem ixb_2 (t:Q4) (kb:Nat) {ty:TypeId} (w:World) (g:Gd w) (hB:Blk w kb #[.int .i64 t.w,.int .i64 t.x,.int .i64 t.y,.int .i64 t.z] ty) (h0:obad t.w=false) (h1:obad t.x=false) (h2:obad t.y=true):Calls Tryz.prog 117 #[.slice (some ⟨kb,0,none⟩) 4 4,.func (.func 93) #[] #[]] w (Ret w (.int .i64 2)):=by
  have HCB:=Lib.hid hB
  have HO0:=Lib.hid h0
  have HO1:=Lib.hid h1
  have HO2:=Lib.hid h2
  have HG:=Lib.hid g
  clear hB h0 h1 h2 g
  go_enter Tryz.func117,Tryz.ntmps117
  go_wp2_with fail
  refine wp_loop_rounds 3 ?_
  rw [rounds_succ]
  have cP_0:=HCB.out.cell 0 rfl
  go_wp2_with fail
  refine (cb_c t.w false _ (HG.out.ext (Ext.refl w)) HO0.out).mono ?_;rintro e w1 ⟨rfl,e1⟩
  have HX1:Hid (Ext w w1):=Lib.hid ((Ext.refl w).trans e1)
  have HBP_1:=Lib.hid (Blk.ext HCB.out e1)
  clear e1 cP_0
  go_wp2_with fail
  rw [rounds_succ]
  have cP_1:=HBP_1.out.cell 1 rfl
  go_wp2_with fail
  refine (cb_c t.x false _ (HG.out.ext HX1.out) HO1.out).mono ?_;rintro e w2 ⟨rfl,e2⟩
  have HX2:Hid (Ext w w2):=Lib.hid (HX1.out.trans e2)
  have HBP_2:=Lib.hid (Blk.ext HBP_1.out e2)
  clear e2 cP_1
  go_wp2_with fail
  rw [rounds_succ]
  have cP_2:=HBP_2.out.cell 2 rfl
  go_wp2_with fail
  refine (cb_c t.y true _ (HG.out.ext HX2.out) HO2.out).mono ?_;rintro e w3 ⟨rfl,e3⟩
  have HX3:Hid (Ext w w3):=Lib.hid (HX2.out.trans e3)
  clear e3 cP_2
  go_wp2
  go_ret
  exact ⟨rfl,HX3.out⟩

set_option maxHeartbeats 2000000 in
theorem ixn_2 (t:Q4) (kb:Nat) {ty:TypeId} (w:World) (g:Gd w) (hB:Blk w kb #[.int .i64 t.w,.int .i64 t.x,.int .i64 t.y,.int .i64 t.z] ty) (h0:t.w=0) (h1:t.x=0) (h2:t.y≠0):Calls Tryz.prog 117 #[.slice (some ⟨kb,0,none⟩) 4 4,.func (.func 118) #[] #[]] w (Ret w (.int .i64 2)):=by
  have HCB:=Lib.hid hB
  have HO0:=Lib.hid h0
  have HO1:=Lib.hid h1
  have HO2:=Lib.hid h2
  have HG:=Lib.hid g
  clear hB h0 h1 h2 g
  go_enter Tryz.func117,Tryz.ntmps117
  go_wp2_with fail
  refine wp_loop_rounds 3 ?_
  rw [rounds_succ]
  have cP_0:=HCB.out.cell 0 rfl
  go_wp2_with fail
  refine (cn_z t.w _ (HG.out.ext (Ext.refl w)) HO0.out).mono ?_;rintro e w1 ⟨rfl,e1⟩
  have HX1:Hid (Ext w w1):=Lib.hid ((Ext.refl w).trans e1)
  have HBP_1:=Lib.hid (Blk.ext HCB.out e1)
  clear e1 cP_0
  go_wp2_with fail
  rw [rounds_succ]
  have cP_1:=HBP_1.out.cell 1 rfl
  go_wp2_with fail
  refine (cn_z t.x _ (HG.out.ext HX1.out) HO1.out).mono ?_;rintro e w2 ⟨rfl,e2⟩
  have HX2:Hid (Ext w w2):=Lib.hid (HX1.out.trans e2)
  have HBP_2:=Lib.hid (Blk.ext HBP_1.out e2)
  clear e2 cP_1
  go_wp2_with fail
  rw [rounds_succ]
  have cP_2:=HBP_2.out.cell 2 rfl
  go_wp2_with fail
  refine (cn_t t.y _ (HG.out.ext HX2.out) HO2.out).mono ?_;rintro e w3 ⟨rfl,e3⟩
  have HX3:Hid (Ext w w3):=Lib.hid (HX2.out.trans e3)
  clear e3 cP_2
  go_wp2
  go_ret
  exact ⟨rfl,HX3.out⟩

set_option maxHeartbeats 2000000 in
theorem ixb_3 (t:Q4) (kb:Nat) {ty:TypeId} (w:World) (g:Gd w) (hB:Blk w kb #[.int .i64 t.w,.int .i64 t.x,.int .i64 t.y,.int .i64 t.z] ty) (h0:obad t.w=false) (h1:obad t.x=false) (h2:obad t.y=false) (h3:obad t.z=true):Calls Tryz.prog 117 #[.slice (some ⟨kb,0,none⟩) 4 4,.func (.func 93) #[] #[]] w (Ret w (.int .i64 3)):=by
  have HCB:=Lib.hid hB
  have HO0:=Lib.hid h0
  have HO1:=Lib.hid h1
  have HO2:=Lib.hid h2
  have HO3:=Lib.hid h3
  have HG:=Lib.hid g
  clear hB h0 h1 h2 h3 g
  go_enter Tryz.func117,Tryz.ntmps117
  go_wp2_with fail
  refine wp_loop_rounds 4 ?_
  rw [rounds_succ]
  have cP_0:=HCB.out.cell 0 rfl
  go_wp2_with fail
  refine (cb_c t.w false _ (HG.out.ext (Ext.refl w)) HO0.out).mono ?_;rintro e w1 ⟨rfl,e1⟩
  have HX1:Hid (Ext w w1):=Lib.hid ((Ext.refl w).trans e1)
  have HBP_1:=Lib.hid (Blk.ext HCB.out e1)
  clear e1 cP_0
  go_wp2_with fail
  rw [rounds_succ]
  have cP_1:=HBP_1.out.cell 1 rfl
  go_wp2_with fail
  refine (cb_c t.x false _ (HG.out.ext HX1.out) HO1.out).mono ?_;rintro e w2 ⟨rfl,e2⟩
  have HX2:Hid (Ext w w2):=Lib.hid (HX1.out.trans e2)
  have HBP_2:=Lib.hid (Blk.ext HBP_1.out e2)
  clear e2 cP_1
  go_wp2_with fail
  rw [rounds_succ]
  have cP_2:=HBP_2.out.cell 2 rfl
  go_wp2_with fail
  refine (cb_c t.y false _ (HG.out.ext HX2.out) HO2.out).mono ?_;rintro e w3 ⟨rfl,e3⟩
  have HX3:Hid (Ext w w3):=Lib.hid (HX2.out.trans e3)
  have HBP_3:=Lib.hid (Blk.ext HBP_2.out e3)
  clear e3 cP_2
  go_wp2_with fail
  rw [rounds_succ]
  have cP_3:=HBP_3.out.cell 3 rfl
  go_wp2_with fail
  refine (cb_c t.z true _ (HG.out.ext HX3.out) HO3.out).mono ?_;rintro e w4 ⟨rfl,e4⟩
  have HX4:Hid (Ext w w4):=Lib.hid (HX3.out.trans e4)
  clear e4 cP_3
  go_wp2
  go_ret
  exact ⟨rfl,HX4.out⟩

set_option maxHeartbeats 2000000 in
theorem ixn_3 (t:Q4) (kb:Nat) {ty:TypeId} (w:World) (g:Gd w) (hB:Blk w kb #[.int .i64 t.w,.int .i64 t.x,.int .i64 t.y,.int .i64 t.z] ty) (h0:t.w=0) (h1:t.x=0) (h2:t.y=0) (h3:t.z≠0):Calls Tryz.prog 117 #[.slice (some ⟨kb,0,none⟩) 4 4,.func (.func 118) #[] #[]] w (Ret w (.int .i64 3)):=by
  have HCB:=Lib.hid hB
  have HO0:=Lib.hid h0
  have HO1:=Lib.hid h1
  have HO2:=Lib.hid h2
  have HO3:=Lib.hid h3
  have HG:=Lib.hid g
  clear hB h0 h1 h2 h3 g
  go_enter Tryz.func117,Tryz.ntmps117
  go_wp2_with fail
  refine wp_loop_rounds 4 ?_
  rw [rounds_succ]
  have cP_0:=HCB.out.cell 0 rfl
  go_wp2_with fail
  refine (cn_z t.w _ (HG.out.ext (Ext.refl w)) HO0.out).mono ?_;rintro e w1 ⟨rfl,e1⟩
  have HX1:Hid (Ext w w1):=Lib.hid ((Ext.refl w).trans e1)
  have HBP_1:=Lib.hid (Blk.ext HCB.out e1)
  clear e1 cP_0
  go_wp2_with fail
  rw [rounds_succ]
  have cP_1:=HBP_1.out.cell 1 rfl
  go_wp2_with fail
  refine (cn_z t.x _ (HG.out.ext HX1.out) HO1.out).mono ?_;rintro e w2 ⟨rfl,e2⟩
  have HX2:Hid (Ext w w2):=Lib.hid (HX1.out.trans e2)
  have HBP_2:=Lib.hid (Blk.ext HBP_1.out e2)
  clear e2 cP_1
  go_wp2_with fail
  rw [rounds_succ]
  have cP_2:=HBP_2.out.cell 2 rfl
  go_wp2_with fail
  refine (cn_z t.y _ (HG.out.ext HX2.out) HO2.out).mono ?_;rintro e w3 ⟨rfl,e3⟩
  have HX3:Hid (Ext w w3):=Lib.hid (HX2.out.trans e3)
  have HBP_3:=Lib.hid (Blk.ext HBP_2.out e3)
  clear e3 cP_2
  go_wp2_with fail
  rw [rounds_succ]
  have cP_3:=HBP_3.out.cell 3 rfl
  go_wp2_with fail
  refine (cn_t t.z _ (HG.out.ext HX3.out) HO3.out).mono ?_;rintro e w4 ⟨rfl,e4⟩
  have HX4:Hid (Ext w w4):=Lib.hid (HX3.out.trans e4)
  clear e4 cP_3
  go_wp2
  go_ret
  exact ⟨rfl,HX4.out⟩

set_option maxHeartbeats 2000000 in
theorem ixb_n (t:Q4) (kb:Nat) {ty:TypeId} (w:World) (g:Gd w) (hB:Blk w kb #[.int .i64 t.w,.int .i64 t.x,.int .i64 t.y,.int .i64 t.z] ty) (h0:obad t.w=false) (h1:obad t.x=false) (h2:obad t.y=false) (h3:obad t.z=false):Calls Tryz.prog 117 #[.slice (some ⟨kb,0,none⟩) 4 4,.func (.func 93) #[] #[]] w (Ret w (.int .i64 (-1))):=by
  have HCB:=Lib.hid hB
  have HO0:=Lib.hid h0
  have HO1:=Lib.hid h1
  have HO2:=Lib.hid h2
  have HO3:=Lib.hid h3
  have HG:=Lib.hid g
  clear hB h0 h1 h2 h3 g
  go_enter Tryz.func117,Tryz.ntmps117
  go_wp2_with fail
  refine wp_loop_rounds 5 ?_
  rw [rounds_succ]
  have cP_0:=HCB.out.cell 0 rfl
  go_wp2_with fail
  refine (cb_c t.w false _ (HG.out.ext (Ext.refl w)) HO0.out).mono ?_;rintro e w1 ⟨rfl,e1⟩
  have HX1:Hid (Ext w w1):=Lib.hid ((Ext.refl w).trans e1)
  have HBP_1:=Lib.hid (Blk.ext HCB.out e1)
  clear e1 cP_0
  go_wp2_with fail
  rw [rounds_succ]
  have cP_1:=HBP_1.out.cell 1 rfl
  go_wp2_with fail
  refine (cb_c t.x false _ (HG.out.ext HX1.out) HO1.out).mono ?_;rintro e w2 ⟨rfl,e2⟩
  have HX2:Hid (Ext w w2):=Lib.hid (HX1.out.trans e2)
  have HBP_2:=Lib.hid (Blk.ext HBP_1.out e2)
  clear e2 cP_1
  go_wp2_with fail
  rw [rounds_succ]
  have cP_2:=HBP_2.out.cell 2 rfl
  go_wp2_with fail
  refine (cb_c t.y false _ (HG.out.ext HX2.out) HO2.out).mono ?_;rintro e w3 ⟨rfl,e3⟩
  have HX3:Hid (Ext w w3):=Lib.hid (HX2.out.trans e3)
  have HBP_3:=Lib.hid (Blk.ext HBP_2.out e3)
  clear e3 cP_2
  go_wp2_with fail
  rw [rounds_succ]
  have cP_3:=HBP_3.out.cell 3 rfl
  go_wp2_with fail
  refine (cb_c t.z false _ (HG.out.ext HX3.out) HO3.out).mono ?_;rintro e w4 ⟨rfl,e4⟩
  have HX4:Hid (Ext w w4):=Lib.hid (HX3.out.trans e4)
  clear e4 cP_3
  go_wp2_with fail
  rw [rounds_succ]
  go_wp2
  go_ret
  exact ⟨rfl,HX4.out⟩

set_option maxHeartbeats 2000000 in
theorem cfb_0 (t:Q4) (kb:Nat) {ty:TypeId} (w:World) (g:Gd w) (hB:Blk w kb #[.int .i64 t.w,.int .i64 t.x,.int .i64 t.y,.int .i64 t.z] ty) (h0:obad t.w=true):Calls Tryz.prog 92 #[.slice (some ⟨kb,0,none⟩) 4 4,.func (.func 93) #[] #[]] w (Ret w (.bool true)):=by
  have HCB:=Lib.hid hB
  have HO0:=Lib.hid h0
  have HG:=Lib.hid g
  clear hB h0 g
  go_enter Tryz.func92,Tryz.ntmps92
  go_wp2_with fail
  refine (ixb_0 t (kb) _ (HG.out.ext (Ext.refl w)) HCB.out HO0.out).mono ?_;rintro e w1 ⟨rfl,e1⟩
  have HX1:Hid (Ext w w1):=Lib.hid ((Ext.refl w).trans e1)
  have HBP_1:=Lib.hid (Blk.ext HCB.out e1)
  clear e1
  go_wp2
  go_ret
  exact ⟨rfl,HX1.out⟩

set_option maxHeartbeats 2000000 in
theorem cfb_1 (t:Q4) (kb:Nat) {ty:TypeId} (w:World) (g:Gd w) (hB:Blk w kb #[.int .i64 t.w,.int .i64 t.x,.int .i64 t.y,.int .i64 t.z] ty) (h0:obad t.w=false) (h1:obad t.x=true):Calls Tryz.prog 92 #[.slice (some ⟨kb,0,none⟩) 4 4,.func (.func 93) #[] #[]] w (Ret w (.bool true)):=by
  have HCB:=Lib.hid hB
  have HO0:=Lib.hid h0
  have HO1:=Lib.hid h1
  have HG:=Lib.hid g
  clear hB h0 h1 g
  go_enter Tryz.func92,Tryz.ntmps92
  go_wp2_with fail
  refine (ixb_1 t (kb) _ (HG.out.ext (Ext.refl w)) HCB.out HO0.out HO1.out).mono ?_;rintro e w1 ⟨rfl,e1⟩
  have HX1:Hid (Ext w w1):=Lib.hid ((Ext.refl w).trans e1)
  have HBP_1:=Lib.hid (Blk.ext HCB.out e1)
  clear e1
  go_wp2
  go_ret
  exact ⟨rfl,HX1.out⟩

set_option maxHeartbeats 2000000 in
theorem cfb_2 (t:Q4) (kb:Nat) {ty:TypeId} (w:World) (g:Gd w) (hB:Blk w kb #[.int .i64 t.w,.int .i64 t.x,.int .i64 t.y,.int .i64 t.z] ty) (h0:obad t.w=false) (h1:obad t.x=false) (h2:obad t.y=true):Calls Tryz.prog 92 #[.slice (some ⟨kb,0,none⟩) 4 4,.func (.func 93) #[] #[]] w (Ret w (.bool true)):=by
  have HCB:=Lib.hid hB
  have HO0:=Lib.hid h0
  have HO1:=Lib.hid h1
  have HO2:=Lib.hid h2
  have HG:=Lib.hid g
  clear hB h0 h1 h2 g
  go_enter Tryz.func92,Tryz.ntmps92
  go_wp2_with fail
  refine (ixb_2 t (kb) _ (HG.out.ext (Ext.refl w)) HCB.out HO0.out HO1.out HO2.out).mono ?_;rintro e w1 ⟨rfl,e1⟩
  have HX1:Hid (Ext w w1):=Lib.hid ((Ext.refl w).trans e1)
  have HBP_1:=Lib.hid (Blk.ext HCB.out e1)
  clear e1
  go_wp2
  go_ret
  exact ⟨rfl,HX1.out⟩

set_option maxHeartbeats 2000000 in
theorem cfb_3 (t:Q4) (kb:Nat) {ty:TypeId} (w:World) (g:Gd w) (hB:Blk w kb #[.int .i64 t.w,.int .i64 t.x,.int .i64 t.y,.int .i64 t.z] ty) (h0:obad t.w=false) (h1:obad t.x=false) (h2:obad t.y=false) (h3:obad t.z=true):Calls Tryz.prog 92 #[.slice (some ⟨kb,0,none⟩) 4 4,.func (.func 93) #[] #[]] w (Ret w (.bool true)):=by
  have HCB:=Lib.hid hB
  have HO0:=Lib.hid h0
  have HO1:=Lib.hid h1
  have HO2:=Lib.hid h2
  have HO3:=Lib.hid h3
  have HG:=Lib.hid g
  clear hB h0 h1 h2 h3 g
  go_enter Tryz.func92,Tryz.ntmps92
  go_wp2_with fail
  refine (ixb_3 t (kb) _ (HG.out.ext (Ext.refl w)) HCB.out HO0.out HO1.out HO2.out HO3.out).mono ?_;rintro e w1 ⟨rfl,e1⟩
  have HX1:Hid (Ext w w1):=Lib.hid ((Ext.refl w).trans e1)
  have HBP_1:=Lib.hid (Blk.ext HCB.out e1)
  clear e1
  go_wp2
  go_ret
  exact ⟨rfl,HX1.out⟩

set_option maxHeartbeats 2000000 in
theorem cfb_n (t:Q4) (kb:Nat) {ty:TypeId} (w:World) (g:Gd w) (hB:Blk w kb #[.int .i64 t.w,.int .i64 t.x,.int .i64 t.y,.int .i64 t.z] ty) (h0:obad t.w=false) (h1:obad t.x=false) (h2:obad t.y=false) (h3:obad t.z=false):Calls Tryz.prog 92 #[.slice (some ⟨kb,0,none⟩) 4 4,.func (.func 93) #[] #[]] w (Ret w (.bool false)):=by
  have HCB:=Lib.hid hB
  have HO0:=Lib.hid h0
  have HO1:=Lib.hid h1
  have HO2:=Lib.hid h2
  have HO3:=Lib.hid h3
  have HG:=Lib.hid g
  clear hB h0 h1 h2 h3 g
  go_enter Tryz.func92,Tryz.ntmps92
  go_wp2_with fail
  refine (ixb_n t (kb) _ (HG.out.ext (Ext.refl w)) HCB.out HO0.out HO1.out HO2.out HO3.out).mono ?_;rintro e w1 ⟨rfl,e1⟩
  have HX1:Hid (Ext w w1):=Lib.hid ((Ext.refl w).trans e1)
  have HBP_1:=Lib.hid (Blk.ext HCB.out e1)
  clear e1
  go_wp2
  go_ret
  exact ⟨rfl,HX1.out⟩

set_option maxHeartbeats 2000000 in
theorem rchk_b0 (t:Q4) (w:World) (g:Gd w) (h0:obad t.w=true):Calls Tryz.prog 41 #[.agg #[.int .i64 t.w,.int .i64 t.x,.int .i64 t.y,.int .i64 t.z]] w (Ret w (.int .i64 3)):=by
  have HO0:=Lib.hid h0
  have HG:=Lib.hid g
  clear h0 g
  go_enter Tryz.func41,Tryz.ntmps41
  go_wp2_with fail
  refine (cfb_0 t (w.heap.size) _ (HG.out.ext ((Ext.refl w).alloc _)) (Blk.new' (w:=_) (cs:=#[.int .i64 t.w,.int .i64 t.x,.int .i64 t.y,.int .i64 t.z]) (t:=22) (by first|rfl|(simp only [World.size_alloc];done)|(simp only [World.size_alloc];omega)|simp)) HO0.out).mono ?_;rintro e w1 ⟨rfl,e1⟩
  have HX1:Hid (Ext w w1):=Lib.hid (((Ext.refl w).alloc _).trans e1)
  have HB0_1:Hid (Blk w1 (w.heap.size) #[.int .i64 t.w,.int .i64 t.x,.int .i64 t.y,.int .i64 t.z] 22):=Lib.hid (Blk.ext (Blk.new' (w:=_) (cs:=#[.int .i64 t.w,.int .i64 t.x,.int .i64 t.y,.int .i64 t.z]) (t:=22) (by first|rfl|(simp only [World.size_alloc];done)|(simp only [World.size_alloc];omega)|simp)) e1)
  have HGEB0:Hid (w.heap.size≤w.heap.size):=Lib.hid (by first|omega|(simp only [];omega)|(simp;omega))
  clear e1
  go_wp2
  go_ret
  exact ⟨rfl,HX1.out⟩

set_option maxHeartbeats 2000000 in
theorem rchk_b1 (t:Q4) (w:World) (g:Gd w) (h0:obad t.w=false) (h1:obad t.x=true):Calls Tryz.prog 41 #[.agg #[.int .i64 t.w,.int .i64 t.x,.int .i64 t.y,.int .i64 t.z]] w (Ret w (.int .i64 3)):=by
  have HO0:=Lib.hid h0
  have HO1:=Lib.hid h1
  have HG:=Lib.hid g
  clear h0 h1 g
  go_enter Tryz.func41,Tryz.ntmps41
  go_wp2_with fail
  refine (cfb_1 t (w.heap.size) _ (HG.out.ext ((Ext.refl w).alloc _)) (Blk.new' (w:=_) (cs:=#[.int .i64 t.w,.int .i64 t.x,.int .i64 t.y,.int .i64 t.z]) (t:=22) (by first|rfl|(simp only [World.size_alloc];done)|(simp only [World.size_alloc];omega)|simp)) HO0.out HO1.out).mono ?_;rintro e w1 ⟨rfl,e1⟩
  have HX1:Hid (Ext w w1):=Lib.hid (((Ext.refl w).alloc _).trans e1)
  have HB0_1:Hid (Blk w1 (w.heap.size) #[.int .i64 t.w,.int .i64 t.x,.int .i64 t.y,.int .i64 t.z] 22):=Lib.hid (Blk.ext (Blk.new' (w:=_) (cs:=#[.int .i64 t.w,.int .i64 t.x,.int .i64 t.y,.int .i64 t.z]) (t:=22) (by first|rfl|(simp only [World.size_alloc];done)|(simp only [World.size_alloc];omega)|simp)) e1)
  have HGEB0:Hid (w.heap.size≤w.heap.size):=Lib.hid (by first|omega|(simp only [];omega)|(simp;omega))
  clear e1
  go_wp2
  go_ret
  exact ⟨rfl,HX1.out⟩

set_option maxHeartbeats 2000000 in
theorem rchk_b2 (t:Q4) (w:World) (g:Gd w) (h0:obad t.w=false) (h1:obad t.x=false) (h2:obad t.y=true):Calls Tryz.prog 41 #[.agg #[.int .i64 t.w,.int .i64 t.x,.int .i64 t.y,.int .i64 t.z]] w (Ret w (.int .i64 3)):=by
  have HO0:=Lib.hid h0
  have HO1:=Lib.hid h1
  have HO2:=Lib.hid h2
  have HG:=Lib.hid g
  clear h0 h1 h2 g
  go_enter Tryz.func41,Tryz.ntmps41
  go_wp2_with fail
  refine (cfb_2 t (w.heap.size) _ (HG.out.ext ((Ext.refl w).alloc _)) (Blk.new' (w:=_) (cs:=#[.int .i64 t.w,.int .i64 t.x,.int .i64 t.y,.int .i64 t.z]) (t:=22) (by first|rfl|(simp only [World.size_alloc];done)|(simp only [World.size_alloc];omega)|simp)) HO0.out HO1.out HO2.out).mono ?_;rintro e w1 ⟨rfl,e1⟩
  have HX1:Hid (Ext w w1):=Lib.hid (((Ext.refl w).alloc _).trans e1)
  have HB0_1:Hid (Blk w1 (w.heap.size) #[.int .i64 t.w,.int .i64 t.x,.int .i64 t.y,.int .i64 t.z] 22):=Lib.hid (Blk.ext (Blk.new' (w:=_) (cs:=#[.int .i64 t.w,.int .i64 t.x,.int .i64 t.y,.int .i64 t.z]) (t:=22) (by first|rfl|(simp only [World.size_alloc];done)|(simp only [World.size_alloc];omega)|simp)) e1)
  have HGEB0:Hid (w.heap.size≤w.heap.size):=Lib.hid (by first|omega|(simp only [];omega)|(simp;omega))
  clear e1
  go_wp2
  go_ret
  exact ⟨rfl,HX1.out⟩

set_option maxHeartbeats 2000000 in
theorem rchk_b3 (t:Q4) (w:World) (g:Gd w) (h0:obad t.w=false) (h1:obad t.x=false) (h2:obad t.y=false) (h3:obad t.z=true):Calls Tryz.prog 41 #[.agg #[.int .i64 t.w,.int .i64 t.x,.int .i64 t.y,.int .i64 t.z]] w (Ret w (.int .i64 3)):=by
  have HO0:=Lib.hid h0
  have HO1:=Lib.hid h1
  have HO2:=Lib.hid h2
  have HO3:=Lib.hid h3
  have HG:=Lib.hid g
  clear h0 h1 h2 h3 g
  go_enter Tryz.func41,Tryz.ntmps41
  go_wp2_with fail
  refine (cfb_3 t (w.heap.size) _ (HG.out.ext ((Ext.refl w).alloc _)) (Blk.new' (w:=_) (cs:=#[.int .i64 t.w,.int .i64 t.x,.int .i64 t.y,.int .i64 t.z]) (t:=22) (by first|rfl|(simp only [World.size_alloc];done)|(simp only [World.size_alloc];omega)|simp)) HO0.out HO1.out HO2.out HO3.out).mono ?_;rintro e w1 ⟨rfl,e1⟩
  have HX1:Hid (Ext w w1):=Lib.hid (((Ext.refl w).alloc _).trans e1)
  have HB0_1:Hid (Blk w1 (w.heap.size) #[.int .i64 t.w,.int .i64 t.x,.int .i64 t.y,.int .i64 t.z] 22):=Lib.hid (Blk.ext (Blk.new' (w:=_) (cs:=#[.int .i64 t.w,.int .i64 t.x,.int .i64 t.y,.int .i64 t.z]) (t:=22) (by first|rfl|(simp only [World.size_alloc];done)|(simp only [World.size_alloc];omega)|simp)) e1)
  have HGEB0:Hid (w.heap.size≤w.heap.size):=Lib.hid (by first|omega|(simp only [];omega)|(simp;omega))
  clear e1
  go_wp2
  go_ret
  exact ⟨rfl,HX1.out⟩

set_option maxHeartbeats 2000000 in
theorem rchk_n0 (a b c d:Int) (w:World) (g:Gd w) (hi:Q4In ⟨a,b,c,d⟩) (h:a≠0):Calls Tryz.prog 41 #[.agg #[.int .i64 a,.int .i64 b,.int .i64 c,.int .i64 d]] w (Ret w (.int .i64 0)):=by
  have HI:=Lib.hid hi
  have HG:=Lib.hid g
  clear hi g
  have h_n:(a != 0)=true:=bne_iff_ne.2 h
  have h_e:(a == 0)=false:=beq_eq_false_iff_ne.2 h
  clear h
  have eqa0:=eq4 a b c d 0 0 0 0
  go_enter Tryz.func41,Tryz.ntmps41
  go_wp2_with fail
  refine (cfb_n ⟨a,b,c,d⟩ (w.heap.size) _ (HG.out.ext ((Ext.refl w).alloc _)) (Blk.new' (w:=_) (cs:=#[.int .i64 a,.int .i64 b,.int .i64 c,.int .i64 d]) (t:=22) (by first|rfl|(simp only [World.size_alloc];done)|(simp only [World.size_alloc];omega)|simp)) (obad_f.2 HI.out.w) (obad_f.2 HI.out.x) (obad_f.2 HI.out.y) (obad_f.2 HI.out.z)).mono ?_;rintro e w1 ⟨rfl,e1⟩
  have HX1:Hid (Ext w w1):=Lib.hid (((Ext.refl w).alloc _).trans e1)
  have HB0_1:Hid (Blk w1 (w.heap.size) #[.int .i64 a,.int .i64 b,.int .i64 c,.int .i64 d] 22):=Lib.hid (Blk.ext (Blk.new' (w:=_) (cs:=#[.int .i64 a,.int .i64 b,.int .i64 c,.int .i64 d]) (t:=22) (by first|rfl|(simp only [World.size_alloc];done)|(simp only [World.size_alloc];omega)|simp)) e1)
  have HGEB0:Hid (w.heap.size≤w.heap.size):=Lib.hid (by first|omega|(simp only [];omega)|(simp;omega))
  clear e1
  have c0_0:=HB0_1.out.cell 0 rfl
  have c0_1:=HB0_1.out.cell 1 rfl
  have c0_2:=HB0_1.out.cell 2 rfl
  have c0_3:=HB0_1.out.cell 3 rfl
  go_wp2
  go_ret
  exact ⟨rfl,HX1.out⟩

set_option maxHeartbeats 2000000 in
theorem rchk_n1 (b c d:Int) (w:World) (g:Gd w) (hi:Q4In ⟨0,b,c,d⟩) (h:b≠0):Calls Tryz.prog 41 #[.agg #[.int .i64 0,.int .i64 b,.int .i64 c,.int .i64 d]] w (Ret w (.int .i64 0)):=by
  have HI:=Lib.hid hi
  have HG:=Lib.hid g
  clear hi g
  have h_n:(b != 0)=true:=bne_iff_ne.2 h
  have h_e:(b == 0)=false:=beq_eq_false_iff_ne.2 h
  clear h
  have eqa0:=eq4 0 b c d 0 0 0 0
  go_enter Tryz.func41,Tryz.ntmps41
  go_wp2_with fail
  refine (cfb_n ⟨0,b,c,d⟩ (w.heap.size) _ (HG.out.ext ((Ext.refl w).alloc _)) (Blk.new' (w:=_) (cs:=#[.int .i64 0,.int .i64 b,.int .i64 c,.int .i64 d]) (t:=22) (by first|rfl|(simp only [World.size_alloc];done)|(simp only [World.size_alloc];omega)|simp)) (obad_f.2 HI.out.w) (obad_f.2 HI.out.x) (obad_f.2 HI.out.y) (obad_f.2 HI.out.z)).mono ?_;rintro e w1 ⟨rfl,e1⟩
  have HX1:Hid (Ext w w1):=Lib.hid (((Ext.refl w).alloc _).trans e1)
  have HB0_1:Hid (Blk w1 (w.heap.size) #[.int .i64 0,.int .i64 b,.int .i64 c,.int .i64 d] 22):=Lib.hid (Blk.ext (Blk.new' (w:=_) (cs:=#[.int .i64 0,.int .i64 b,.int .i64 c,.int .i64 d]) (t:=22) (by first|rfl|(simp only [World.size_alloc];done)|(simp only [World.size_alloc];omega)|simp)) e1)
  have HGEB0:Hid (w.heap.size≤w.heap.size):=Lib.hid (by first|omega|(simp only [];omega)|(simp;omega))
  clear e1
  have c0_0:=HB0_1.out.cell 0 rfl
  have c0_1:=HB0_1.out.cell 1 rfl
  have c0_2:=HB0_1.out.cell 2 rfl
  have c0_3:=HB0_1.out.cell 3 rfl
  go_wp2
  go_ret
  exact ⟨rfl,HX1.out⟩

set_option maxHeartbeats 2000000 in
theorem rchk_n2 (c d:Int) (w:World) (g:Gd w) (hi:Q4In ⟨0,0,c,d⟩) (h:c≠0):Calls Tryz.prog 41 #[.agg #[.int .i64 0,.int .i64 0,.int .i64 c,.int .i64 d]] w (Ret w (.int .i64 0)):=by
  have HI:=Lib.hid hi
  have HG:=Lib.hid g
  clear hi g
  have h_n:(c != 0)=true:=bne_iff_ne.2 h
  have h_e:(c == 0)=false:=beq_eq_false_iff_ne.2 h
  clear h
  have eqa0:=eq4 0 0 c d 0 0 0 0
  go_enter Tryz.func41,Tryz.ntmps41
  go_wp2_with fail
  refine (cfb_n ⟨0,0,c,d⟩ (w.heap.size) _ (HG.out.ext ((Ext.refl w).alloc _)) (Blk.new' (w:=_) (cs:=#[.int .i64 0,.int .i64 0,.int .i64 c,.int .i64 d]) (t:=22) (by first|rfl|(simp only [World.size_alloc];done)|(simp only [World.size_alloc];omega)|simp)) (obad_f.2 HI.out.w) (obad_f.2 HI.out.x) (obad_f.2 HI.out.y) (obad_f.2 HI.out.z)).mono ?_;rintro e w1 ⟨rfl,e1⟩
  have HX1:Hid (Ext w w1):=Lib.hid (((Ext.refl w).alloc _).trans e1)
  have HB0_1:Hid (Blk w1 (w.heap.size) #[.int .i64 0,.int .i64 0,.int .i64 c,.int .i64 d] 22):=Lib.hid (Blk.ext (Blk.new' (w:=_) (cs:=#[.int .i64 0,.int .i64 0,.int .i64 c,.int .i64 d]) (t:=22) (by first|rfl|(simp only [World.size_alloc];done)|(simp only [World.size_alloc];omega)|simp)) e1)
  have HGEB0:Hid (w.heap.size≤w.heap.size):=Lib.hid (by first|omega|(simp only [];omega)|(simp;omega))
  clear e1
  have c0_0:=HB0_1.out.cell 0 rfl
  have c0_1:=HB0_1.out.cell 1 rfl
  have c0_2:=HB0_1.out.cell 2 rfl
  have c0_3:=HB0_1.out.cell 3 rfl
  go_wp2
  go_ret
  exact ⟨rfl,HX1.out⟩

set_option maxHeartbeats 2000000 in
theorem rchk_n3 (d:Int) (w:World) (g:Gd w) (hi:Q4In ⟨0,0,0,d⟩) (h:d≠0):Calls Tryz.prog 41 #[.agg #[.int .i64 0,.int .i64 0,.int .i64 0,.int .i64 d]] w (Ret w (.int .i64 0)):=by
  have HI:=Lib.hid hi
  have HG:=Lib.hid g
  clear hi g
  have h_n:(d != 0)=true:=bne_iff_ne.2 h
  have h_e:(d == 0)=false:=beq_eq_false_iff_ne.2 h
  clear h
  have eqa0:=eq4 0 0 0 d 0 0 0 0
  go_enter Tryz.func41,Tryz.ntmps41
  go_wp2_with fail
  refine (cfb_n ⟨0,0,0,d⟩ (w.heap.size) _ (HG.out.ext ((Ext.refl w).alloc _)) (Blk.new' (w:=_) (cs:=#[.int .i64 0,.int .i64 0,.int .i64 0,.int .i64 d]) (t:=22) (by first|rfl|(simp only [World.size_alloc];done)|(simp only [World.size_alloc];omega)|simp)) (obad_f.2 HI.out.w) (obad_f.2 HI.out.x) (obad_f.2 HI.out.y) (obad_f.2 HI.out.z)).mono ?_;rintro e w1 ⟨rfl,e1⟩
  have HX1:Hid (Ext w w1):=Lib.hid (((Ext.refl w).alloc _).trans e1)
  have HB0_1:Hid (Blk w1 (w.heap.size) #[.int .i64 0,.int .i64 0,.int .i64 0,.int .i64 d] 22):=Lib.hid (Blk.ext (Blk.new' (w:=_) (cs:=#[.int .i64 0,.int .i64 0,.int .i64 0,.int .i64 d]) (t:=22) (by first|rfl|(simp only [World.size_alloc];done)|(simp only [World.size_alloc];omega)|simp)) e1)
  have HGEB0:Hid (w.heap.size≤w.heap.size):=Lib.hid (by first|omega|(simp only [];omega)|(simp;omega))
  clear e1
  have c0_0:=HB0_1.out.cell 0 rfl
  have c0_1:=HB0_1.out.cell 1 rfl
  have c0_2:=HB0_1.out.cell 2 rfl
  have c0_3:=HB0_1.out.cell 3 rfl
  go_wp2
  go_ret
  exact ⟨rfl,HX1.out⟩

set_option maxHeartbeats 2000000 in
theorem rchk_z (w:World) (g:Gd w):Calls Tryz.prog 41 #[.agg #[.int .i64 0,.int .i64 0,.int .i64 0,.int .i64 0]] w (Ret w (.int .i64 17)):=by
  have HG:=Lib.hid g
  clear g
  have eqa0:=eq4 0 0 0 0 0 0 0 0
  go_enter Tryz.func41,Tryz.ntmps41
  go_wp2_with fail
  refine (cfb_n ⟨0,0,0,0⟩ (w.heap.size) _ (HG.out.ext ((Ext.refl w).alloc _)) (Blk.new' (w:=_) (cs:=#[.int .i64 0,.int .i64 0,.int .i64 0,.int .i64 0]) (t:=22) (by first|rfl|(simp only [World.size_alloc];done)|(simp only [World.size_alloc];omega)|simp)) (by decide) (by decide) (by decide) (by decide)).mono ?_;rintro e w1 ⟨rfl,e1⟩
  have HX1:Hid (Ext w w1):=Lib.hid (((Ext.refl w).alloc _).trans e1)
  have HB0_1:Hid (Blk w1 (w.heap.size) #[.int .i64 0,.int .i64 0,.int .i64 0,.int .i64 0] 22):=Lib.hid (Blk.ext (Blk.new' (w:=_) (cs:=#[.int .i64 0,.int .i64 0,.int .i64 0,.int .i64 0]) (t:=22) (by first|rfl|(simp only [World.size_alloc];done)|(simp only [World.size_alloc];omega)|simp)) e1)
  have HGEB0:Hid (w.heap.size≤w.heap.size):=Lib.hid (by first|omega|(simp only [];omega)|(simp;omega))
  clear e1
  have c0_0:=HB0_1.out.cell 0 rfl
  have c0_1:=HB0_1.out.cell 1 rfl
  have c0_2:=HB0_1.out.cell 2 rfl
  have c0_3:=HB0_1.out.cell 3 rfl
  go_wp2
  go_ret
  exact ⟨rfl,HX1.out⟩

theorem rchk_l {t:Q4} {e:Int} (w:World) (g:Gd w) (h:QErr t e):Calls Tryz.prog 41 #[.agg #[.int .i64 t.w,.int .i64 t.x,.int .i64 t.y,.int .i64 t.z]] w (Ret w (.int .i64 e)):=by
  cases h with
  | b0  h=>exact rchk_b0 t w g  h
  | b1 h0 h=>exact rchk_b1 t w g h0 h
  | b2 h0 h1 h=>exact rchk_b2 t w g h0 h1 h
  | b3 h0 h1 h2 h=>exact rchk_b3 t w g h0 h1 h2 h
  | zero h=>subst h;exact rchk_z w g
  | ok hi hz =>
    cases t with
    | mk a b c d =>
    by_cases h0:a=0
    · subst h0
      by_cases h1:b=0
      · subst h1
        by_cases h2:c=0
        · subst h2
          exact rchk_n3 d w g hi (fun e=>hz ⟨rfl,rfl,rfl,e⟩)
        · exact rchk_n2 c d w g hi h2
      · exact rchk_n1 b c d w g hi h1
    · exact rchk_n0 a b c d w g hi h0

end Go.Proofs.YtjeimihnoiephaaGreatDoor

namespace Go.Proofs.YtjeimihnoiephaaGreatDoor
open Go Go.RowKit
set_option linter.unusedVariables false
theorem parts_as (x:Rat) (c:Int) (e:(x.den:Int)=c) (w:World) (g:Gd w) (hx:QB 100 x):Calls Tryz.prog 72 #[.string (qs x)] w (Ret w (.tuple #[.string (zs x.num),.string (zs c)])):=by
  subst e;exact parts_c x w hx (by decide)
theorem gcd1_as (c g0:Int) (e:(Int.gcd 1 c:Int)=g0) (w:World) (g:Gd w) (hc:IB 100 c):Calls Tryz.prog 73 #[.string ⟨#[49]⟩,.string (zs c)] w (Ret w (.string (zs g0))):=by
  subst e;exact gcd_1 c w g hc (by decide)
theorem gcd0_as (c g0:Int) (e:(Int.gcd 0 c:Int)=g0) {k:Nat} (w:World) (g:Gd w) (hc:IB k c) (hk:k≤2000):Calls Tryz.prog 73 #[.string ⟨#[48]⟩,.string (zs c)] w (Ret w (.string (zs g0))):=by
  subst e;exact gcd_0 c w g hc (by omega)
theorem gcd_as (a c g0:Int) (e:(Int.gcd a c:Int)=g0) {k m:Nat} (w:World) (g:Gd w) (ha:IB k a) (hc:IB m c) (hk:k≤2000) (hm:m≤2000):Calls Tryz.prog 73 #[.string (zs a),.string (zs c)] w (Ret w (.string (zs g0))):=by
  subst e;exact gcd_c a c w g ha hc (by omega) (by omega)
theorem div_as (a c q:Int) (e:a / c=q) {k m:Nat} (w:World) (g:Gd w) (ha:IB k a) (hc:IB m c) (hk:k≤2000) (hm:m≤2000) (hz:c≠0):Calls Tryz.prog 74 #[.string (zs a),.string (zs c)] w (Ret w (.tuple #[.string (zs q),.string (zs (a % c)),.int .i64 0])):=by
  subst e;exact divmod_c a c w g ha hc (by omega) (by omega) hz
theorem imul1_as (a q:Int) (e:1*a=q) {k:Nat} (w:World) (g:Gd w) (ha:IB k a) (hk:k≤2000):Calls Tryz.prog 75 #[.string ⟨#[49]⟩,.string (zs a)] w (Ret w (.string (zs q))):=by
  subst e;exact imul_1 a w g ha (by omega)
theorem imul_as (a c q:Int) (e:a*c=q) {k m:Nat} (w:World) (g:Gd w) (ha:IB k a) (hc:IB m c) (hk:k≤2000) (hm:m≤2000):Calls Tryz.prog 75 #[.string (zs a),.string (zs c)] w (Ret w (.string (zs q))):=by
  subst e;exact mul_c a c w g ha hc (by omega) (by omega)
theorem rmulz_as (x:Rat) (d n:Int) (e:x*(d:Rat)=(n:Rat)) (w:World) (g:Gd w) (hx:QB 100 x) (hd:IB 401 d):Calls Tryz.prog 46 #[.string (qs x),.string (zs d)] w (Ret w (.string (zs n))):=by
  have h:=rmul_c x (d:Rat) w g hx (QB.int hd (by decide)) (by decide) (by decide)
  rwa [e,qs_int,qs_int] at h
theorem partsz_c (n:Int) {k:Nat} (w:World) (h:IB k n) (h1:1≤k) (hk:k≤2000):Calls Tryz.prog 72 #[.string (zs n)] w (Ret w (.tuple #[.string (zs n),.string ⟨#[49]⟩])):=by
  have:=parts_c (n:Rat) w (QB.int h h1) (by omega)
  rwa [qs_int,Rat.num_intCast,Rat.den_intCast,show ((1:Nat):Int)=1 from rfl,zs_one] at this
theorem gcd_nz {a c g0:Int} (e:(Int.gcd a c:Int)=g0) (h:0<c):g0≠0:=by
  subst e;exact gcd_ne (by omega)
theorem prim4_pos {t p:Q4} {j:Int} (h:¬ t.zero) (hs:sg4 t=1) (hj:(gcd4 t:Int)=j) (hp:prim4 t=p):t.w / j=p.w∧t.x / j=p.x∧t.y / j=p.y∧t.z / j=p.z:=by
  have e:=prim4_ediv h
  rw [hs,Int.one_mul,hj,hp] at e
  exact ⟨e.1.symm,e.2.1.symm,e.2.2.1.symm,e.2.2.2.symm⟩
theorem sg4_w {t:Q4} (h:0<t.w):sg4 t=1:=by
  unfold sg4
  rw [if_pos (by omega)]
  exact Int.sign_eq_one_of_pos h
theorem num4_pos {x y z u:Rat} (h:0<x):0<(num4 x y z u).w:=by
  have e:=num4_w x y z u
  have hd:(0:Rat)<(den4 x y z u:Rat):=Rat.intCast_pos.2 (den4_pos x y z u)
  have hp:=Rat.mul_pos h hd
  rw [e] at hp
  exact Rat.intCast_pos.1 hp
theorem sign_as (n s:Int) (e:n.sign=s) (w:World):Calls Tryz.prog 98 #[.string (zs n)] w (fun e' w'=>e' = .returned (.int .i64 s)∧w=w'):=by
  subst e;exact sign_c n w
theorem num_ib {x:Rat} {d n:Int} {k m:Nat} (e:x*(d:Rat)=(n:Rat)) (hx:QB k x) (hd:IB m d) (h1:1≤m):IB (k+m) n:=by
  have h:=hx.mul (QB.int hd h1)
  rw [e] at h
  exact ⟨by have:=h.num;rwa [Rat.num_intCast] at this⟩

set_option maxHeartbeats 32000000 in
theorem rwhole_in (x0 x1 x2 x3:Rat) (N p:Q4) (w:World) (g:Gd w) (h0:QB 100 x0) (h1:QB 100 x1) (h2:QB 100 x2) (h3:QB 100 x3) (hn:num4 x0 x1 x2 x3=N) (h00:0<x0) (hp:prim4 N=p) (hi:Q4In p):Calls Tryz.prog 45 #[.agg #[.string (qs x0),.string (qs x1),.string (qs x2),.string (qs x3)]] w (Ret w (.tuple #[.agg #[.int .i64 p.w,.int .i64 p.x,.int .i64 p.y,.int .i64 p.z],.int .i64 0])):=by
  have Hx0:=Lib.hid h0
  have Hx1:=Lib.hid h1
  have Hx2:=Lib.hid h2
  have Hx3:=Lib.hid h3
  have HN:=Lib.hid hn
  have H00:=Lib.hid h00
  have HP:=Lib.hid hp
  have HI:=Lib.hid hi
  have HG:=Lib.hid g
  clear h0 h1 h2 h3 hn h00 hp hi g
  have HZ:Hid (¬ N.zero):=Lib.hid (HN.out▸num4_nz (fun h=>absurd h.1 (Rat.ne_of_gt H00.out)))
  obtain ⟨c0,e_⟩:∃ n,(x0.den:Int)=n:=⟨_,rfl⟩
  have Hc0E:=Lib.hid e_;have Hc0B:Hid (IB 100 c0):=Lib.hid (by rw [← e_];exact QB.iden Hx0.out);have Hc0P:Hid (0<c0):=Lib.hid (by rw [← e_];exact qden_pos _);clear e_
  obtain ⟨G0,e_⟩:∃ n,(Int.gcd 1 c0:Int)=n:=⟨_,rfl⟩
  have HG0E:=Lib.hid e_;have HG0B:Hid (IB 100 G0):=Lib.hid (by rw [← e_];exact IB.gcd IB.one Hc0B.out);have HG0N:Hid (G0≠0):=Lib.hid (by exact gcd_nz e_ Hc0P.out);clear e_
  obtain ⟨K0,e_⟩:∃ n,c0 / G0=n:=⟨_,rfl⟩
  have HK0E:=Lib.hid e_;have HK0B:Hid (IB 100 K0):=Lib.hid (by rw [← e_];exact Hc0B.out.div _);clear e_
  obtain ⟨D1,e_⟩:∃ n,1*K0=n:=⟨_,rfl⟩
  have HD1E:=Lib.hid e_;have HD1B:Hid (IB 101 D1):=Lib.hid (by rw [← e_];exact IB.one.mul HK0B.out);clear e_
  obtain ⟨c1,e_⟩:∃ n,(x1.den:Int)=n:=⟨_,rfl⟩
  have Hc1E:=Lib.hid e_;have Hc1B:Hid (IB 100 c1):=Lib.hid (by rw [← e_];exact QB.iden Hx1.out);have Hc1P:Hid (0<c1):=Lib.hid (by rw [← e_];exact qden_pos _);clear e_
  obtain ⟨G1,e_⟩:∃ n,(Int.gcd D1 c1:Int)=n:=⟨_,rfl⟩
  have HG1E:=Lib.hid e_;have HG1B:Hid (IB 101 G1):=Lib.hid (by rw [← e_];exact IB.gcd HD1B.out Hc1B.out);have HG1N:Hid (G1≠0):=Lib.hid (by exact gcd_nz e_ Hc1P.out);clear e_
  obtain ⟨K1,e_⟩:∃ n,c1 / G1=n:=⟨_,rfl⟩
  have HK1E:=Lib.hid e_;have HK1B:Hid (IB 100 K1):=Lib.hid (by rw [← e_];exact Hc1B.out.div _);clear e_
  obtain ⟨D2,e_⟩:∃ n,D1*K1=n:=⟨_,rfl⟩
  have HD2E:=Lib.hid e_;have HD2B:Hid (IB 201 D2):=Lib.hid (by rw [← e_];exact HD1B.out.mul HK1B.out);clear e_
  obtain ⟨c2,e_⟩:∃ n,(x2.den:Int)=n:=⟨_,rfl⟩
  have Hc2E:=Lib.hid e_;have Hc2B:Hid (IB 100 c2):=Lib.hid (by rw [← e_];exact QB.iden Hx2.out);have Hc2P:Hid (0<c2):=Lib.hid (by rw [← e_];exact qden_pos _);clear e_
  obtain ⟨G2,e_⟩:∃ n,(Int.gcd D2 c2:Int)=n:=⟨_,rfl⟩
  have HG2E:=Lib.hid e_;have HG2B:Hid (IB 201 G2):=Lib.hid (by rw [← e_];exact IB.gcd HD2B.out Hc2B.out);have HG2N:Hid (G2≠0):=Lib.hid (by exact gcd_nz e_ Hc2P.out);clear e_
  obtain ⟨K2,e_⟩:∃ n,c2 / G2=n:=⟨_,rfl⟩
  have HK2E:=Lib.hid e_;have HK2B:Hid (IB 100 K2):=Lib.hid (by rw [← e_];exact Hc2B.out.div _);clear e_
  obtain ⟨D3,e_⟩:∃ n,D2*K2=n:=⟨_,rfl⟩
  have HD3E:=Lib.hid e_;have HD3B:Hid (IB 301 D3):=Lib.hid (by rw [← e_];exact HD2B.out.mul HK2B.out);clear e_
  obtain ⟨c3,e_⟩:∃ n,(x3.den:Int)=n:=⟨_,rfl⟩
  have Hc3E:=Lib.hid e_;have Hc3B:Hid (IB 100 c3):=Lib.hid (by rw [← e_];exact QB.iden Hx3.out);have Hc3P:Hid (0<c3):=Lib.hid (by rw [← e_];exact qden_pos _);clear e_
  obtain ⟨G3,e_⟩:∃ n,(Int.gcd D3 c3:Int)=n:=⟨_,rfl⟩
  have HG3E:=Lib.hid e_;have HG3B:Hid (IB 301 G3):=Lib.hid (by rw [← e_];exact IB.gcd HD3B.out Hc3B.out);have HG3N:Hid (G3≠0):=Lib.hid (by exact gcd_nz e_ Hc3P.out);clear e_
  obtain ⟨K3,e_⟩:∃ n,c3 / G3=n:=⟨_,rfl⟩
  have HK3E:=Lib.hid e_;have HK3B:Hid (IB 100 K3):=Lib.hid (by rw [← e_];exact Hc3B.out.div _);clear e_
  obtain ⟨D4,e_⟩:∃ n,D3*K3=n:=⟨_,rfl⟩
  have HD4E:=Lib.hid e_;have HD4B:Hid (IB 401 D4):=Lib.hid (by rw [← e_];exact HD3B.out.mul HK3B.out);clear e_
  have HD4E2:Hid (den4 x0 x1 x2 x3=D4):=Lib.hid (by unfold den4 lc;rw [Hc0E.out,Hc1E.out,Hc2E.out,Hc3E.out,HG0E.out,HK0E.out,HD1E.out,HG1E.out,HK1E.out,HD2E.out,HG2E.out,HK2E.out,HD3E.out,HG3E.out,HK3E.out,HD4E.out])
  have HM0:Hid (x0*(D4:Rat)=(N.w:Rat)):=Lib.hid (by rw [← HD4E2.out,← HN.out];exact num4_w x0 x1 x2 x3)
  have HN0B:Hid (IB 501 N.w):=Lib.hid (num_ib HM0.out Hx0.out HD4B.out (by decide))
  have HM1:Hid (x1*(D4:Rat)=(N.x:Rat)):=Lib.hid (by rw [← HD4E2.out,← HN.out];exact num4_x x0 x1 x2 x3)
  have HN1B:Hid (IB 501 N.x):=Lib.hid (num_ib HM1.out Hx1.out HD4B.out (by decide))
  have HM2:Hid (x2*(D4:Rat)=(N.y:Rat)):=Lib.hid (by rw [← HD4E2.out,← HN.out];exact num4_y x0 x1 x2 x3)
  have HN2B:Hid (IB 501 N.y):=Lib.hid (num_ib HM2.out Hx2.out HD4B.out (by decide))
  have HM3:Hid (x3*(D4:Rat)=(N.z:Rat)):=Lib.hid (by rw [← HD4E2.out,← HN.out];exact num4_z x0 x1 x2 x3)
  have HN3B:Hid (IB 501 N.z):=Lib.hid (num_ib HM3.out Hx3.out HD4B.out (by decide))
  obtain ⟨J1,e_⟩:∃ n,(Int.gcd 0 N.w:Int)=n:=⟨_,rfl⟩
  have HJ1E:=Lib.hid e_;have HJ1B:Hid (IB 501 J1):=Lib.hid (by rw [← e_];exact IB.gcd (IB.zero.mono (by decide:1≤501)) HN0B.out);clear e_
  obtain ⟨J2,e_⟩:∃ n,(Int.gcd J1 N.x:Int)=n:=⟨_,rfl⟩
  have HJ2E:=Lib.hid e_;have HJ2B:Hid (IB 501 J2):=Lib.hid (by rw [← e_];exact IB.gcd HJ1B.out HN1B.out);clear e_
  obtain ⟨J3,e_⟩:∃ n,(Int.gcd J2 N.y:Int)=n:=⟨_,rfl⟩
  have HJ3E:=Lib.hid e_;have HJ3B:Hid (IB 501 J3):=Lib.hid (by rw [← e_];exact IB.gcd HJ2B.out HN2B.out);clear e_
  obtain ⟨J4,e_⟩:∃ n,(Int.gcd J3 N.z:Int)=n:=⟨_,rfl⟩
  have HJ4E:=Lib.hid e_;have HJ4B:Hid (IB 501 J4):=Lib.hid (by rw [← e_];exact IB.gcd HJ3B.out HN3B.out);clear e_
  have HJ4:Hid ((gcd4 N:Int)=J4):=Lib.hid (by rw [← gcd4_int,HJ1E.out,HJ2E.out,HJ3E.out,HJ4E.out])
  have HJN:Hid (J4≠0):=Lib.hid (by have:=gcd4_pos HZ.out;have:=HJ4.out;omega)
  have HW0:Hid (0<N.w):=Lib.hid (HN.out▸num4_pos H00.out)
  have HSE:Hid (sg4 N=1):=Lib.hid (sg4_w HW0.out)
  have HPD:=Lib.hid (prim4_pos HZ.out HSE.out HJ4.out HP.out)
  have HPB:Hid (IB 501 p.w∧IB 501 p.x∧IB 501 p.y∧IB 501 p.z):=Lib.hid (by
    have e:=prim4_ediv HZ.out
    rw [HP.out] at e
    rw [e.1,e.2.1,e.2.2.1,e.2.2.2]
    exact ⟨HN0B.out.div _,HN1B.out.div _,HN2B.out.div _,HN3B.out.div _⟩)
  have ix0:∀ W,(Instr.index 90 (.agg #[.string (qs x0),.string (qs x1),.string (qs x2),.string (qs x3)]) (.int .i64 0)).run Tryz.prog W = .ok (.string (qs x0)) W:=fun W=>by kernel_rfl
  have ix1:∀ W,(Instr.index 90 (.agg #[.string (qs x0),.string (qs x1),.string (qs x2),.string (qs x3)]) (.int .i64 1)).run Tryz.prog W = .ok (.string (qs x1)) W:=fun W=>by kernel_rfl
  have ix2:∀ W,(Instr.index 90 (.agg #[.string (qs x0),.string (qs x1),.string (qs x2),.string (qs x3)]) (.int .i64 2)).run Tryz.prog W = .ok (.string (qs x2)) W:=fun W=>by kernel_rfl
  have ix3:∀ W,(Instr.index 90 (.agg #[.string (qs x0),.string (qs x1),.string (qs x2),.string (qs x3)]) (.int .i64 3)).run Tryz.prog W = .ok (.string (qs x3)) W:=fun W=>by kernel_rfl
  have ix4:∀ W,(Instr.index 90 (.agg #[.string (qs x0),.string (qs x1),.string (qs x2),.string (qs x3)]) (.int .i64 0)).run Tryz.prog W = .ok (.string (qs x0)) W:=fun W=>by kernel_rfl
  have ix5:∀ W,(Instr.index 90 (.agg #[.string (qs x0),.string (qs x1),.string (qs x2),.string (qs x3)]) (.int .i64 1)).run Tryz.prog W = .ok (.string (qs x1)) W:=fun W=>by kernel_rfl
  have ix6:∀ W,(Instr.index 90 (.agg #[.string (qs x0),.string (qs x1),.string (qs x2),.string (qs x3)]) (.int .i64 2)).run Tryz.prog W = .ok (.string (qs x2)) W:=fun W=>by kernel_rfl
  have ix7:∀ W,(Instr.index 90 (.agg #[.string (qs x0),.string (qs x1),.string (qs x2),.string (qs x3)]) (.int .i64 3)).run Tryz.prog W = .ok (.string (qs x3)) W:=fun W=>by kernel_rfl
  have ix8:∀ W,(Instr.index 134 (.agg #[.string (zs N.w),.string (zs N.x),.string (zs N.y),.string (zs N.z)]) (.int .i64 0)).run Tryz.prog W = .ok (.string (zs N.w)) W:=fun W=>by kernel_rfl
  have ix9:∀ W,(Instr.index 134 (.agg #[.string (zs N.w),.string (zs N.x),.string (zs N.y),.string (zs N.z)]) (.int .i64 1)).run Tryz.prog W = .ok (.string (zs N.x)) W:=fun W=>by kernel_rfl
  have ix10:∀ W,(Instr.index 134 (.agg #[.string (zs N.w),.string (zs N.x),.string (zs N.y),.string (zs N.z)]) (.int .i64 2)).run Tryz.prog W = .ok (.string (zs N.y)) W:=fun W=>by kernel_rfl
  have ix11:∀ W,(Instr.index 134 (.agg #[.string (zs N.w),.string (zs N.x),.string (zs N.y),.string (zs N.z)]) (.int .i64 3)).run Tryz.prog W = .ok (.string (zs N.z)) W:=fun W=>by kernel_rfl
  go_enter Tryz.func45,Tryz.ntmps45
  go_wp2_with fail
  refine wp_loop_rounds 5 ?_
  rw [rounds_succ]
  go_wp2_with fail
  refine (parts_as x0 c0 Hc0E.out _ (HG.out.ext (((Ext.refl w).alloc _).alloc _)) Hx0.out).mono ?_;rintro e w1 ⟨rfl,e1⟩
  have HX1:Hid (Ext w w1):=Lib.hid ((((Ext.refl w).alloc _).alloc _).trans e1)
  have HB0_1:Hid (Blk w1 (w.heap.size) #[.string (qs x0),.string (qs x1),.string (qs x2),.string (qs x3)] 90):=Lib.hid (Blk.ext ((Blk.new' (w:=_) (cs:=#[.string (qs x0),.string (qs x1),.string (qs x2),.string (qs x3)]) (t:=90) (by first|rfl|(simp only [World.size_alloc];done)|(simp only [World.size_alloc];omega)|simp)).alloc _) e1)
  have HB1_1:Hid (Blk w1 (w.heap.size+1) #[.int .i64 0,.int .i64 0,.int .i64 0,.int .i64 0] 22):=Lib.hid (Blk.ext (Blk.new' (w:=_) (cs:=#[.int .i64 0,.int .i64 0,.int .i64 0,.int .i64 0]) (t:=22) (by first|rfl|(simp only [World.size_alloc];done)|(simp only [World.size_alloc];omega)|simp)) e1)
  have HGEB0:Hid (w.heap.size≤w.heap.size):=Lib.hid (by first|omega|(simp only [];omega)|(simp;omega))
  have HGEB1:Hid (w.heap.size≤w.heap.size+1):=Lib.hid (by first|omega|(simp only [];omega)|(simp;omega))
  clear e1
  go_wp2_with fail
  refine (gcd1_as c0 G0 HG0E.out _ (HG.out.ext HX1.out) Hc0B.out).mono ?_;rintro e w2 ⟨rfl,e2⟩
  have HX2:Hid (Ext w w2):=Lib.hid (HX1.out.trans e2)
  have HB0_2:=Lib.hid (Blk.ext HB0_1.out e2)
  have HB1_2:=Lib.hid (Blk.ext HB1_1.out e2)
  clear e2
  go_wp2_with fail
  refine (div_as c0 G0 K0 HK0E.out _ (HG.out.ext HX2.out) Hc0B.out HG0B.out (by decide) (by decide) HG0N.out).mono ?_;rintro e w3 ⟨rfl,e3⟩
  have HX3:Hid (Ext w w3):=Lib.hid (HX2.out.trans e3)
  have HB0_3:=Lib.hid (Blk.ext HB0_2.out e3)
  have HB1_3:=Lib.hid (Blk.ext HB1_2.out e3)
  clear e3
  go_wp2_with fail
  refine (imul1_as K0 D1 HD1E.out _ (HG.out.ext HX3.out) HK0B.out (by decide)).mono ?_;rintro e w4 ⟨rfl,e4⟩
  have HX4:Hid (Ext w w4):=Lib.hid (HX3.out.trans e4)
  have HB0_4:=Lib.hid (Blk.ext HB0_3.out e4)
  have HB1_4:=Lib.hid (Blk.ext HB1_3.out e4)
  clear e4
  go_wp2_with fail
  rw [rounds_succ]
  go_wp2_with fail
  refine (parts_as x1 c1 Hc1E.out _ (HG.out.ext HX4.out) Hx1.out).mono ?_;rintro e w5 ⟨rfl,e5⟩
  have HX5:Hid (Ext w w5):=Lib.hid (HX4.out.trans e5)
  have HB0_5:=Lib.hid (Blk.ext HB0_4.out e5)
  have HB1_5:=Lib.hid (Blk.ext HB1_4.out e5)
  clear e5
  go_wp2_with fail
  refine (gcd_as D1 c1 G1 HG1E.out _ (HG.out.ext HX5.out) HD1B.out Hc1B.out (by decide) (by decide)).mono ?_;rintro e w6 ⟨rfl,e6⟩
  have HX6:Hid (Ext w w6):=Lib.hid (HX5.out.trans e6)
  have HB0_6:=Lib.hid (Blk.ext HB0_5.out e6)
  have HB1_6:=Lib.hid (Blk.ext HB1_5.out e6)
  clear e6
  go_wp2_with fail
  refine (div_as c1 G1 K1 HK1E.out _ (HG.out.ext HX6.out) Hc1B.out HG1B.out (by decide) (by decide) HG1N.out).mono ?_;rintro e w7 ⟨rfl,e7⟩
  have HX7:Hid (Ext w w7):=Lib.hid (HX6.out.trans e7)
  have HB0_7:=Lib.hid (Blk.ext HB0_6.out e7)
  have HB1_7:=Lib.hid (Blk.ext HB1_6.out e7)
  clear e7
  go_wp2_with fail
  refine (imul_as D1 K1 D2 HD2E.out _ (HG.out.ext HX7.out) HD1B.out HK1B.out (by decide) (by decide)).mono ?_;rintro e w8 ⟨rfl,e8⟩
  have HX8:Hid (Ext w w8):=Lib.hid (HX7.out.trans e8)
  have HB0_8:=Lib.hid (Blk.ext HB0_7.out e8)
  have HB1_8:=Lib.hid (Blk.ext HB1_7.out e8)
  clear e8
  go_wp2_with fail
  rw [rounds_succ]
  go_wp2_with fail
  refine (parts_as x2 c2 Hc2E.out _ (HG.out.ext HX8.out) Hx2.out).mono ?_;rintro e w9 ⟨rfl,e9⟩
  have HX9:Hid (Ext w w9):=Lib.hid (HX8.out.trans e9)
  have HB0_9:=Lib.hid (Blk.ext HB0_8.out e9)
  have HB1_9:=Lib.hid (Blk.ext HB1_8.out e9)
  clear e9
  go_wp2_with fail
  refine (gcd_as D2 c2 G2 HG2E.out _ (HG.out.ext HX9.out) HD2B.out Hc2B.out (by decide) (by decide)).mono ?_;rintro e w10 ⟨rfl,e10⟩
  have HX10:Hid (Ext w w10):=Lib.hid (HX9.out.trans e10)
  have HB0_10:=Lib.hid (Blk.ext HB0_9.out e10)
  have HB1_10:=Lib.hid (Blk.ext HB1_9.out e10)
  clear e10
  go_wp2_with fail
  refine (div_as c2 G2 K2 HK2E.out _ (HG.out.ext HX10.out) Hc2B.out HG2B.out (by decide) (by decide) HG2N.out).mono ?_;rintro e w11 ⟨rfl,e11⟩
  have HX11:Hid (Ext w w11):=Lib.hid (HX10.out.trans e11)
  have HB0_11:=Lib.hid (Blk.ext HB0_10.out e11)
  have HB1_11:=Lib.hid (Blk.ext HB1_10.out e11)
  clear e11
  go_wp2_with fail
  refine (imul_as D2 K2 D3 HD3E.out _ (HG.out.ext HX11.out) HD2B.out HK2B.out (by decide) (by decide)).mono ?_;rintro e w12 ⟨rfl,e12⟩
  have HX12:Hid (Ext w w12):=Lib.hid (HX11.out.trans e12)
  have HB0_12:=Lib.hid (Blk.ext HB0_11.out e12)
  have HB1_12:=Lib.hid (Blk.ext HB1_11.out e12)
  clear e12
  go_wp2_with fail
  rw [rounds_succ]
  go_wp2_with fail
  refine (parts_as x3 c3 Hc3E.out _ (HG.out.ext HX12.out) Hx3.out).mono ?_;rintro e w13 ⟨rfl,e13⟩
  have HX13:Hid (Ext w w13):=Lib.hid (HX12.out.trans e13)
  have HB0_13:=Lib.hid (Blk.ext HB0_12.out e13)
  have HB1_13:=Lib.hid (Blk.ext HB1_12.out e13)
  clear e13
  go_wp2_with fail
  refine (gcd_as D3 c3 G3 HG3E.out _ (HG.out.ext HX13.out) HD3B.out Hc3B.out (by decide) (by decide)).mono ?_;rintro e w14 ⟨rfl,e14⟩
  have HX14:Hid (Ext w w14):=Lib.hid (HX13.out.trans e14)
  have HB0_14:=Lib.hid (Blk.ext HB0_13.out e14)
  have HB1_14:=Lib.hid (Blk.ext HB1_13.out e14)
  clear e14
  go_wp2_with fail
  refine (div_as c3 G3 K3 HK3E.out _ (HG.out.ext HX14.out) Hc3B.out HG3B.out (by decide) (by decide) HG3N.out).mono ?_;rintro e w15 ⟨rfl,e15⟩
  have HX15:Hid (Ext w w15):=Lib.hid (HX14.out.trans e15)
  have HB0_15:=Lib.hid (Blk.ext HB0_14.out e15)
  have HB1_15:=Lib.hid (Blk.ext HB1_14.out e15)
  clear e15
  go_wp2_with fail
  refine (imul_as D3 K3 D4 HD4E.out _ (HG.out.ext HX15.out) HD3B.out HK3B.out (by decide) (by decide)).mono ?_;rintro e w16 ⟨rfl,e16⟩
  have HX16:Hid (Ext w w16):=Lib.hid (HX15.out.trans e16)
  have HB0_16:=Lib.hid (Blk.ext HB0_15.out e16)
  have HB1_16:=Lib.hid (Blk.ext HB1_15.out e16)
  clear e16
  go_wp2_with fail
  rw [rounds_succ]
  go_upto_region 11 with fail
  refine wp_name (fun W=>Ext w W∧Blk W (w.heap.size) #[.string (qs x0),.string (qs x1),.string (qs x2),.string (qs x3)] 90∧Blk W (w.heap.size+1) #[.int .i64 0,.int .i64 0,.int .i64 0,.int .i64 0] 22∧Blk W (w16.heap.size) #[.string ⟨#[]⟩,.string ⟨#[]⟩,.string ⟨#[]⟩,.string ⟨#[]⟩] 134) ⟨(HX16.out.alloc _),(HB0_16.out.alloc _),(HB1_16.out.alloc _),(Blk.new' (w:=_) (cs:=#[.string ⟨#[]⟩,.string ⟨#[]⟩,.string ⟨#[]⟩,.string ⟨#[]⟩]) (t:=134) (by first|rfl|(simp only [World.size_alloc];done)|(simp only [World.size_alloc];omega)|simp))⟩ ?_
  rintro w17 ⟨e17,bB0_17,bB1_17,bB2_17⟩
  have HX17:=Lib.hid e17;have HB0_17:=Lib.hid bB0_17;have HB1_17:=Lib.hid bB1_17;have HB2_17:=Lib.hid bB2_17
  have HGEB2:Hid (w.heap.size≤w16.heap.size):=Lib.hid (by have:=HX16.out.size;first|omega|(simp only [];omega)|(simp;omega))
  clear e17 bB0_17 bB1_17 bB2_17
  have c0_0:=HB0_17.out.cell 0 rfl
  have c0_1:=HB0_17.out.cell 1 rfl
  have c0_2:=HB0_17.out.cell 2 rfl
  have c0_3:=HB0_17.out.cell 3 rfl
  go_wp2_with fail
  refine wp_loop_rounds 5 ?_
  rw [rounds_succ]
  clear c0_0 c0_1 c0_2 c0_3
  go_wp2_with fail
  refine (rmulz_as x0 D4 N.w HM0.out _ (HG.out.ext HX17.out) Hx0.out HD4B.out).mono ?_;rintro e w18 ⟨rfl,e18⟩
  have HX18:Hid (Ext w w18):=Lib.hid (HX17.out.trans e18)
  have HB1_18:=Lib.hid (Blk.ext HB1_17.out e18)
  have HB2_18:=Lib.hid (Blk.ext HB2_17.out e18)
  clear e18
  go_wp2_with fail
  refine (partsz_c N.w _ HN0B.out (by decide) (by decide)).mono ?_;rintro e w19 ⟨rfl,e19⟩
  have HX19:Hid (Ext w w19):=Lib.hid (HX18.out.trans e19)
  have HB1_19:=Lib.hid (Blk.ext HB1_18.out e19)
  have HB2_19:=Lib.hid (Blk.ext HB2_18.out e19)
  clear e19
  have c2_0:=HB2_19.out.cell 0 rfl
  have f2_0:=HB2_19.out.free 0
  go_upto_region 15 with fail
  refine wp_name (fun W=>Ext w W∧Blk W (w.heap.size+1) #[.int .i64 0,.int .i64 0,.int .i64 0,.int .i64 0] 22∧Blk W (w16.heap.size) #[.string (zs N.w),.string ⟨#[]⟩,.string ⟨#[]⟩,.string ⟨#[]⟩] 134) ⟨(HX19.out.setCell (by have:=HGEB2.out;first|omega|(simp only [];omega)|(simp;omega)) _),(HB1_19.out.other (a:=⟨w16.heap.size,0,none⟩) _ (by have:=HB1_16.out.lt;first|omega|(simp only [];omega)|(simp;omega))),(HB2_19.out.set 0 (.string (zs N.w)))⟩ ?_
  rintro w20 ⟨e20,bB1_20,bB2_20⟩
  have HX20:=Lib.hid e20;have HB1_20:=Lib.hid bB1_20;have HB2_20:=Lib.hid bB2_20
  clear e20 bB1_20 bB2_20 c2_0 f2_0
  have c2_0:=HB2_20.out.cell 0 rfl
  go_wp2_with fail
  refine (gcd0_as N.w J1 HJ1E.out _ (HG.out.ext HX20.out) HN0B.out (by decide)).mono ?_;rintro e w21 ⟨rfl,e21⟩
  have HX21:Hid (Ext w w21):=Lib.hid (HX20.out.trans e21)
  have HB1_21:=Lib.hid (Blk.ext HB1_20.out e21)
  have HB2_21:=Lib.hid (Blk.ext HB2_20.out e21)
  clear e21 c2_0
  have c2_0:=HB2_21.out.cell 0 rfl
  go_wp2_with fail
  refine (sign_as N.w 1 (Int.sign_eq_one_of_pos HW0.out) _).mono ?_;rintro e _ ⟨rfl,rfl⟩
  clear c2_0
  go_wp2_with fail
  rw [rounds_succ]
  go_wp2_with fail
  refine (rmulz_as x1 D4 N.x HM1.out _ (HG.out.ext HX21.out) Hx1.out HD4B.out).mono ?_;rintro e w22 ⟨rfl,e22⟩
  have HX22:Hid (Ext w w22):=Lib.hid (HX21.out.trans e22)
  have HB1_22:=Lib.hid (Blk.ext HB1_21.out e22)
  have HB2_22:=Lib.hid (Blk.ext HB2_21.out e22)
  clear e22
  go_wp2_with fail
  refine (partsz_c N.x _ HN1B.out (by decide) (by decide)).mono ?_;rintro e w23 ⟨rfl,e23⟩
  have HX23:Hid (Ext w w23):=Lib.hid (HX22.out.trans e23)
  have HB1_23:=Lib.hid (Blk.ext HB1_22.out e23)
  have HB2_23:=Lib.hid (Blk.ext HB2_22.out e23)
  clear e23
  have c2_1:=HB2_23.out.cell 1 rfl
  have f2_1:=HB2_23.out.free 1
  go_upto_region 15 with fail
  refine wp_name (fun W=>Ext w W∧Blk W (w.heap.size+1) #[.int .i64 0,.int .i64 0,.int .i64 0,.int .i64 0] 22∧Blk W (w16.heap.size) #[.string (zs N.w),.string (zs N.x),.string ⟨#[]⟩,.string ⟨#[]⟩] 134) ⟨(HX23.out.setCell (by have:=HGEB2.out;first|omega|(simp only [];omega)|(simp;omega)) _),(HB1_23.out.other (a:=⟨w16.heap.size,1,none⟩) _ (by have:=HB1_16.out.lt;first|omega|(simp only [];omega)|(simp;omega))),(HB2_23.out.set 1 (.string (zs N.x)))⟩ ?_
  rintro w24 ⟨e24,bB1_24,bB2_24⟩
  have HX24:=Lib.hid e24;have HB1_24:=Lib.hid bB1_24;have HB2_24:=Lib.hid bB2_24
  clear e24 bB1_24 bB2_24 c2_1 f2_1
  have c2_1:=HB2_24.out.cell 1 rfl
  go_wp2_with fail
  refine (gcd_as J1 N.x J2 HJ2E.out _ (HG.out.ext HX24.out) HJ1B.out HN1B.out (by decide) (by decide)).mono ?_;rintro e w25 ⟨rfl,e25⟩
  have HX25:Hid (Ext w w25):=Lib.hid (HX24.out.trans e25)
  have HB1_25:=Lib.hid (Blk.ext HB1_24.out e25)
  have HB2_25:=Lib.hid (Blk.ext HB2_24.out e25)
  clear e25 c2_1
  go_wp2_with fail
  rw [rounds_succ]
  go_wp2_with fail
  refine (rmulz_as x2 D4 N.y HM2.out _ (HG.out.ext HX25.out) Hx2.out HD4B.out).mono ?_;rintro e w26 ⟨rfl,e26⟩
  have HX26:Hid (Ext w w26):=Lib.hid (HX25.out.trans e26)
  have HB1_26:=Lib.hid (Blk.ext HB1_25.out e26)
  have HB2_26:=Lib.hid (Blk.ext HB2_25.out e26)
  clear e26
  go_wp2_with fail
  refine (partsz_c N.y _ HN2B.out (by decide) (by decide)).mono ?_;rintro e w27 ⟨rfl,e27⟩
  have HX27:Hid (Ext w w27):=Lib.hid (HX26.out.trans e27)
  have HB1_27:=Lib.hid (Blk.ext HB1_26.out e27)
  have HB2_27:=Lib.hid (Blk.ext HB2_26.out e27)
  clear e27
  have c2_2:=HB2_27.out.cell 2 rfl
  have f2_2:=HB2_27.out.free 2
  go_upto_region 15 with fail
  refine wp_name (fun W=>Ext w W∧Blk W (w.heap.size+1) #[.int .i64 0,.int .i64 0,.int .i64 0,.int .i64 0] 22∧Blk W (w16.heap.size) #[.string (zs N.w),.string (zs N.x),.string (zs N.y),.string ⟨#[]⟩] 134) ⟨(HX27.out.setCell (by have:=HGEB2.out;first|omega|(simp only [];omega)|(simp;omega)) _),(HB1_27.out.other (a:=⟨w16.heap.size,2,none⟩) _ (by have:=HB1_16.out.lt;first|omega|(simp only [];omega)|(simp;omega))),(HB2_27.out.set 2 (.string (zs N.y)))⟩ ?_
  rintro w28 ⟨e28,bB1_28,bB2_28⟩
  have HX28:=Lib.hid e28;have HB1_28:=Lib.hid bB1_28;have HB2_28:=Lib.hid bB2_28
  clear e28 bB1_28 bB2_28 c2_2 f2_2
  have c2_2:=HB2_28.out.cell 2 rfl
  go_wp2_with fail
  refine (gcd_as J2 N.y J3 HJ3E.out _ (HG.out.ext HX28.out) HJ2B.out HN2B.out (by decide) (by decide)).mono ?_;rintro e w29 ⟨rfl,e29⟩
  have HX29:Hid (Ext w w29):=Lib.hid (HX28.out.trans e29)
  have HB1_29:=Lib.hid (Blk.ext HB1_28.out e29)
  have HB2_29:=Lib.hid (Blk.ext HB2_28.out e29)
  clear e29 c2_2
  go_wp2_with fail
  rw [rounds_succ]
  go_wp2_with fail
  refine (rmulz_as x3 D4 N.z HM3.out _ (HG.out.ext HX29.out) Hx3.out HD4B.out).mono ?_;rintro e w30 ⟨rfl,e30⟩
  have HX30:Hid (Ext w w30):=Lib.hid (HX29.out.trans e30)
  have HB1_30:=Lib.hid (Blk.ext HB1_29.out e30)
  have HB2_30:=Lib.hid (Blk.ext HB2_29.out e30)
  clear e30
  go_wp2_with fail
  refine (partsz_c N.z _ HN3B.out (by decide) (by decide)).mono ?_;rintro e w31 ⟨rfl,e31⟩
  have HX31:Hid (Ext w w31):=Lib.hid (HX30.out.trans e31)
  have HB1_31:=Lib.hid (Blk.ext HB1_30.out e31)
  have HB2_31:=Lib.hid (Blk.ext HB2_30.out e31)
  clear e31
  have c2_3:=HB2_31.out.cell 3 rfl
  have f2_3:=HB2_31.out.free 3
  go_upto_region 15 with fail
  refine wp_name (fun W=>Ext w W∧Blk W (w.heap.size+1) #[.int .i64 0,.int .i64 0,.int .i64 0,.int .i64 0] 22∧Blk W (w16.heap.size) #[.string (zs N.w),.string (zs N.x),.string (zs N.y),.string (zs N.z)] 134) ⟨(HX31.out.setCell (by have:=HGEB2.out;first|omega|(simp only [];omega)|(simp;omega)) _),(HB1_31.out.other (a:=⟨w16.heap.size,3,none⟩) _ (by have:=HB1_16.out.lt;first|omega|(simp only [];omega)|(simp;omega))),(HB2_31.out.set 3 (.string (zs N.z)))⟩ ?_
  rintro w32 ⟨e32,bB1_32,bB2_32⟩
  have HX32:=Lib.hid e32;have HB1_32:=Lib.hid bB1_32;have HB2_32:=Lib.hid bB2_32
  clear e32 bB1_32 bB2_32 c2_3 f2_3
  have c2_3:=HB2_32.out.cell 3 rfl
  go_wp2_with fail
  refine (gcd_as J3 N.z J4 HJ4E.out _ (HG.out.ext HX32.out) HJ3B.out HN3B.out (by decide) (by decide)).mono ?_;rintro e w33 ⟨rfl,e33⟩
  have HX33:Hid (Ext w w33):=Lib.hid (HX32.out.trans e33)
  have HB1_33:=Lib.hid (Blk.ext HB1_32.out e33)
  have HB2_33:=Lib.hid (Blk.ext HB2_32.out e33)
  clear e33 c2_3
  go_wp2_with fail
  rw [rounds_succ]
  go_upto_region 22 with fail
  refine wp_name (fun W=>Ext w W∧Blk W (w.heap.size+1) #[.int .i64 0,.int .i64 0,.int .i64 0,.int .i64 0] 22∧Blk W (w16.heap.size) #[.string (zs N.w),.string (zs N.x),.string (zs N.y),.string (zs N.z)] 134∧Blk W (w33.heap.size) #[.int .i64 0,.int .i64 0,.int .i64 0,.int .i64 0] 22) ⟨(HX33.out.alloc _),(HB1_33.out.alloc _),(HB2_33.out.alloc _),(Blk.new' (w:=_) (cs:=#[.int .i64 0,.int .i64 0,.int .i64 0,.int .i64 0]) (t:=22) (by first|rfl|(simp only [World.size_alloc];done)|(simp only [World.size_alloc];omega)|simp))⟩ ?_
  rintro w34 ⟨e34,bB1_34,bB2_34,bB3_34⟩
  have HX34:=Lib.hid e34;have HB1_34:=Lib.hid bB1_34;have HB2_34:=Lib.hid bB2_34;have HB3_34:=Lib.hid bB3_34
  have HGEB3:Hid (w.heap.size≤w33.heap.size):=Lib.hid (by have:=HX33.out.size;first|omega|(simp only [];omega)|(simp;omega))
  clear e34 bB1_34 bB2_34 bB3_34
  have c2_0:=HB2_34.out.cell 0 rfl
  have c2_1:=HB2_34.out.cell 1 rfl
  have c2_2:=HB2_34.out.cell 2 rfl
  have c2_3:=HB2_34.out.cell 3 rfl
  go_wp2_with fail
  refine wp_loop_rounds 5 ?_
  rw [rounds_succ]
  clear c2_0 c2_1 c2_2 c2_3
  have hb0:=HI.out.w
  have pg0_:decide ((1000000:Int)<p.w)=false:=decide_eq_false (by omega)
  have pl0_:decide (p.w < -1000000)=false:=decide_eq_false (by omega)
  have HB0:=Lib.hid hb0;clear hb0
  go_wp2_with fail
  refine (div_as N.w J4 p.w HPD.out.1 _ (HG.out.ext HX34.out) HN0B.out HJ4B.out (by decide) (by decide) HJN.out).mono ?_;rintro e w35 ⟨rfl,e35⟩
  have HX35:Hid (Ext w w35):=Lib.hid (HX34.out.trans e35)
  have HB1_35:=Lib.hid (Blk.ext HB1_34.out e35)
  have HB3_35:=Lib.hid (Blk.ext HB3_34.out e35)
  clear e35
  go_wp2_with fail
  refine (ismall_in p.w _ (HG.out.ext HX35.out) (by have:=HB0.out;omega) (by have:=HB0.out;omega)).mono ?_;rintro e w36 ⟨rfl,e36⟩
  have HX36:Hid (Ext w w36):=Lib.hid (HX35.out.trans e36)
  have HB1_36:=Lib.hid (Blk.ext HB1_35.out e36)
  have HB3_36:=Lib.hid (Blk.ext HB3_35.out e36)
  clear e36
  have c3_0:=HB3_36.out.cell 0 rfl
  have f3_0:=HB3_36.out.free 0
  go_wp2_with fail
  rw [rounds_succ]
  clear c3_0 f3_0
  have hb1:=HI.out.x
  have pg1_:decide ((1000000:Int)<p.x)=false:=decide_eq_false (by omega)
  have pl1_:decide (p.x < -1000000)=false:=decide_eq_false (by omega)
  have HB1:=Lib.hid hb1;clear hb1
  go_wp2_with fail
  refine (div_as N.x J4 p.x HPD.out.2.1 _ (HG.out.ext (HX36.out.setCell (by have:=HGEB3.out;first|omega|(simp only [];omega)|(simp;omega)) _)) HN1B.out HJ4B.out (by decide) (by decide) HJN.out).mono ?_;rintro e w37 ⟨rfl,e37⟩
  have HX37:Hid (Ext w w37):=Lib.hid ((HX36.out.setCell (by have:=HGEB3.out;first|omega|(simp only [];omega)|(simp;omega)) _).trans e37)
  have HB1_37:Hid (Blk w37 (w.heap.size+1) #[.int .i64 0,.int .i64 0,.int .i64 0,.int .i64 0] 22):=Lib.hid (Blk.ext (HB1_36.out.other (a:=⟨w33.heap.size,0,none⟩) _ (by have:=HB1_33.out.lt;first|omega|(simp only [];omega)|(simp;omega))) e37)
  have HB3_37:Hid (Blk w37 (w33.heap.size) #[.int .i64 p.w,.int .i64 0,.int .i64 0,.int .i64 0] 22):=Lib.hid (Blk.ext (HB3_36.out.set 0 (.int .i64 p.w)) e37)
  clear e37
  go_wp2_with fail
  refine (ismall_in p.x _ (HG.out.ext HX37.out) (by have:=HB1.out;omega) (by have:=HB1.out;omega)).mono ?_;rintro e w38 ⟨rfl,e38⟩
  have HX38:Hid (Ext w w38):=Lib.hid (HX37.out.trans e38)
  have HB1_38:=Lib.hid (Blk.ext HB1_37.out e38)
  have HB3_38:=Lib.hid (Blk.ext HB3_37.out e38)
  clear e38
  have c3_1:=HB3_38.out.cell 1 rfl
  have f3_1:=HB3_38.out.free 1
  go_wp2_with fail
  rw [rounds_succ]
  clear c3_1 f3_1
  have hb2:=HI.out.y
  have pg2_:decide ((1000000:Int)<p.y)=false:=decide_eq_false (by omega)
  have pl2_:decide (p.y < -1000000)=false:=decide_eq_false (by omega)
  have HB2:=Lib.hid hb2;clear hb2
  go_wp2_with fail
  refine (div_as N.y J4 p.y HPD.out.2.2.1 _ (HG.out.ext (HX38.out.setCell (by have:=HGEB3.out;first|omega|(simp only [];omega)|(simp;omega)) _)) HN2B.out HJ4B.out (by decide) (by decide) HJN.out).mono ?_;rintro e w39 ⟨rfl,e39⟩
  have HX39:Hid (Ext w w39):=Lib.hid ((HX38.out.setCell (by have:=HGEB3.out;first|omega|(simp only [];omega)|(simp;omega)) _).trans e39)
  have HB1_39:Hid (Blk w39 (w.heap.size+1) #[.int .i64 0,.int .i64 0,.int .i64 0,.int .i64 0] 22):=Lib.hid (Blk.ext (HB1_38.out.other (a:=⟨w33.heap.size,1,none⟩) _ (by have:=HB1_33.out.lt;first|omega|(simp only [];omega)|(simp;omega))) e39)
  have HB3_39:Hid (Blk w39 (w33.heap.size) #[.int .i64 p.w,.int .i64 p.x,.int .i64 0,.int .i64 0] 22):=Lib.hid (Blk.ext (HB3_38.out.set 1 (.int .i64 p.x)) e39)
  clear e39
  go_wp2_with fail
  refine (ismall_in p.y _ (HG.out.ext HX39.out) (by have:=HB2.out;omega) (by have:=HB2.out;omega)).mono ?_;rintro e w40 ⟨rfl,e40⟩
  have HX40:Hid (Ext w w40):=Lib.hid (HX39.out.trans e40)
  have HB1_40:=Lib.hid (Blk.ext HB1_39.out e40)
  have HB3_40:=Lib.hid (Blk.ext HB3_39.out e40)
  clear e40
  have c3_2:=HB3_40.out.cell 2 rfl
  have f3_2:=HB3_40.out.free 2
  go_wp2_with fail
  rw [rounds_succ]
  clear c3_2 f3_2
  have hb3:=HI.out.z
  have pg3_:decide ((1000000:Int)<p.z)=false:=decide_eq_false (by omega)
  have pl3_:decide (p.z < -1000000)=false:=decide_eq_false (by omega)
  have HB3:=Lib.hid hb3;clear hb3
  go_wp2_with fail
  refine (div_as N.z J4 p.z HPD.out.2.2.2 _ (HG.out.ext (HX40.out.setCell (by have:=HGEB3.out;first|omega|(simp only [];omega)|(simp;omega)) _)) HN3B.out HJ4B.out (by decide) (by decide) HJN.out).mono ?_;rintro e w41 ⟨rfl,e41⟩
  have HX41:Hid (Ext w w41):=Lib.hid ((HX40.out.setCell (by have:=HGEB3.out;first|omega|(simp only [];omega)|(simp;omega)) _).trans e41)
  have HB1_41:Hid (Blk w41 (w.heap.size+1) #[.int .i64 0,.int .i64 0,.int .i64 0,.int .i64 0] 22):=Lib.hid (Blk.ext (HB1_40.out.other (a:=⟨w33.heap.size,2,none⟩) _ (by have:=HB1_33.out.lt;first|omega|(simp only [];omega)|(simp;omega))) e41)
  have HB3_41:Hid (Blk w41 (w33.heap.size) #[.int .i64 p.w,.int .i64 p.x,.int .i64 p.y,.int .i64 0] 22):=Lib.hid (Blk.ext (HB3_40.out.set 2 (.int .i64 p.y)) e41)
  clear e41
  go_wp2_with fail
  refine (ismall_in p.z _ (HG.out.ext HX41.out) (by have:=HB3.out;omega) (by have:=HB3.out;omega)).mono ?_;rintro e w42 ⟨rfl,e42⟩
  have HX42:Hid (Ext w w42):=Lib.hid (HX41.out.trans e42)
  have HB1_42:=Lib.hid (Blk.ext HB1_41.out e42)
  have HB3_42:=Lib.hid (Blk.ext HB3_41.out e42)
  clear e42
  have c3_3:=HB3_42.out.cell 3 rfl
  have f3_3:=HB3_42.out.free 3
  go_wp2_with fail
  rw [rounds_succ]
  clear c3_3 f3_3
  go_upto_region 33 with fail
  refine wp_name (fun W=>Ext w W∧Blk W (w.heap.size+1) #[.int .i64 0,.int .i64 0,.int .i64 0,.int .i64 0] 22∧Blk W (w33.heap.size) #[.int .i64 p.w,.int .i64 p.x,.int .i64 p.y,.int .i64 p.z] 22) ⟨(HX42.out.setCell (by have:=HGEB3.out;first|omega|(simp only [];omega)|(simp;omega)) _),(HB1_42.out.other (a:=⟨w33.heap.size,3,none⟩) _ (by have:=HB1_33.out.lt;first|omega|(simp only [];omega)|(simp;omega))),(HB3_42.out.set 3 (.int .i64 p.z))⟩ ?_
  rintro w43 ⟨e43,bB1_43,bB3_43⟩
  have HX43:=Lib.hid e43;have HB1_43:=Lib.hid bB1_43;have HB3_43:=Lib.hid bB3_43
  clear e43 bB1_43 bB3_43
  have c3_0:=HB3_43.out.cell 0 rfl
  have c3_1:=HB3_43.out.cell 1 rfl
  have c3_2:=HB3_43.out.cell 2 rfl
  have c3_3:=HB3_43.out.cell 3 rfl
  have c1_0:=HB1_43.out.cell 0 rfl
  have f1_0:=HB1_43.out.free 0
  have c1_1:=HB1_43.out.cell 1 rfl
  have f1_1:=HB1_43.out.free 1
  have c1_2:=HB1_43.out.cell 2 rfl
  have f1_2:=HB1_43.out.free 2
  have c1_3:=HB1_43.out.cell 3 rfl
  have f1_3:=HB1_43.out.free 3
  repeat (first|go_step|go_guarded|go_skip|go_upon)
  refine wp_name (fun W=>Ext w W∧Blk W (w.heap.size+1) #[.int .i64 p.w,.int .i64 p.x,.int .i64 p.y,.int .i64 p.z] 22) ⟨((((HX43.out.setCell (by have:=HGEB1.out;first|omega|(simp only [];omega)|(simp;omega)) _).setCell (by have:=HGEB1.out;first|omega|(simp only [];omega)|(simp;omega)) _).setCell (by have:=HGEB1.out;first|omega|(simp only [];omega)|(simp;omega)) _).setCell (by have:=HGEB1.out;first|omega|(simp only [];omega)|(simp;omega)) _),((((HB1_43.out.set 0 (.int .i64 p.w)).set 1 (.int .i64 p.x)).set 2 (.int .i64 p.y)).set 3 (.int .i64 p.z))⟩ ?_
  rintro w44 ⟨e44,bB1_44⟩
  have HX44:=Lib.hid e44;have HB1_44:=Lib.hid bB1_44
  clear e44 bB1_44 c3_0 c3_1 c3_2 c3_3 c1_0 f1_0 c1_1 f1_1 c1_2 f1_2 c1_3 f1_3
  have gB1_0:=HB1_44.out.cell 0 rfl
  have gB1_1:=HB1_44.out.cell 1 rfl
  have gB1_2:=HB1_44.out.cell 2 rfl
  have gB1_3:=HB1_44.out.cell 3 rfl
  refine bodyPost_ret (v:=.tuple #[.agg #[.int .i64 p.w,.int .i64 p.x,.int .i64 p.y,.int .i64 p.z],.int .i64 0]) (by simp [results,Tryz.results45,go_sem,gB1_0,gB1_1,gB1_2,gB1_3]) rfl ⟨rfl,HX44.out⟩

end Go.Proofs.YtjeimihnoiephaaGreatDoor

namespace Go.Proofs.YtjeimihnoiephaaGreatDoor
open Go Go.RowKit
set_option linter.unusedVariables false
theorem mul_bd {a b:Int} (ha:-1000000≤a∧a≤1000000) (hb:-1000000≤b∧b≤1000000):-1000000000000≤a*b∧a*b≤1000000000000:=by
  have h:(a*b).natAbs≤1000000*1000000:=by rw [Int.natAbs_mul];exact Nat.mul_le_mul (by omega) (by omega)
  omega
theorem rof_c (n s:Int) (w:World) (g:Gd w) (h:-10000000000000≤n∧n≤10000000000000) (hs:0<s∧s≤10000000000000):Calls Tryz.prog 66 #[.int .i64 n,.int .i64 s] w (Ret w (.tuple #[.string (qs (fr n s)),.int .i64 0])):=by
  obtain ⟨d,rfl⟩:∃ d:Nat,s=(d:Int):=⟨s.toNat,by omega⟩
  have i1:IB 14 n:=⟨by have:=h;omega⟩
  have i2:IB 14 (d:Int):=⟨by have:=hs;omega⟩
  have hd:d≠0:=by omega
  have HI1:=Lib.hid i1;have HI2:=Lib.hid i2;have HD:=Lib.hid hd;have HG:=Lib.hid g;have H:=Lib.hid h;have HS:=Lib.hid hs
  have e:fr n (d:Int)=mkRat n d:=rfl
  rw [e]
  clear i1 i2 hd g h hs e
  go_enter Tryz.func66,Tryz.ntmps66
  go_wp2_with fail
  refine (of_c n (by have:=H.out;omega) (by have:=H.out;omega) _ HG.out).mono ?_;rintro e w1 ⟨rfl,e1⟩
  go_wp2_with fail
  refine (of_c (d:Int) (by have:=HS.out;omega) (by have:=HS.out;omega) _ (HG.out.ext e1)).mono ?_;rintro e w2 ⟨rfl,e2⟩
  go_wp2_with fail
  refine (new_c n d HD.out _ (HG.out.ext (e1.trans e2)) HI1.out HI2.out (by decide) (by decide)).mono ?_;rintro e w3 ⟨rfl,e3⟩
  go_wp2
  go_ret2
  exact ⟨rfl,(e1.trans e2).trans e3⟩

set_option maxHeartbeats 2000000 in
theorem rrow_c (a b c s:Int) (kb:Nat) {ty:TypeId} (w:World) (g:Gd w) (hB:Blk w kb #[.int .i64 s] ty) (ha:-10000000000000≤a∧a≤10000000000000) (hb:-10000000000000≤b∧b≤10000000000000) (hc:-10000000000000≤c∧c≤10000000000000) (hs:0<s∧s≤10000000000000):Calls Tryz.prog 119 #[.int .i64 a,.int .i64 b,.int .i64 c,.pointer (some ⟨kb,0,none⟩)] w (Ret w (.agg #[.string (qs (fr a s)),.string (qs (fr b s)),.string (qs (fr c s))])):=by
  have HCB:=Lib.hid hB
  have HA:=Lib.hid ha
  have HB:=Lib.hid hb
  have HC:=Lib.hid hc
  have HS:=Lib.hid hs
  have HG:=Lib.hid g
  clear hB ha hb hc hs g
  have ix0:∀ W,(Instr.index 147 (.agg #[.int .i64 a,.int .i64 b,.int .i64 c]) (.int .i64 0)).run Tryz.prog W = .ok (.int .i64 a) W:=fun W=>by kernel_rfl
  have ix1:∀ W,(Instr.index 147 (.agg #[.int .i64 a,.int .i64 b,.int .i64 c]) (.int .i64 1)).run Tryz.prog W = .ok (.int .i64 b) W:=fun W=>by kernel_rfl
  have ix2:∀ W,(Instr.index 147 (.agg #[.int .i64 a,.int .i64 b,.int .i64 c]) (.int .i64 2)).run Tryz.prog W = .ok (.int .i64 c) W:=fun W=>by kernel_rfl
  go_enter Tryz.func119,Tryz.ntmps119
  go_wp2_with fail
  refine wp_loop_rounds 4 ?_
  rw [rounds_succ]
  go_upto_region 5 with fail
  refine wp_name (fun W=>Ext w W∧Blk W (kb) #[.int .i64 s] ty∧Blk W (w.heap.size) #[.string ⟨#[]⟩,.string ⟨#[]⟩,.string ⟨#[]⟩] 31∧Blk W (w.heap.size+1) #[.string ⟨#[]⟩,.string ⟨#[]⟩,.string ⟨#[]⟩] 107) ⟨(((Ext.refl w).alloc _).alloc _),((HCB.out.alloc _).alloc _),((Blk.new' (w:=_) (cs:=#[.string ⟨#[]⟩,.string ⟨#[]⟩,.string ⟨#[]⟩]) (t:=31) (by first|rfl|(simp only [World.size_alloc];done)|(simp only [World.size_alloc];omega)|simp)).alloc _),(Blk.new' (w:=_) (cs:=#[.string ⟨#[]⟩,.string ⟨#[]⟩,.string ⟨#[]⟩]) (t:=107) (by first|rfl|(simp only [World.size_alloc];done)|(simp only [World.size_alloc];omega)|simp))⟩ ?_
  rintro w1 ⟨e1,bBP_1,bB0_1,bB1_1⟩
  have HX1:=Lib.hid e1;have HBP_1:=Lib.hid bBP_1;have HB0_1:=Lib.hid bB0_1;have HB1_1:=Lib.hid bB1_1
  have HGEB0:Hid (w.heap.size≤w.heap.size):=Lib.hid (by first|omega|(simp only [];omega)|(simp;omega))
  have HGEB1:Hid (w.heap.size≤w.heap.size+1):=Lib.hid (by first|omega|(simp only [];omega)|(simp;omega))
  clear e1 bBP_1 bB0_1 bB1_1
  have cP_0:=HBP_1.out.cell 0 rfl
  go_wp2_with fail
  refine (rof_c a s _ (HG.out.ext HX1.out) HA.out HS.out).mono ?_;rintro e w2 ⟨rfl,e2⟩
  have HX2:Hid (Ext w w2):=Lib.hid (HX1.out.trans e2)
  have HBP_2:=Lib.hid (Blk.ext HBP_1.out e2)
  have HB0_2:=Lib.hid (Blk.ext HB0_1.out e2)
  have HB1_2:=Lib.hid (Blk.ext HB1_1.out e2)
  clear e2 cP_0
  have c1_0:=HB1_2.out.cell 0 rfl
  have f1_0:=HB1_2.out.free 0
  go_wp2_with fail
  rw [rounds_succ]
  clear c1_0 f1_0
  go_upto_region 5 with fail
  refine wp_name (fun W=>Ext w W∧Blk W (kb) #[.int .i64 s] ty∧Blk W (w.heap.size) #[.string ⟨#[]⟩,.string ⟨#[]⟩,.string ⟨#[]⟩] 31∧Blk W (w.heap.size+1) #[.string (qs (fr a s)),.string ⟨#[]⟩,.string ⟨#[]⟩] 107) ⟨(HX2.out.setCell (by have:=HGEB1.out;first|omega|(simp only [];omega)|(simp;omega)) _),(HBP_2.out.other (a:=⟨w.heap.size+1,0,none⟩) _ (by have:=HCB.out.lt;first|omega|(simp only [];omega)|(simp;omega))),(HB0_2.out.other (a:=⟨w.heap.size+1,0,none⟩) _ (by first|omega|(simp only [];omega)|(simp;omega))),(HB1_2.out.set 0 (.string (qs (fr a s))))⟩ ?_
  rintro w3 ⟨e3,bBP_3,bB0_3,bB1_3⟩
  have HX3:=Lib.hid e3;have HBP_3:=Lib.hid bBP_3;have HB0_3:=Lib.hid bB0_3;have HB1_3:=Lib.hid bB1_3
  clear e3 bBP_3 bB0_3 bB1_3
  have cP_0:=HBP_3.out.cell 0 rfl
  go_wp2_with fail
  refine (rof_c b s _ (HG.out.ext HX3.out) HB.out HS.out).mono ?_;rintro e w4 ⟨rfl,e4⟩
  have HX4:Hid (Ext w w4):=Lib.hid (HX3.out.trans e4)
  have HBP_4:=Lib.hid (Blk.ext HBP_3.out e4)
  have HB0_4:=Lib.hid (Blk.ext HB0_3.out e4)
  have HB1_4:=Lib.hid (Blk.ext HB1_3.out e4)
  clear e4 cP_0
  have c1_1:=HB1_4.out.cell 1 rfl
  have f1_1:=HB1_4.out.free 1
  go_wp2_with fail
  rw [rounds_succ]
  clear c1_1 f1_1
  go_upto_region 5 with fail
  refine wp_name (fun W=>Ext w W∧Blk W (kb) #[.int .i64 s] ty∧Blk W (w.heap.size) #[.string ⟨#[]⟩,.string ⟨#[]⟩,.string ⟨#[]⟩] 31∧Blk W (w.heap.size+1) #[.string (qs (fr a s)),.string (qs (fr b s)),.string ⟨#[]⟩] 107) ⟨(HX4.out.setCell (by have:=HGEB1.out;first|omega|(simp only [];omega)|(simp;omega)) _),(HBP_4.out.other (a:=⟨w.heap.size+1,1,none⟩) _ (by have:=HCB.out.lt;first|omega|(simp only [];omega)|(simp;omega))),(HB0_4.out.other (a:=⟨w.heap.size+1,1,none⟩) _ (by first|omega|(simp only [];omega)|(simp;omega))),(HB1_4.out.set 1 (.string (qs (fr b s))))⟩ ?_
  rintro w5 ⟨e5,bBP_5,bB0_5,bB1_5⟩
  have HX5:=Lib.hid e5;have HBP_5:=Lib.hid bBP_5;have HB0_5:=Lib.hid bB0_5;have HB1_5:=Lib.hid bB1_5
  clear e5 bBP_5 bB0_5 bB1_5
  have cP_0:=HBP_5.out.cell 0 rfl
  go_wp2_with fail
  refine (rof_c c s _ (HG.out.ext HX5.out) HC.out HS.out).mono ?_;rintro e w6 ⟨rfl,e6⟩
  have HX6:Hid (Ext w w6):=Lib.hid (HX5.out.trans e6)
  have HB0_6:=Lib.hid (Blk.ext HB0_5.out e6)
  have HB1_6:=Lib.hid (Blk.ext HB1_5.out e6)
  clear e6 cP_0
  have c1_2:=HB1_6.out.cell 2 rfl
  have f1_2:=HB1_6.out.free 2
  go_wp2_with fail
  rw [rounds_succ]
  clear c1_2 f1_2
  go_upto_region 7 with fail
  refine wp_name (fun W=>Ext w W∧Blk W (w.heap.size) #[.string ⟨#[]⟩,.string ⟨#[]⟩,.string ⟨#[]⟩] 31∧Blk W (w.heap.size+1) #[.string (qs (fr a s)),.string (qs (fr b s)),.string (qs (fr c s))] 107) ⟨(HX6.out.setCell (by have:=HGEB1.out;first|omega|(simp only [];omega)|(simp;omega)) _),(HB0_6.out.other (a:=⟨w.heap.size+1,2,none⟩) _ (by first|omega|(simp only [];omega)|(simp;omega))),(HB1_6.out.set 2 (.string (qs (fr c s))))⟩ ?_
  rintro w7 ⟨e7,bB0_7,bB1_7⟩
  have HX7:=Lib.hid e7;have HB0_7:=Lib.hid bB0_7;have HB1_7:=Lib.hid bB1_7
  clear e7 bB0_7 bB1_7
  have c1_0:=HB1_7.out.cell 0 rfl
  have c1_1:=HB1_7.out.cell 1 rfl
  have c1_2:=HB1_7.out.cell 2 rfl
  have c0_0:=HB0_7.out.cell 0 rfl
  have f0_0:=HB0_7.out.free 0
  have c0_1:=HB0_7.out.cell 1 rfl
  have f0_1:=HB0_7.out.free 1
  have c0_2:=HB0_7.out.cell 2 rfl
  have f0_2:=HB0_7.out.free 2
  go_wp2_with fail
  refine wp_name (fun W=>Ext w W∧Blk W (w.heap.size) #[.string (qs (fr a s)),.string (qs (fr b s)),.string (qs (fr c s))] 31) ⟨(((HX7.out.setCell (by have:=HGEB0.out;first|omega|(simp only [];omega)|(simp;omega)) _).setCell (by have:=HGEB0.out;first|omega|(simp only [];omega)|(simp;omega)) _).setCell (by have:=HGEB0.out;first|omega|(simp only [];omega)|(simp;omega)) _),(((HB0_7.out.set 0 (.string (qs (fr a s)))).set 1 (.string (qs (fr b s)))).set 2 (.string (qs (fr c s))))⟩ ?_
  rintro w8 ⟨e8,bB0_8⟩
  have HX8:=Lib.hid e8;have HB0_8:=Lib.hid bB0_8
  clear e8 bB0_8 c1_0 c1_1 c1_2 c0_0 f0_0 c0_1 f0_1 c0_2 f0_2
  have gB0_0:=HB0_8.out.cell 0 rfl
  have gB0_1:=HB0_8.out.cell 1 rfl
  have gB0_2:=HB0_8.out.cell 2 rfl
  refine bodyPost_ret (v:=.agg #[.string (qs (fr a s)),.string (qs (fr b s)),.string (qs (fr c s))]) (by simp [results,Tryz.results119,go_sem,gB0_0,gB0_1,gB0_2]) rfl ⟨rfl,HX8.out⟩

set_option maxHeartbeats 16000000 in
theorem rrows_c (t:Q4) (w:World) (g:Gd w) (hi:Q4In t) (hz:¬ t.zero):Calls Tryz.prog 60 #[.agg #[.int .i64 t.w,.int .i64 t.x,.int .i64 t.y,.int .i64 t.z]] w (Ret w (.agg #[.string (qs ((row1 t).x)),.string (qs ((row1 t).y)),.string (qs ((row1 t).z)),.string (qs ((row2 t).x)),.string (qs ((row2 t).y)),.string (qs ((row2 t).z)),.string (qs ((row3 t).x)),.string (qs ((row3 t).y)),.string (qs ((row3 t).z))])):=by
  have HG:=Lib.hid g
  clear g
  have bw:=hi.w;have bx:=hi.x;have by_:=hi.y;have bz:=hi.z
  have pww:=mul_bd bw bw
  have pwx:=mul_bd bw bx
  have pwy:=mul_bd bw by_
  have pwz:=mul_bd bw bz
  have pxw:=mul_bd bx bw
  have pxx:=mul_bd bx bx
  have pxy:=mul_bd bx by_
  have pxz:=mul_bd bx bz
  have pyw:=mul_bd by_ bw
  have pyx:=mul_bd by_ bx
  have pyy:=mul_bd by_ by_
  have pyz:=mul_bd by_ bz
  have pzw:=mul_bd bz bw
  have pzx:=mul_bd bz bx
  have pzy:=mul_bd bz by_
  have pzz:=mul_bd bz bz
  have sw:=sqi_nonneg t.w;have sx:=sqi_nonneg t.x;have sy:=sqi_nonneg t.y;have sz:=sqi_nonneg t.z
  have hpos:=norm4_pos hz
  have hS:t.w*t.w+t.x*t.x+t.y*t.y+t.z*t.z=norm4 t:=rfl
  have HNN:Hid (0<norm4 t∧norm4 t≤10000000000000):=Lib.hid ⟨hpos,by rw [← hS];omega⟩
  have HR1:Hid ((-10000000000000≤(t.w*t.w+t.x*t.x-t.y*t.y-t.z*t.z)∧(t.w*t.w+t.x*t.x-t.y*t.y-t.z*t.z)≤10000000000000)∧(-10000000000000≤(2*(t.x*t.y-t.w*t.z))∧(2*(t.x*t.y-t.w*t.z))≤10000000000000)∧(-10000000000000≤(2*(t.x*t.z+t.w*t.y))∧(2*(t.x*t.z+t.w*t.y))≤10000000000000)):=Lib.hid ⟨by omega,by omega,by omega⟩
  have HR2:Hid ((-10000000000000≤(2*(t.x*t.y+t.w*t.z))∧(2*(t.x*t.y+t.w*t.z))≤10000000000000)∧(-10000000000000≤(t.w*t.w-t.x*t.x+t.y*t.y-t.z*t.z)∧(t.w*t.w-t.x*t.x+t.y*t.y-t.z*t.z)≤10000000000000)∧(-10000000000000≤(2*(t.y*t.z-t.w*t.x))∧(2*(t.y*t.z-t.w*t.x))≤10000000000000)):=Lib.hid ⟨by omega,by omega,by omega⟩
  have HR3:Hid ((-10000000000000≤(2*(t.x*t.z-t.w*t.y))∧(2*(t.x*t.z-t.w*t.y))≤10000000000000)∧(-10000000000000≤(2*(t.y*t.z+t.w*t.x))∧(2*(t.y*t.z+t.w*t.x))≤10000000000000)∧(-10000000000000≤(t.w*t.w-t.x*t.x-t.y*t.y+t.z*t.z)∧(t.w*t.w-t.x*t.x-t.y*t.y+t.z*t.z)≤10000000000000)):=Lib.hid ⟨by omega,by omega,by omega⟩
  clear hpos hi hz
  go_enter Tryz.func60,Tryz.ntmps60
  go_wp2_with fail
  refine wp_name (fun W=>Ext w W∧Blk W (w.heap.size) #[.int .i64 t.w,.int .i64 t.x,.int .i64 t.y,.int .i64 t.z] 22∧Blk W (w.heap.size+1) #[.string ⟨#[]⟩,.string ⟨#[]⟩,.string ⟨#[]⟩,.string ⟨#[]⟩,.string ⟨#[]⟩,.string ⟨#[]⟩,.string ⟨#[]⟩,.string ⟨#[]⟩,.string ⟨#[]⟩] 59) ⟨(((Ext.refl w).alloc _).alloc _),((Blk.new' (w:=_) (cs:=#[.int .i64 t.w,.int .i64 t.x,.int .i64 t.y,.int .i64 t.z]) (t:=22) (by first|rfl|(simp only [World.size_alloc];done)|(simp only [World.size_alloc];omega)|simp)).alloc _),(Blk.new' (w:=_) (cs:=#[.string ⟨#[]⟩,.string ⟨#[]⟩,.string ⟨#[]⟩,.string ⟨#[]⟩,.string ⟨#[]⟩,.string ⟨#[]⟩,.string ⟨#[]⟩,.string ⟨#[]⟩,.string ⟨#[]⟩]) (t:=59) (by first|rfl|(simp only [World.size_alloc];done)|(simp only [World.size_alloc];omega)|simp))⟩ ?_
  rintro w1 ⟨e1,bB0_1,bB1_1⟩
  have HX1:=Lib.hid e1;have HB0_1:=Lib.hid bB0_1;have HB1_1:=Lib.hid bB1_1
  have HGEB0:Hid (w.heap.size≤w.heap.size):=Lib.hid (by first|omega|(simp only [];omega)|(simp;omega))
  have HGEB1:Hid (w.heap.size≤w.heap.size+1):=Lib.hid (by first|omega|(simp only [];omega)|(simp;omega))
  clear e1 bB0_1 bB1_1
  refine region_lin [.val (.pointer (some ⟨w.heap.size,0,none⟩)),.val (.int .i64 t.w),.val (.pointer (some ⟨w.heap.size,1,none⟩)),.val (.int .i64 t.x),.val (.pointer (some ⟨w.heap.size,2,none⟩)),.val (.int .i64 t.y),.val (.pointer (some ⟨w.heap.size,3,none⟩)),.val (.int .i64 t.z),.val (.int .i64 t.w),.val (.int .i64 t.x),.val (.int .i64 t.y),.val (.int .i64 t.z)] (by kernel_rfl) (by kernel_rfl) (by kernel_rfl) ?_ (fun g1 w2 hx_ hm_ hne_=>?_)
  · skip
    refine RnL.cons (fun g1 A_ W_ hs_=>?_) ?_
    · have q1_:=(hs_.old 1 (by kernel_rfl):A_.tmps[1]?.getD undef = .pointer (some ⟨w.heap.size,0,none⟩))
      refine Rn.val fun K_ hK_=>?_
      go_simp
      exact hK_.out _ (Ext.refl _)
    refine RnL.cons (fun g1 A_ W_ hs_=>?_) ?_
    · have q9_:=hs_.val 0 rfl rfl rfl
      have cB0_0:=((HB0_1.out.drew.ext hs_.1)).cell 0 rfl
      refine Rn.val fun K_ hK_=>?_
      go_simp
      exact hK_.out _ (Ext.refl _)
    refine RnL.cons (fun g1 A_ W_ hs_=>?_) ?_
    · have q1_:=(hs_.old 1 (by kernel_rfl):A_.tmps[1]?.getD undef = .pointer (some ⟨w.heap.size,0,none⟩))
      refine Rn.val fun K_ hK_=>?_
      go_simp
      exact hK_.out _ (Ext.refl _)
    refine RnL.cons (fun g1 A_ W_ hs_=>?_) ?_
    · have q11_:=hs_.val 2 rfl rfl rfl
      have cB0_1:=((HB0_1.out.drew.ext hs_.1)).cell 1 rfl
      refine Rn.val fun K_ hK_=>?_
      go_simp
      exact hK_.out _ (Ext.refl _)
    refine RnL.cons (fun g1 A_ W_ hs_=>?_) ?_
    · have q1_:=(hs_.old 1 (by kernel_rfl):A_.tmps[1]?.getD undef = .pointer (some ⟨w.heap.size,0,none⟩))
      refine Rn.val fun K_ hK_=>?_
      go_simp
      exact hK_.out _ (Ext.refl _)
    refine RnL.cons (fun g1 A_ W_ hs_=>?_) ?_
    · have q13_:=hs_.val 4 rfl rfl rfl
      have cB0_2:=((HB0_1.out.drew.ext hs_.1)).cell 2 rfl
      refine Rn.val fun K_ hK_=>?_
      go_simp
      exact hK_.out _ (Ext.refl _)
    refine RnL.cons (fun g1 A_ W_ hs_=>?_) ?_
    · have q1_:=(hs_.old 1 (by kernel_rfl):A_.tmps[1]?.getD undef = .pointer (some ⟨w.heap.size,0,none⟩))
      refine Rn.val fun K_ hK_=>?_
      go_simp
      exact hK_.out _ (Ext.refl _)
    refine RnL.cons (fun g1 A_ W_ hs_=>?_) ?_
    · have q15_:=hs_.val 6 rfl rfl rfl
      have cB0_3:=((HB0_1.out.drew.ext hs_.1)).cell 3 rfl
      refine Rn.val fun K_ hK_=>?_
      go_simp
      exact hK_.out _ (Ext.refl _)
    refine RnL.cons (fun g1 A_ W_ hs_=>?_) ?_
    · have q10_:=hs_.val 1 rfl rfl rfl
      refine Rn.val fun K_ hK_=>?_
      go_simp
      exact hK_.out _ (Ext.refl _)
    refine RnL.cons (fun g1 A_ W_ hs_=>?_) ?_
    · have q12_:=hs_.val 3 rfl rfl rfl
      refine Rn.val fun K_ hK_=>?_
      go_simp
      exact hK_.out _ (Ext.refl _)
    refine RnL.cons (fun g1 A_ W_ hs_=>?_) ?_
    · have q14_:=hs_.val 5 rfl rfl rfl
      refine Rn.val fun K_ hK_=>?_
      go_simp
      exact hK_.out _ (Ext.refl _)
    refine RnL.cons (fun g1 A_ W_ hs_=>?_) ?_
    · have q16_:=hs_.val 7 rfl rfl rfl
      refine Rn.val fun K_ hK_=>?_
      go_simp
      exact hK_.out _ (Ext.refl _)
    exact RnL.nil
  simp only [fs,Kd.value,puts,Act.put,List.setIfInBounds_toArray,List.set_cons_zero,List.set_cons_succ]
  have HX2:Hid (Ext w w2):=Lib.hid (HX1.out.drew.trans hx_)
  have HB1_2:=Lib.hid (HB1_1.out.drew.ext hx_)
  clear hx_ hm_ hne_
  go_upto_region 4 with fail
  refine wp_name (fun W=>Ext w W∧Blk W (w.heap.size+1) #[.string ⟨#[]⟩,.string ⟨#[]⟩,.string ⟨#[]⟩,.string ⟨#[]⟩,.string ⟨#[]⟩,.string ⟨#[]⟩,.string ⟨#[]⟩,.string ⟨#[]⟩,.string ⟨#[]⟩] 59∧Blk W (w2.heap.size) #[.int .i64 (norm4 t)] 3) ⟨(HX2.out.alloc _),(HB1_2.out.alloc _),(Blk.new' (w:=_) (cs:=#[.int .i64 (norm4 t)]) (t:=3) (by first|rfl|(simp only [World.size_alloc];done)|(simp only [World.size_alloc];omega)|simp))⟩ ?_
  rintro w3 ⟨e3,bB1_3,bB2_3⟩
  have HX3:=Lib.hid e3;have HB1_3:=Lib.hid bB1_3;have HB2_3:=Lib.hid bB2_3
  have HGEB2:Hid (w.heap.size≤w2.heap.size):=Lib.hid (by have:=HX2.out.size;first|omega|(simp only [];omega)|(simp;omega))
  clear e3 bB1_3 bB2_3
  go_wp2_with fail
  refine ((rrow_c (t.w*t.w+t.x*t.x-t.y*t.y-t.z*t.z) (2*(t.x*t.y-t.w*t.z)) (2*(t.x*t.z+t.w*t.y)) (norm4 t) (w2.heap.size) _ (HG.out.ext HX3.out) HB2_3.out HR1.out.1 HR1.out.2.1 HR1.out.2.2 HNN.out:Calls _ _ _ _ (Ret _ (.agg #[.string (qs (row1 t).x),.string (qs (row1 t).y),.string (qs (row1 t).z)])))).mono ?_;rintro e w4 ⟨rfl,e4⟩
  have HX4:Hid (Ext w w4):=Lib.hid (HX3.out.trans e4)
  have HB1_4:=Lib.hid (Blk.ext HB1_3.out e4)
  have HB2_4:=Lib.hid (Blk.ext HB2_3.out e4)
  clear e4
  go_wp2_with fail
  refine ((rrow_c (2*(t.x*t.y+t.w*t.z)) (t.w*t.w-t.x*t.x+t.y*t.y-t.z*t.z) (2*(t.y*t.z-t.w*t.x)) (norm4 t) (w2.heap.size) _ (HG.out.ext HX4.out) HB2_4.out HR2.out.1 HR2.out.2.1 HR2.out.2.2 HNN.out:Calls _ _ _ _ (Ret _ (.agg #[.string (qs (row2 t).x),.string (qs (row2 t).y),.string (qs (row2 t).z)])))).mono ?_;rintro e w5 ⟨rfl,e5⟩
  have HX5:Hid (Ext w w5):=Lib.hid (HX4.out.trans e5)
  have HB1_5:=Lib.hid (Blk.ext HB1_4.out e5)
  have HB2_5:=Lib.hid (Blk.ext HB2_4.out e5)
  clear e5
  go_wp2_with fail
  refine ((rrow_c (2*(t.x*t.z-t.w*t.y)) (2*(t.y*t.z+t.w*t.x)) (t.w*t.w-t.x*t.x-t.y*t.y+t.z*t.z) (norm4 t) (w2.heap.size) _ (HG.out.ext HX5.out) HB2_5.out HR3.out.1 HR3.out.2.1 HR3.out.2.2 HNN.out:Calls _ _ _ _ (Ret _ (.agg #[.string (qs (row3 t).x),.string (qs (row3 t).y),.string (qs (row3 t).z)])))).mono ?_;rintro e w6 ⟨rfl,e6⟩
  have HX6:Hid (Ext w w6):=Lib.hid (HX5.out.trans e6)
  have HB1_6:=Lib.hid (Blk.ext HB1_5.out e6)
  have HB2_6:=Lib.hid (Blk.ext HB2_5.out e6)
  clear e6
  have c1_0:=HB1_6.out.cell 0 rfl
  have f1_0:=HB1_6.out.free 0
  have c1_1:=HB1_6.out.cell 1 rfl
  have f1_1:=HB1_6.out.free 1
  have c1_2:=HB1_6.out.cell 2 rfl
  have f1_2:=HB1_6.out.free 2
  have c1_3:=HB1_6.out.cell 3 rfl
  have f1_3:=HB1_6.out.free 3
  have c1_4:=HB1_6.out.cell 4 rfl
  have f1_4:=HB1_6.out.free 4
  have c1_5:=HB1_6.out.cell 5 rfl
  have f1_5:=HB1_6.out.free 5
  have c1_6:=HB1_6.out.cell 6 rfl
  have f1_6:=HB1_6.out.free 6
  have c1_7:=HB1_6.out.cell 7 rfl
  have f1_7:=HB1_6.out.free 7
  have c1_8:=HB1_6.out.cell 8 rfl
  have f1_8:=HB1_6.out.free 8
  go_wp2_with fail
  refine wp_name (fun W=>Ext w W∧Blk W (w.heap.size+1) #[.string (qs ((row1 t).x)),.string (qs ((row1 t).y)),.string (qs ((row1 t).z)),.string (qs ((row2 t).x)),.string (qs ((row2 t).y)),.string (qs ((row2 t).z)),.string (qs ((row3 t).x)),.string (qs ((row3 t).y)),.string (qs ((row3 t).z))] 59) ⟨(((((((((HX6.out.setCell (by have:=HGEB1.out;first|omega|(simp only [];omega)|(simp;omega)) _).setCell (by have:=HGEB1.out;first|omega|(simp only [];omega)|(simp;omega)) _).setCell (by have:=HGEB1.out;first|omega|(simp only [];omega)|(simp;omega)) _).setCell (by have:=HGEB1.out;first|omega|(simp only [];omega)|(simp;omega)) _).setCell (by have:=HGEB1.out;first|omega|(simp only [];omega)|(simp;omega)) _).setCell (by have:=HGEB1.out;first|omega|(simp only [];omega)|(simp;omega)) _).setCell (by have:=HGEB1.out;first|omega|(simp only [];omega)|(simp;omega)) _).setCell (by have:=HGEB1.out;first|omega|(simp only [];omega)|(simp;omega)) _).setCell (by have:=HGEB1.out;first|omega|(simp only [];omega)|(simp;omega)) _),(((((((((HB1_6.out.set 0 (.string (qs ((row1 t).x)))).set 1 (.string (qs ((row1 t).y)))).set 2 (.string (qs ((row1 t).z)))).set 3 (.string (qs ((row2 t).x)))).set 4 (.string (qs ((row2 t).y)))).set 5 (.string (qs ((row2 t).z)))).set 6 (.string (qs ((row3 t).x)))).set 7 (.string (qs ((row3 t).y)))).set 8 (.string (qs ((row3 t).z))))⟩ ?_
  rintro w7 ⟨e7,bB1_7⟩
  have HX7:=Lib.hid e7;have HB1_7:=Lib.hid bB1_7
  clear e7 bB1_7 c1_0 f1_0 c1_1 f1_1 c1_2 f1_2 c1_3 f1_3 c1_4 f1_4 c1_5 f1_5 c1_6 f1_6 c1_7 f1_7 c1_8 f1_8
  have gB1_0:=HB1_7.out.cell 0 rfl
  have gB1_1:=HB1_7.out.cell 1 rfl
  have gB1_2:=HB1_7.out.cell 2 rfl
  have gB1_3:=HB1_7.out.cell 3 rfl
  have gB1_4:=HB1_7.out.cell 4 rfl
  have gB1_5:=HB1_7.out.cell 5 rfl
  have gB1_6:=HB1_7.out.cell 6 rfl
  have gB1_7:=HB1_7.out.cell 7 rfl
  have gB1_8:=HB1_7.out.cell 8 rfl
  refine bodyPost_ret (v:=.agg #[.string (qs ((row1 t).x)),.string (qs ((row1 t).y)),.string (qs ((row1 t).z)),.string (qs ((row2 t).x)),.string (qs ((row2 t).y)),.string (qs ((row2 t).z)),.string (qs ((row3 t).x)),.string (qs ((row3 t).y)),.string (qs ((row3 t).z))]) (by simp [results,Tryz.results60,go_sem,gB1_0,gB1_1,gB1_2,gB1_3,gB1_4,gB1_5,gB1_6,gB1_7,gB1_8]) rfl ⟨rfl,HX7.out⟩
end Go.Proofs.YtjeimihnoiephaaGreatDoor
