/- Part 21 of the proof: A6, A7, A8, A9, B1, B2, B3, B4. -/
import Derived.Test.YtglppcmegocphaaGreatDoorQVS20
import Derived.Laws.AppendOwnNone
import Derived.Outline
import Derived.Deep.LoopGhost
namespace Go.Proofs.YtglppcmegocphaaGreatDoor
open Go Go.RowKit
theorem run_append_empty {P : Program} {W : World} (t ty e : TypeId) (i : TypeInfo) (ht : P.underlying t = some (.slice e)) (hi : P.info? e = some i) (g cap : Nat) (ad : Option Addr) :
    (Builtin.append_ #[t, t] ty #[.slice (some ⟨g, 0, none⟩) 0 0, .slice ad 0 cap]).run P W = .ok (.slice (some ⟨g, 0, none⟩) 0 0) W := by
  cases ad
  · simp [Builtin.append_, run_underlying ht, sizeOf, typeInfo, hi, Builtin.lenOf, Builtin.firstCells, storeCells]
  · simp [Builtin.append_, run_underlying ht, sizeOf, typeInfo, hi, Builtin.lenOf, Builtin.firstCells, storeCells, loadCells, loadCellsFrom]

theorem wpList_append_empty {P : Program} {w : World} {ops : Array Oper} {rest : List Oper} {o : Oper} {a : Act} {Q : Exit → Act → World → Prop} (hgd : o.guard = none) (s x : Operand) (t : TypeId)
    (ho : o.op = .call { callee := .builtin .append, args := #[s, x], argTypes := #[t, t] })
    (e : TypeId) (i : TypeInfo) (ht : P.underlying t = some (.slice e)) (hi : P.info? e = some i) (g cap : Nat) (ad : Option Addr)
    (hs : a.eval s = .slice (some ⟨g, 0, none⟩) 0 0) (hx : a.eval x = .slice ad 0 cap)
    (h : wpList P ops Q rest (a.put o.dst (.slice (some ⟨g, 0, none⟩) 0 0)) w) : wpList P ops Q (o :: rest) a w := by
  refine wpList_plain hgd fun K hK => ?_
  have hrun := run_append_empty (P := P) (W := w) t o.type e i ht hi g cap ad
  unfold Oper.wp
  simp [execOp, ho, resolve, invoke, builtin, hs, hx, hrun, Result.andThen]
  exact hK _ _ h

theorem imv_set_add : ∀ {xs : List Int} {j : Nat} {d : Int}, j < xs.length → imv (xs.set j (xs.getD j 0 + d)) = imv xs + 10000 ^ j * d
  | x :: t, 0, d, _ => by simp [imv]; omega
  | x :: t, j + 1, d, h => by
    have ih := imv_set_add (xs := t) (j := j) (d := d) (by simpa using h)
    simp only [List.set_cons_succ, imv, List.getD_cons_succ, ih]
    rw [Int.mul_add, Int.pow_succ, Int.add_assoc, Int.mul_comm (10000 ^ j) 10000, Int.mul_assoc]

/-- The rounds of joined. -/
structure JInv (P Q : List Nat) (k : Int) (i : Nat) (O : List Int) : Prop where
  lo : i ≤ O.length
  hi : O.length ≤ P.length + i
  val : imv O = (mv 10000 P : Int) + k * mv 10000 (Q.take i)
  all : ∀ y ∈ O, -200000000 ≤ y ∧ y ≤ 200000000
  rest : ∀ j, i ≤ j → 0 ≤ O.getD j 0 ∧ O.getD j 0 ≤ 9999

theorem JInv.start {P Q : List Nat} {k : Int} (h : Below' 10000 P) : JInv P Q k 0 (P.map Int.ofNat) := by
  refine ⟨Nat.zero_le _, by simp, by rw [imv_nat, List.take_zero]; show _ = _ + k * ((0 : Nat) : Int); simp, fun y hy => ?_, fun j _ => ?_⟩
  · obtain ⟨x, hx, rfl⟩ := List.mem_map.1 hy
    have := h x hx
    exact ⟨by show _ ≤ (x : Int); omega, by show (x : Int) ≤ _; omega⟩
  · by_cases hj : j < P.length
    · have := h P[j] (List.getElem_mem _)
      rw [List_getD_lt (by simpa using hj), List.getElem_map]
      exact ⟨Int.natCast_nonneg _, by show (P[j] : Int) ≤ _; omega⟩
    · simp [List.getElem?_eq_none (Nat.le_of_not_lt hj)]

theorem JInv.pad {P Q : List Nat} {k : Int} {i : Nat} {O : List Int} (h : JInv P Q k i O) (hl : O.length ≤ i) : imv (O ++ [0]) = imv O ∧ (∀ y ∈ O ++ [(0 : Int)], -200000000 ≤ y ∧ y ≤ 200000000) ∧ (∀ j, i ≤ j → 0 ≤ (O ++ [(0 : Int)]).getD j 0 ∧ (O ++ [(0 : Int)]).getD j 0 ≤ 9999) := by
  refine ⟨by rw [imv_snoc, Int.mul_zero, Int.add_zero], fun y hy => ?_, fun j hj => ?_⟩
  · rcases List.mem_append.1 hy with hy | hy
    · exact h.all y hy
    · simp only [List.mem_singleton] at hy; subst hy; omega
  · have hjl : O.length ≤ j := by omega
    rw [List.getD_eq_getElem?_getD, List.getElem?_append_right hjl]
    rcases Nat.eq_zero_or_pos (j - O.length) with e | e
    · rw [e]; simp
    · rw [List.getElem?_eq_none (by simp; omega)]; simp

theorem JInv.step {P Q : List Nat} {k : Int} {i : Nat} {O : List Int} {y : Nat} (h2 : imv O = (mv 10000 P : Int) + k * mv 10000 (Q.take i)) (ha : ∀ y ∈ O, -200000000 ≤ y ∧ y ≤ 200000000) (hr : ∀ j, i ≤ j → 0 ≤ O.getD j 0 ∧ O.getD j 0 ≤ 9999)
    (hh : O.length ≤ P.length + i + 1) (hl : i < O.length) (hi : i < Q.length) (hy : y = Q[i]?.getD 0) (hy1 : y < 10000) (hk1 : -9999 ≤ k) (hk2 : k ≤ 9999) : JInv P Q k (i + 1) (O.set i (O.getD i 0 + k * y)) := by
  have hky : -100000000 ≤ k * y ∧ k * y ≤ 100000000 := by
    have h1 : (k * (y : Int)).natAbs ≤ 10000 * 10000 := by rw [Int.natAbs_mul, Int.natAbs_natCast]; exact Nat.mul_le_mul (by omega) (by omega)
    omega
  have hri := hr i (Nat.le_refl _)
  refine ⟨by rw [List.length_set]; omega, by rw [List.length_set]; omega, ?_, fun z hz => ?_, fun j hj => ?_⟩
  · rw [imv_set_add hl, h2, mv_take_succ 10000 Q i hi, show Q[i] = y by rw [hy]; simp [hi], Int.natCast_add, Int.natCast_mul, Int.natCast_pow, Int.mul_add, ← Int.add_assoc]
    congr 1
    show (10000 : Int) ^ i * (k * y) = k * ((10000 : Int) ^ i * y)
    rw [Int.mul_left_comm]
  · rcases List.mem_or_eq_of_mem_set hz with hz | hz
    · exact ha z hz
    · rw [hz]; omega
  · rw [List.getD_eq_getElem?_getD, List.getElem?_set_ne (by omega), ← List.getD_eq_getElem?_getD]
    exact hr j (by omega)

theorem joined_src {w : World} {ad : Option Addr} {n c : Nat} {P : List Nat} (h : Holds .i64 w (.slice ad n c) P) (hn : 0 < n) : ∃ (b off : Nat), ad = some ⟨b, off, none⟩ ∧ n = P.length ∧
    ∀ j u, (P.map fun (x : Nat) => Value.int .i64 x)[j]? = some u → w.cell? ((⟨b, off, none⟩ : Addr).add j) = some u := by
  obtain ⟨ad', cap, b, off, hv, h1, h2, h3, h4⟩ := h
  simp only [Value.slice.injEq] at hv
  obtain ⟨rfl, rfl, rfl⟩ := hv
  refine ⟨b, off, (h3 hn).1, rfl, fun j u hu => ?_⟩
  have hj : j < P.length := by have := (List.getElem?_eq_some_iff.1 hu).1; simpa using this
  rw [Lib.add_plain, h4 j hj]
  rw [List.getElem?_map, List.getElem?_eq_getElem hj] at hu
  rw [← hu]; simp [hj]

/-- The value out, and the ints that it has. -/
def OutI (w wr : World) (v : Value) (O : List Int) : Prop := wr.ownsRow w.heap.size 3 1 v O.length (O.map (Value.int .i64)) ∧ Ext w wr

theorem OutI.slice {w wr : World} {v : Value} {O : List Int} (h : OutI w wr v O) : ∃ ad cap, v = .slice ad O.length cap := by
  rcases h.1.2 with ⟨rfl, h0⟩ | ⟨g, cap, cur, rfl, _⟩
  · exact ⟨none, 0, by rw [h0]⟩
  · exact ⟨_, cap, rfl⟩

theorem OutI.at' {w wr : World} {v : Value} {O : List Int} (h : OutI w wr v O) (h0 : 0 < O.length) : ∃ g cap, v = .slice (some ⟨g, 0, none⟩) O.length cap ∧ w.heap.size ≤ g ∧
    (∀ i, i < O.length → wr.cell? ⟨g, i, none⟩ = some (.int .i64 (O.getD i 0))) ∧ (∀ i, wr.frozen? ⟨g, i, none⟩ = false) ∧
    ∀ i x, OutI w (wr.setCell ⟨g, i, none⟩ (.int .i64 x)) v (O.set i x) := by
  have hown := h.1
  rcases h.1.2 with ⟨rfl, h1⟩ | ⟨g, cap, cur, rfl, hg, _⟩
  · omega
  · refine ⟨g, cap, rfl, hg, fun i hi => ?_, fun i => hown.frozenAt i, fun i x => ?_⟩
    · rw [hown.cellAt i (by omega)]; simp [hi]
    · have := hown.stored i (.int .i64 x)
      refine ⟨?_, h.2.setCell hg _⟩
      rw [List.length_set, List.map_set]
      exact this.1

set_option maxRecDepth 100000 in
set_option maxHeartbeats 4000000 in
theorem joined_c (a b : Nat) (k : Int) (va vb : Value) (w : World) (ha : RMag w va a) (hb : RMag w vb b) (hk1 : -9999 ≤ k) (hk2 : k ≤ 9999) (h0 : 0 ≤ (a : Int) + k * b) (fa : RFit a) (fb : RFit b) (fc : RFit ((a : Int) + k * b).toNat) :
    Calls Tryz.prog 166 #[va, vb, .int .i64 k, .int .i64 0] w (RPost w ((a : Int) + k * b).toNat) := by
  obtain ⟨i0, hi, hz0, hz1, hz2⟩ := info_parts Tryz.infoInt
  obtain ⟨ad, n, cn, rfl⟩ := ha.slice
  obtain ⟨P, hP, cP, rfl⟩ := ha
  obtain ⟨Q, hQ, cQ, rfl⟩ := hb
  have hn : n = P.length := by obtain ⟨_, _, _, _, hv, _⟩ := hP; simp only [Value.slice.injEq] at hv; exact hv.2.1
  have hP2 := fa.len cP rfl
  have hQ2 := fb.len cQ rfl
  obtain ⟨m, hm⟩ : ∃ m, m = Q.length := ⟨_, rfl⟩
  obtain ⟨adQ, capQ, kQ, oQ, rfl, h1Q, hcQ, hbQ, hCQ⟩ := hQ
  rw [← hm] at hQ2 h1Q hbQ hCQ ⊢
  have HP := Lib.hid hP; have HM := Lib.hid hm; have H3 := Lib.hid hbQ; have H4 := Lib.hid hCQ; have BP := Lib.hid cP.lt; have BQ := Lib.hid cQ.lt; have H0 := Lib.hid h0; have HF := Lib.hid fc; have HNP := Lib.hid hn
  clear hP hm hbQ hCQ cP cQ h0 fa fb fc
  by_cases hn0 : n = 0
  · subst hn0
    have hPn : P = [] := List.length_eq_zero_iff.1 hn.symm
    have hown0 := (World.ownsRow_lit (base := w.heap.size) (e := 3) (size := 1) w #[] 0 (Nat.le_refl _) (by unfold maxLen; omega) rfl)
    have HO0 : Hid (OutI w (w.alloc (.cells #[] 3)) (.slice (some ⟨w.heap.size, 0, none⟩) 0 0) (P.map Int.ofNat)) := Lib.hid (by subst hPn; exact ⟨hown0, (Ext.refl w).alloc _⟩)
    clear hn hPn hown0
    go_enter Tryz.func166, Tryz.ntmps166
    go_wp2_with (at_builtin; refine wpList_append_empty rfl _ _ 165 rfl 3 i0 Tryz.underlying165 hi w.heap.size cn ad rfl rfl ?_)
    go_loopw [9, 10] (fun out i W => ∃ (x : Nat) (O : List Int), i = .int .i64 x ∧ x ≤ m ∧ OutI w W out O ∧ Hid (JInv P Q k x O)) (fun _ i _ => m - (intOf i).toNat)
    case atStart => exact ⟨0, P.map Int.ofNat, rfl, Nat.zero_le _, HO0.out, Lib.hid (JInv.start BP.out)⟩
    case round =>
      obtain ⟨x, O, rfl, hx, hout, hinv⟩ := hrel
      obtain ⟨oa, oc, rfl⟩ := hout.slice
      have hOl : O.length ≤ 10000 := by have := hinv.out.hi; omega
      have HO1 := Lib.hid hout
      clear hout
      by_cases hxm : x < m
      · have hxm' : (x : Int) < (m : Int) := by omega
        obtain ⟨y, hy⟩ : ∃ y, y = Q[x]?.getD 0 := ⟨_, rfl⟩
        have hylt : y < 10000 := by rw [hy]; exact getD_lt' (by decide) BQ.out x
        have HY := Lib.hid hy
        clear hy
        go_wp2
        go_loopw [9] (fun out W => ∃ O' : List Int, OutI w W out O' ∧ x ≤ O'.length ∧ O'.length ≤ 10001 ∧ Hid (O'.length ≤ P.length + x + 1 ∧ (O'.length ≤ x → JInv P Q k x O') ∧ imv O' = (mv 10000 P : Int) + k * mv 10000 (Q.take x) ∧ (∀ y ∈ O', -200000000 ≤ y ∧ y ≤ 200000000) ∧ (∀ j, x ≤ j → 0 ≤ O'.getD j 0 ∧ O'.getD j 0 ≤ 9999)))
          (fun out _ => match out with | .slice _ l _ => x + 1 - l | _ => 0)
        case atStart => exact ⟨O, HO1.out, hinv.out.lo, by omega, Lib.hid ⟨by have := hinv.out.hi; omega, fun _ => hinv.out, hinv.out.val, hinv.out.all, hinv.out.rest⟩⟩
        case round =>
          obtain ⟨O', hout, hlo, hhi, hin⟩ := hrel
          obtain ⟨pa, pc, rfl⟩ := hout.slice
          have HO2 := Lib.hid hout
          by_cases hle : O'.length ≤ x
          · have hle' : (O'.length : Int) ≤ (x : Int) := by omega
            have hpd := (hin.out.2.1 hle).pad hle
            have HPD := Lib.hid hpd
            clear hpd hout
            go_wp2_with (at_builtin; refine wpList_append_own (wr.alloc (.cells #[.int .i64 0] 3)) rfl _ _ 165 rfl w.heap.size 3 i0 (.int .i64 0) 1 8 Tryz.underlying165 hi hz0 hz1 hz2 rfl (by decide) _ O'.length _ rfl (HO2.out.1.alloc _) ⟨wr.heap.size, 0, none⟩ 1 1 [.int .i64 0] rfl rfl (one_at wr 0 _) (by intro u hu; simp at hu; subst hu; rfl) (by unfold maxLen; omega) (by omega) (by have := HO2.out.2.size; simp; omega) ?_; intro v' w1 hown1 hgrow1 hv1)
            go_roundw
            case rel =>
              refine ⟨O' ++ [0], ⟨?_, (HO2.out.2.alloc _).grown hgrow1 (fun g hg => own_base HO2.out.1 g hg)⟩, by simp; omega, by simp; omega, Lib.hid ⟨by have := hin.out.1; simp; omega, fun h => by simp at h; omega, by rw [HPD.out.1]; exact hin.out.2.2.1, HPD.out.2.1, HPD.out.2.2⟩⟩
              rw [List.length_append, List.map_append]; exact hown1
            case measure =>
              have hlen : ∃ ga gc, v' = .slice ga (O'.length + 1) gc := by
                rcases hown1.2 with ⟨_, h1⟩ | ⟨g, cap, cur, h1, _⟩
                · omega
                · exact ⟨_, _, h1⟩
              obtain ⟨ga, gc, rfl⟩ := hlen
              show x + 1 - (O'.length + 1) < x + 1 - O'.length
              omega
          · have hle' : ¬ (O'.length : Int) ≤ (x : Int) := by omega
            obtain ⟨g, cap, hvv, hg, hcells, hfr, hset⟩ := hout.at' (by omega)
            simp only [Value.slice.injEq, true_and] at hvv
            obtain ⟨rfl, rfl⟩ := hvv
            obtain ⟨o, ho⟩ : ∃ o, o = O'.getD x 0 := ⟨_, rfl⟩
            have hob := hin.out.2.2.2.2 x (Nat.le_refl _)
            rw [← ho] at hob
            obtain ⟨ho1, ho2⟩ := hob
            have hcell1 : wr.cell? ⟨g, x, none⟩ = some (.int .i64 o) := by rw [ho]; exact hcells x (by omega)
            have hcell2 : wr.cell? ⟨kQ, oQ + x, none⟩ = some (.int .i64 (y : Int)) := by
              rw [HY.out]; exact (hout.2.cell (p := ⟨kQ, oQ + x, none⟩) (H3.out (by omega)).2).trans (H4.out x hxm)
            have hfree := hfr x
            have hix2 := run_index 165 3 Tryz.underlying165 Tryz.sizeInt (cap := capQ) (fun h => (H3.out h).1) x hxm
            have hJ := JInv.step hin.out.2.2.1 hin.out.2.2.2.1 hin.out.2.2.2.2 hin.out.1 (by omega) (by rw [← HM.out]; exact hxm) HY.out hylt hk1 hk2
            rw [← ho] at hJ
            have HJ := Lib.hid hJ
            have HSET := Lib.hid (hset x (o + k * y))
            have hky : -100000000 ≤ k * (y : Int) ∧ k * (y : Int) ≤ 100000000 := by
              have h1 : (k * (y : Int)).natAbs ≤ 10000 * 10000 := by rw [Int.natAbs_mul, Int.natAbs_natCast]; exact Nat.mul_le_mul (by omega) (by omega)
              omega
            obtain ⟨hk3, hk4⟩ := hky
            have sw1 : IntKind.i64.wrap (x : Int) = (x : Int) := IntWalk.i64_in _ (by omega)
            have sw2 : IntKind.i64.wrap (k * (y : Int)) = k * (y : Int) := IntWalk.i64_in _ (by omega)
            have sw3 : IntKind.i64.wrap (o + k * (y : Int)) = o + k * (y : Int) := IntWalk.i64_in _ (by omega)
            have i1 : (0 : Int) ≤ (x : Int) := by omega
            have i2 : (x : Int) < (O'.length : Int) := by omega
            have i3 : x < O'.length := by omega
            clear ho hcells hfr hset hJ hout hle
            go_wp2
            go_region_law (fail)
            all_goals
              go_wp2
              go_roundw
              case rel => first | exact ⟨x + 1, _, by go_num, by omega, ⟨HSET.out.1.drew, HSET.out.2.drew⟩, HJ⟩ | ((repeat apply Exists.intro); exact ⟨⟨x + 1, _, by go_num, by omega, by have := HSET.out; rw [List.length_set] at *; exact ⟨this.1.drew, this.2.drew⟩, HJ⟩, rfl⟩)
              case measure => simp [intOf]; omega
      · obtain rfl : m = x := by omega
        have hval := hinv.out.val
        rw [HM.out, List.take_length] at hval
        have hcar := carry_c O (.slice oa O.length oc) wr (HoldsI.of_owns HO1.out.1) (fun z hz => by have := hinv.out.all z hz; omega) (by omega) (by rw [hval]; exact H0.out) (by rw [hval]; exact HF.out)
        rw [hval] at hcar
        have HC := Lib.hid hcar
        clear hcar hval
        go_wp2_with (go_at_call 174; refine HC.out.mono ?_; rintro e w' ⟨v', rfl, e1, hm⟩)
        go_ret
        exact ⟨v', rfl, HO1.out.2.trans e1, hm⟩
  · have hn1 : 0 < n := by omega
    obtain ⟨bP, oP, rfl, hnP, hnews⟩ := joined_src (HP.out.ext ((Ext.refl w).alloc (.cells #[] 3))) hn1
    have hown0 := (World.ownsRow_lit (base := w.heap.size) (e := 3) (size := 1) w #[] 0 (Nat.le_refl _) (by unfold maxLen; omega) rfl)
    have HW := Lib.hid hnews; have HO00 := Lib.hid hown0
    have hn5 : n ≤ 5000 := by omega
    clear hnews hown0 hnP hn
    go_enter Tryz.func166, Tryz.ntmps166
    go_wp2_with (at_builtin; refine wpList_append_own (w.alloc (.cells #[] 3)) rfl _ _ 165 rfl w.heap.size 3 i0 (.int .i64 0) 1 8 Tryz.underlying165 hi hz0 hz1 hz2 rfl (by decide) _ 0 _ rfl HO00.out ⟨bP, oP, none⟩ n cn (P.map fun (x : Nat) => Value.int .i64 x) rfl (by rw [List.length_map, ← HNP.out]; simp) HW.out (by intro u hu; obtain ⟨x, _, rfl⟩ := List.mem_map.1 hu; rfl) (by unfold maxLen; omega) (by omega) (by simp) ?_; intro v0 wr0 hown1 hgrow1 hv1)
    have HO0 : Hid (OutI w wr0 v0 (P.map Int.ofNat)) := Lib.hid (by
      refine ⟨?_, ((Ext.refl w).alloc _).grown hgrow1 (fun g hg => own_base HO00.out g hg)⟩
      have h1 := hown1
      rw [List.length_map, List.map_map, ← HNP.out]
      have h2 : wr0.ownsRow w.heap.size 3 1 v0 n (P.map fun (x : Nat) => Value.int .i64 x) := by simpa using h1
      exact h2)
    clear hown1 hgrow1 hv1
    go_loopw [9, 10] (fun out i W => ∃ (x : Nat) (O : List Int), i = .int .i64 x ∧ x ≤ m ∧ OutI w W out O ∧ Hid (JInv P Q k x O)) (fun _ i _ => m - (intOf i).toNat)
    case atStart => exact ⟨0, P.map Int.ofNat, rfl, Nat.zero_le _, HO0.out, Lib.hid (JInv.start BP.out)⟩
    case round =>
      obtain ⟨x, O, rfl, hx, hout, hinv⟩ := hrel
      obtain ⟨oa, oc, rfl⟩ := hout.slice
      have hOl : O.length ≤ 10000 := by have := hinv.out.hi; omega
      have HO1 := Lib.hid hout
      clear hout
      by_cases hxm : x < m
      · have hxm' : (x : Int) < (m : Int) := by omega
        obtain ⟨y, hy⟩ : ∃ y, y = Q[x]?.getD 0 := ⟨_, rfl⟩
        have hylt : y < 10000 := by rw [hy]; exact getD_lt' (by decide) BQ.out x
        have HY := Lib.hid hy
        clear hy
        go_wp2
        go_loopw [9] (fun out W => ∃ O' : List Int, OutI w W out O' ∧ x ≤ O'.length ∧ O'.length ≤ 10001 ∧ Hid (O'.length ≤ P.length + x + 1 ∧ (O'.length ≤ x → JInv P Q k x O') ∧ imv O' = (mv 10000 P : Int) + k * mv 10000 (Q.take x) ∧ (∀ y ∈ O', -200000000 ≤ y ∧ y ≤ 200000000) ∧ (∀ j, x ≤ j → 0 ≤ O'.getD j 0 ∧ O'.getD j 0 ≤ 9999)))
          (fun out _ => match out with | .slice _ l _ => x + 1 - l | _ => 0)
        case atStart => exact ⟨O, HO1.out, hinv.out.lo, by omega, Lib.hid ⟨by have := hinv.out.hi; omega, fun _ => hinv.out, hinv.out.val, hinv.out.all, hinv.out.rest⟩⟩
        case round =>
          obtain ⟨O', hout, hlo, hhi, hin⟩ := hrel
          obtain ⟨pa, pc, rfl⟩ := hout.slice
          have HO2 := Lib.hid hout
          by_cases hle : O'.length ≤ x
          · have hle' : (O'.length : Int) ≤ (x : Int) := by omega
            have hpd := (hin.out.2.1 hle).pad hle
            have HPD := Lib.hid hpd
            clear hpd hout
            go_wp2_with (at_builtin; refine wpList_append_own (wr.alloc (.cells #[.int .i64 0] 3)) rfl _ _ 165 rfl w.heap.size 3 i0 (.int .i64 0) 1 8 Tryz.underlying165 hi hz0 hz1 hz2 rfl (by decide) _ O'.length _ rfl (HO2.out.1.alloc _) ⟨wr.heap.size, 0, none⟩ 1 1 [.int .i64 0] rfl rfl (one_at wr 0 _) (by intro u hu; simp at hu; subst hu; rfl) (by unfold maxLen; omega) (by omega) (by have := HO2.out.2.size; simp; omega) ?_; intro v' w1 hown1 hgrow1 hv1)
            go_roundw
            case rel =>
              refine ⟨O' ++ [0], ⟨?_, (HO2.out.2.alloc _).grown hgrow1 (fun g hg => own_base HO2.out.1 g hg)⟩, by simp; omega, by simp; omega, Lib.hid ⟨by have := hin.out.1; simp; omega, fun h => by simp at h; omega, by rw [HPD.out.1]; exact hin.out.2.2.1, HPD.out.2.1, HPD.out.2.2⟩⟩
              rw [List.length_append, List.map_append]; exact hown1
            case measure =>
              have hlen : ∃ ga gc, v' = .slice ga (O'.length + 1) gc := by
                rcases hown1.2 with ⟨_, h1⟩ | ⟨g, cap, cur, h1, _⟩
                · omega
                · exact ⟨_, _, h1⟩
              obtain ⟨ga, gc, rfl⟩ := hlen
              show x + 1 - (O'.length + 1) < x + 1 - O'.length
              omega
          · have hle' : ¬ (O'.length : Int) ≤ (x : Int) := by omega
            obtain ⟨g, cap, hvv, hg, hcells, hfr, hset⟩ := hout.at' (by omega)
            simp only [Value.slice.injEq, true_and] at hvv
            obtain ⟨rfl, rfl⟩ := hvv
            obtain ⟨o, ho⟩ : ∃ o, o = O'.getD x 0 := ⟨_, rfl⟩
            have hob := hin.out.2.2.2.2 x (Nat.le_refl _)
            rw [← ho] at hob
            obtain ⟨ho1, ho2⟩ := hob
            have hcell1 : wr.cell? ⟨g, x, none⟩ = some (.int .i64 o) := by rw [ho]; exact hcells x (by omega)
            have hcell2 : wr.cell? ⟨kQ, oQ + x, none⟩ = some (.int .i64 (y : Int)) := by
              rw [HY.out]; exact (hout.2.cell (p := ⟨kQ, oQ + x, none⟩) (H3.out (by omega)).2).trans (H4.out x hxm)
            have hfree := hfr x
            have hix2 := run_index 165 3 Tryz.underlying165 Tryz.sizeInt (cap := capQ) (fun h => (H3.out h).1) x hxm
            have hJ := JInv.step hin.out.2.2.1 hin.out.2.2.2.1 hin.out.2.2.2.2 hin.out.1 (by omega) (by rw [← HM.out]; exact hxm) HY.out hylt hk1 hk2
            rw [← ho] at hJ
            have HJ := Lib.hid hJ
            have HSET := Lib.hid (hset x (o + k * y))
            have hky : -100000000 ≤ k * (y : Int) ∧ k * (y : Int) ≤ 100000000 := by
              have h1 : (k * (y : Int)).natAbs ≤ 10000 * 10000 := by rw [Int.natAbs_mul, Int.natAbs_natCast]; exact Nat.mul_le_mul (by omega) (by omega)
              omega
            obtain ⟨hk3, hk4⟩ := hky
            have sw1 : IntKind.i64.wrap (x : Int) = (x : Int) := IntWalk.i64_in _ (by omega)
            have sw2 : IntKind.i64.wrap (k * (y : Int)) = k * (y : Int) := IntWalk.i64_in _ (by omega)
            have sw3 : IntKind.i64.wrap (o + k * (y : Int)) = o + k * (y : Int) := IntWalk.i64_in _ (by omega)
            have i1 : (0 : Int) ≤ (x : Int) := by omega
            have i2 : (x : Int) < (O'.length : Int) := by omega
            have i3 : x < O'.length := by omega
            clear ho hcells hfr hset hJ hout hle
            go_wp2
            go_region_law (fail)
            all_goals
              go_wp2
              go_roundw
              case rel => first | exact ⟨x + 1, _, by go_num, by omega, ⟨HSET.out.1.drew, HSET.out.2.drew⟩, HJ⟩ | ((repeat apply Exists.intro); exact ⟨⟨x + 1, _, by go_num, by omega, by have := HSET.out; rw [List.length_set] at *; exact ⟨this.1.drew, this.2.drew⟩, HJ⟩, rfl⟩)
              case measure => simp [intOf]; omega
      · obtain rfl : m = x := by omega
        have hval := hinv.out.val
        rw [HM.out, List.take_length] at hval
        have hcar := carry_c O (.slice oa O.length oc) wr (HoldsI.of_owns HO1.out.1) (fun z hz => by have := hinv.out.all z hz; omega) (by omega) (by rw [hval]; exact H0.out) (by rw [hval]; exact HF.out)
        rw [hval] at hcar
        have HC := Lib.hid hcar
        clear hcar hval
        go_wp2_with (go_at_call 174; refine HC.out.mono ?_; rintro e w' ⟨v', rfl, e1, hm⟩)
        go_ret
        exact ⟨v', rfl, HO1.out.2.trans e1, hm⟩
end Go.Proofs.YtglppcmegocphaaGreatDoor

namespace Go.Proofs.YtglppcmegocphaaGreatDoor
open Go Go.RowKit
theorem run_append_emptyN {P : Program} {W : World} (t ty e : TypeId) (i : TypeInfo) (ht : P.underlying t = some (.slice e)) (hi : P.info? e = some i) (g n c cap : Nat) (hn : n ≤ c) (ad : Option Addr) :
    (Builtin.append_ #[t, t] ty #[.slice (some ⟨g, 0, none⟩) n c, .slice ad 0 cap]).run P W = .ok (.slice (some ⟨g, 0, none⟩) n c) W := by
  cases ad
  · simp [Builtin.append_, run_underlying ht, sizeOf, typeInfo, hi, Builtin.lenOf, Builtin.firstCells, storeCells, hn]
  · simp [Builtin.append_, run_underlying ht, sizeOf, typeInfo, hi, Builtin.lenOf, Builtin.firstCells, storeCells, loadCells, loadCellsFrom, hn]

theorem wpList_append_emptyN {P : Program} {w : World} {ops : Array Oper} {rest : List Oper} {o : Oper} {a : Act} {Q : Exit → Act → World → Prop} (hgd : o.guard = none) (s x : Operand) (t : TypeId)
    (ho : o.op = .call { callee := .builtin .append, args := #[s, x], argTypes := #[t, t] })
    (e : TypeId) (i : TypeInfo) (ht : P.underlying t = some (.slice e)) (hi : P.info? e = some i) (g n c cap : Nat) (hn : n ≤ c) (ad : Option Addr)
    (hs : a.eval s = .slice (some ⟨g, 0, none⟩) n c) (hx : a.eval x = .slice ad 0 cap)
    (h : wpList P ops Q rest (a.put o.dst (.slice (some ⟨g, 0, none⟩) n c)) w) : wpList P ops Q (o :: rest) a w := by
  refine wpList_plain hgd fun K hK => ?_
  have hrun := run_append_emptyN (P := P) (W := w) t o.type e i ht hi g n c cap hn ad
  unfold Oper.wp
  simp [execOp, ho, resolve, invoke, builtin, hs, hx, hrun, Result.andThen]
  exact hK _ _ h

theorem RMag.apart {W : World} {B o k c n g i : Nat} (h : RMag W (.slice (some ⟨B, o, none⟩) k c) n) (hB : g ≠ B) (u : Value) : RMag (W.setCell ⟨g, i, none⟩ u) (.slice (some ⟨B, o, none⟩) k c) n := by
  obtain ⟨l, ⟨ad, cap, b, off, hv, h1, h2, h3, h4⟩, hc, hm⟩ := h
  refine ⟨l, ⟨ad, cap, b, off, hv, h1, h2, fun h0 => ⟨(h3 h0).1, by simp; exact (h3 h0).2⟩, fun j hj => ?_⟩, hc, hm⟩
  have hb := (h3 (by omega)).1
  cases hv
  cases hb
  rw [World.cell?_setCell_other _ _ _ _ (by intro e; cases e; exact hB rfl)]
  exact h4 j hj

theorem RMag.setNew {w W : World} {v : Value} {n g i : Nat} (h : RMag w v n) (e : Ext w W) (hg : w.heap.size ≤ g) (u : Value) : RMag (W.setCell ⟨g, i, none⟩ u) v n := h.ext (e.setCell hg u)

theorem OwnI.ext {w wr wr' : World} {n : Nat} {xs : List Nat} (h : OwnI w wr n xs) (e : Ext wr wr') : OwnI w wr' n xs := ⟨h.1, owns_ext h.2.1 e, h.2.2.trans e⟩

/-- The row that append has made: a piece ahead of the rest. -/
structure Ahead (w W : World) (v : Value) (x : Nat) (R : List Nat) : Prop where
  out : ∃ g c, v = .slice (some ⟨g, 0, none⟩) (R.length + 1) c ∧ w.heap.size < g ∧ Holds .i64 W v (x :: R)

theorem ahead_one (w W : World) (x : Nat) (h : w.heap.size < W.heap.size) : Ahead w (W.alloc (.cells #[.int .i64 (x : Int)] 3)) (.slice (some ⟨W.heap.size, 0, none⟩) 1 1) x [] :=
  ⟨_, _, rfl, h, Holds.one W .i64 x _⟩

theorem ahead_more {w W W1 : World} {v : Value} {x n : Nat} {R : List Nat} (hn : R.length = n) (h : w.heap.size < W.heap.size) (hown : W1.ownsRow W.heap.size 3 1 v (1 + n) (#[Value.int .i64 (x : Int)].toList ++ R.map fun (x : Nat) => Value.int .i64 x)) : Ahead w W1 v x R := by
  have h1 : W1.ownsRow W.heap.size 3 1 v (1 + n) ((x :: R).map fun (x : Nat) => Value.int .i64 x) := by simpa using hown
  have hh := Holds.of_owns h1
  rcases h1.2 with ⟨_, h0⟩ | ⟨g, cap, cur, rfl, hg, _⟩
  · omega
  · exact ⟨g, cap, by rw [hn, Nat.add_comm], by omega, hh⟩

theorem parts_bounds {l h m b t : Nat} (hm : m = (l + h + 1) / 2) (hlt : l < h) : (t < m * b → m - 1 < h ∧ t < (m - 1 + 1) * b ∧ l ≤ m - 1) ∧ (¬ t < m * b → m * b ≤ t ∧ m ≤ h ∧ l < m) := by
  refine ⟨fun h1 => ⟨by omega, by rw [show m - 1 + 1 = m by omega]; exact h1, by omega⟩, fun h1 => ⟨by omega, by omega, by omega⟩⟩

theorem quot_of {l b t : Nat} (hl : l * b ≤ t) (hh : t < (l + 1) * b) : t / b = l ∧ (t : Int) + -(l : Int) * (b : Int) = ((t % b : Nat) : Int) := by
  have hb : 0 < b := by
    rcases Nat.eq_zero_or_pos b with h | h
    · subst h; omega
    · exact h
  have e : t / b = l := by
    apply Nat.le_antisymm
    · rw [← Nat.lt_succ_iff]; exact (Nat.div_lt_iff_lt_mul hb).2 hh
    · exact (Nat.le_div_iff_mul_le hb).2 hl
  refine ⟨e, ?_⟩
  have h1 := Nat.div_add_mod t b
  rw [e] at h1
  have h2 : (t : Int) = (b : Int) * (l : Int) + ((t % b : Nat) : Int) := by rw [← Int.natCast_mul]; omega
  rw [Int.neg_mul, Int.mul_comm (l : Int)]
  omega

/-- A divisor with room for a piece more. -/
def fitS : Nat := 4990
structure SFit (n : Nat) : Prop where
  out : n < 10000 ^ fitS
theorem SFit.r {n : Nat} (h : SFit n) : RFit n := ⟨Nat.lt_of_lt_of_le h.out (Nat.pow_le_pow_right (by decide) (by decide))⟩
theorem SFit.mul {n x : Nat} (h : SFit n) (hx : x ≤ n * 10000) : RFit x := ⟨by
  have h1 : n * 10000 < 10000 ^ (fitS + 1) := by rw [Nat.pow_succ]; exact Nat.mul_lt_mul_of_pos_right h.out (by decide)
  exact Nat.lt_of_lt_of_le (Nat.lt_of_le_of_lt hx h1) (Nat.pow_le_pow_right (by decide) (by decide))⟩
theorem IB.sfit {k : Nat} {a : Int} (h : IB k a) (hk : k ≤ 18000) : SFit a.natAbs :=
  ⟨Nat.lt_of_lt_of_le h.out (by rw [show (10000 : Nat) = 10 ^ 4 by decide, ← Nat.pow_mul]; exact Nat.pow_le_pow_right (by decide) (Nat.le_trans hk (by decide)))⟩

def PartsPost (w : World) (q r : Nat) (e : Ending) (w' : World) : Prop := ∃ vq vr, e = .returned (.tuple #[vq, vr]) ∧ Ext w w' ∧ RMag w' vq q ∧ RMag w' vr r

set_option maxRecDepth 100000 in
set_option maxHeartbeats 8000000 in
theorem fparts_c (a b : Nat) (va vb : Value) (w : World) (ha : RMag w va a) (hb : RMag w vb b) (hb0 : 0 < b) (fa : RFit a) (fb : SFit b) :
    Calls Tryz.prog 168 #[va, vb] w (PartsPost w (a / b) (a % b)) := by
  obtain ⟨i0, hi, hz0, hz1, hz2⟩ := info_parts Tryz.infoInt
  obtain ⟨L, hL, cL, rfl⟩ := ha
  have hL2 := fa.len cL rfl
  obtain ⟨bd, bn, bc, rfl⟩ := hb.slice
  obtain ⟨n, hn⟩ : ∃ n, n = L.length := ⟨_, rfl⟩
  obtain ⟨adL, capL, kL, oL, rfl, h1L, hcL, hbL, hCL⟩ := hL
  rw [← hn] at hL2 h1L hbL hCL ⊢
  have HN := Lib.hid hn; have H1 := Lib.hid hbL; have H2 := Lib.hid hCL; have BL := Lib.hid cL.lt; have HB := Lib.hid hb; have HB0 := Lib.hid hb0; have HF := Lib.hid fb
  clear hn hbL hCL cL hb hb0 fa fb
  go_enter Tryz.func168, Tryz.ntmps168
  go_wp2_with (at_make; refine wpList_make_full _ rfl _ _ 165 rfl w.heap.size 3 i0 (.int .i64 0) 1 Tryz.underlying165 hi hz0 hz1 _ _ _ _ n rfl rfl (by omega) (by omega) (by rw [hz2]; omega) (by unfold maxLen; omega) (Nat.le_refl _) ?_; intro w0 hown0 hgrow0)
  rw [made_zeroI] at hown0
  go_loopw [7, 8] (fun rest i wr => ∃ (j r : Nat) (qs : List Nat), j ≤ n ∧ i = .int .i64 ((j : Int) - 1) ∧ OwnI w wr n qs ∧ RMag wr rest r ∧ Hid (DivInv 10000 b L qs j r))
    (fun _ i _ => (intOf i + 1).toNat)
  case atStart =>
    exact ⟨n, 0, List.replicate n 0, Nat.le_refl _, rfl, ⟨by simp, hown0, (Below.refl _ _).grown hgrow0 (Nat.le_refl _) (fun k h => by cases h)⟩, RMag.zero _, Lib.hid (by rw [HN.out]; exact DivInv.start (by decide) HB0.out)⟩
  case round =>
    obtain ⟨j, r, qs, hj, rfl, hown, hrest, hinv⟩ := hrel
    obtain ⟨ra, rl, rc, rfl⟩ := hrest.slice
    have hsz : w.heap.size < wr.heap.size := by
      rcases hown.2.1.2 with ⟨h', _⟩ | ⟨g', cap', cur, h', _, hh, _⟩
      · simp at h'
      · simp only [Value.slice.injEq, Option.some.injEq, Addr.mk.injEq, and_true, true_and] at h'
        have := (Array.getElem?_eq_some_iff.1 hh).1
        omega
    have HOWN := Lib.hid hown; have HR := Lib.hid hrest
    by_cases hj0 : 0 < j
    · obtain ⟨i, rfl⟩ : ∃ i, j = i + 1 := ⟨j - 1, by omega⟩
      have ei : ((i + 1 : Nat) : Int) - 1 = (i : Int) := by omega
      rw [ei]
      have hin : i < n := by omega
      obtain ⟨x, hx⟩ : ∃ x, x = L[i]?.getD 0 := ⟨_, rfl⟩
      have hxlt : x < 10000 := by rw [hx]; exact getD_lt' (by decide) BL.out i
      have hcell1 : wr.cell? ⟨kL, oL + i, none⟩ = some (.int .i64 (x : Int)) := by
        rw [hx]; exact (hown.2.2.cell (p := ⟨kL, oL + i, none⟩) (H1.out (by omega)).2).trans (H2.out i hin)
      have hix1 := run_index 165 3 Tryz.underlying165 Tryz.sizeInt (cap := capL) (fun h => (H1.out h).1) i hin
      have hst := hinv.out.step (by rw [← HN.out]; exact hin) BL.out HB0.out
      rw [← hx] at hst
      have hrem := hinv.out.rem
      obtain ⟨t, ht⟩ : ∃ t, t = r * 10000 + x := ⟨_, rfl⟩
      rw [← ht] at hst
      have htb : t < b * 10000 := by rw [ht]; have := Nat.mul_le_mul_right 10000 (show r + 1 ≤ b from hrem); omega
      have HST := Lib.hid hst; have HT := Lib.hid ht; have HTB := Lib.hid htb
      clear ei hst hrem ht htb hx hown
      have HRF : Hid (RFit t) := Lib.hid (HF.out.mul (Nat.le_of_lt HTB.out))
      obtain ⟨R, hRH, hRC, hRV⟩ := hrest
      have hRl : rl = R.length := by obtain ⟨_, _, _, _, hv, _⟩ := hRH; simp only [Value.slice.injEq] at hv; exact hv.2.1
      have hR5 : R.length ≤ 5000 := by
        have fr : RFit r := HRF.out.mono (by rw [HT.out]; omega)
        exact fr.len hRC hRV
      have HRC := Lib.hid hRC; have HRV := Lib.hid hRV; have HRH := Lib.hid hRH
      clear hRH hRC hRV
      by_cases hr0 : rl = 0
      · subst hr0
        have hRn : R = [] := List.length_eq_zero_iff.1 hRl.symm
        subst hRn
        clear hRl hR5
        have HA := Lib.hid (ahead_one w wr x hsz)
        go_upto_region 7 with (first
          | (at_builtin; refine wpList_append_emptyN rfl _ _ 165 rfl 3 i0 Tryz.underlying165 hi wr.heap.size 1 1 rc (Nat.le_refl _) ra rfl rfl ?_; obtain ⟨W1, hW1⟩ : ∃ W1, wr.alloc (.cells #[.int .i64 (x : Int)] 3) = W1 := ⟨_, rfl⟩; rw [hW1]; have ex : Ext wr W1 := (by rw [← hW1]; exact (Ext.refl _).alloc _); have HA1 : Hid (Ahead w W1 (.slice (some ⟨wr.heap.size, 0, none⟩) 1 1) x []) := (Lib.hid (by rw [← hW1]; exact HA.out)); clear hW1)
          | (go_at_call 172; refine (cut_k _ _ _ HA1.out.out.choose_spec.choose_spec.2.2 (by intro z hz; simp at hz; omega)).mono ?_; rintro e w' ⟨v2, rfl, rfl, hm2, ad2, n2, k2, cap2, e1, rfl⟩))
        have hg : w.heap.size < wr.heap.size := hsz
        have hmt : RMag W1 (.slice (some ⟨wr.heap.size, 0, none⟩) k2 1) t := by
          have : mv 10000 [x] = t := by
            rw [HT.out]; show x + 10000 * mv 10000 [] = _; rw [HRV.out]; omega
          rw [← this]; exact hm2
        have HMT := Lib.hid hmt; have HO2 := Lib.hid (HOWN.out.ext ex); have HBW := Lib.hid ((HB.out.ext HOWN.out.2.2).ext ex)
        clear hm2 hmt ex
        go_wp2
        go_loopw [9, 10] (fun lo hh W => ∃ (l h : Nat), lo = .int .i64 l ∧ hh = .int .i64 h ∧ l ≤ h ∧ h ≤ 9999 ∧ Hid (l * b ≤ t ∧ t < (h + 1) * b) ∧ Ext W1 W) (fun lo hh _ => (intOf hh).toNat - (intOf lo).toNat)
        case atStart => exact ⟨0, 9999, rfl, rfl, by omega, by omega, Lib.hid ⟨by omega, by have := HTB.out; omega⟩, Ext.refl _⟩
        case round =>
          obtain ⟨l, h, rfl, rfl, hlh, hh9, hbs, hxw⟩ := hrel
          by_cases hlt : l < h
          · obtain ⟨m, hm⟩ : ∃ m, m = (l + h + 1) / 2 := ⟨_, rfl⟩
            have hmi : ((l : Int) + (h : Int) + 1) / 2 = (m : Int) := by omega
            have hm9 : m ≤ 9999 := by omega
            have hm1 : 1 ≤ m := by omega
            have PB := Lib.hid (parts_bounds (b := b) (t := t) hm hlt)
            have hmb : m * b ≤ b * 10000 := by rw [Nat.mul_comm]; exact Nat.mul_le_mul_left _ (by omega)
            have hjn := joined_c 0 b (m : Int) (.slice none 0 0) (.slice bd bn bc) wr (RMag.zero _) (HBW.out.ext hxw) (by omega) (by omega) (by rw [← Int.natCast_mul]; omega) ⟨Nat.pow_pos (by decide)⟩ HF.out.r (by rw [show ((0 : Nat) : Int) + (m : Int) * (b : Int) = ((m * b : Nat) : Int) by rw [← Int.natCast_mul]; omega, Int.toNat_natCast]; exact HF.out.mul hmb)
            rw [show ((0 : Nat) : Int) + (m : Int) * (b : Int) = ((m * b : Nat) : Int) by rw [← Int.natCast_mul]; omega, Int.toNat_natCast] at hjn
            have HJ := Lib.hid hjn
            clear hjn hmb hm
            by_cases htm : t < m * b
            · have hdt : decide (t < m * b) = true := decide_eq_true htm
              obtain ⟨k1, k2', k3⟩ := PB.out.1 htm
              have K2 := Lib.hid k2'; have HDT := Lib.hid hdt
              clear hdt htm k2'
              go_wp2_with (first
                | (go_at_call 166; refine HJ.out.mono ?_; rintro e w5 ⟨vj, rfl, e5, mj⟩; obtain ⟨ja, jn, jc, rfl⟩ := mj.slice)
                | (go_at_call 167; refine (less_c t (m * b) _ _ _ ((HMT.out.ext hxw).ext e5) mj).mono ?_; rw [HDT.out]; rintro e w6 ⟨rfl, e6⟩))
              go_roundw
              case rel => exact ⟨l, m - 1, rfl, by go_num, by omega, by omega, Lib.hid ⟨hbs.out.1, K2.out⟩, (hxw.trans e5).trans e6⟩
              case measure => simp [intOf]; omega
            · have hdt : decide (t < m * b) = false := decide_eq_false htm
              obtain ⟨k1, k2', k3⟩ := PB.out.2 htm
              have K1 := Lib.hid k1; have HDT := Lib.hid hdt
              clear hdt htm k1
              go_wp2_with (first
                | (go_at_call 166; refine HJ.out.mono ?_; rintro e w5 ⟨vj, rfl, e5, mj⟩; obtain ⟨ja, jn, jc, rfl⟩ := mj.slice)
                | (go_at_call 167; refine (less_c t (m * b) _ _ _ ((HMT.out.ext hxw).ext e5) mj).mono ?_; rw [HDT.out]; rintro e w6 ⟨rfl, e6⟩))
              go_roundw
              case rel => exact ⟨m, h, rfl, rfl, by omega, by omega, Lib.hid ⟨K1.out, hbs.out.2⟩, (hxw.trans e5).trans e6⟩
              case measure => simp [intOf]; omega
          · obtain rfl : l = h := by omega
            obtain ⟨hq, hrr⟩ := quot_of hbs.out.1 hbs.out.2
            have hO3 := HO2.out.ext hxw
            have hcello := hO3.cell i hin
            have hfree := hO3.free i
            have HSET := Lib.hid (hO3.set i l)
            have HMS := Lib.hid ((HMT.out.ext hxw).apart (g := w.heap.size) (i := i) (Nat.ne_of_lt hg) (.int .i64 (l : Int)))
            have HBS := Lib.hid (HB.out.setNew (W := wr) (g := w.heap.size) (i := i) hO3.2.2 (Nat.le_refl _) (.int .i64 (l : Int)))
            have hjn := joined_c t b (-(l : Int)) _ _ _ HMS.out HBS.out (by omega) (by omega) (by rw [hrr]; omega) HRF.out HF.out.r (by rw [hrr, Int.toNat_natCast]; exact HRF.out.mono (Nat.mod_le _ _))
            rw [hrr, Int.toNat_natCast] at hjn
            have HJ := Lib.hid hjn; have HQ := Lib.hid hq
            clear hjn hq hrr hO3
            go_wp2_with (go_at_call 166; refine HJ.out.mono ?_; rintro e w5 ⟨vj, rfl, e5, mj⟩; obtain ⟨ja, jn, jc, rfl⟩ := mj.slice)
            go_roundw
            case rel => exact ⟨i, t % b, qs.set i l, by omega, by go_num, HSET.out.ext e5, mj, Lib.hid (by have := HST.out; rw [HQ.out] at this; exact this)⟩
            case measure => simp [intOf]
      · have hrl0 : 0 < rl := by omega
        obtain ⟨bR, oR, rfl, hnR, hnews⟩ := joined_src (HRH.out.ext ((Ext.refl wr).alloc (.cells #[.int .i64 (x : Int)] 3))) hrl0
        have hown1 := World.ownsRow_lit (base := wr.heap.size) (e := 3) (size := 1) wr #[.int .i64 (x : Int)] 1 (Nat.le_refl _) (by unfold maxLen; omega) rfl
        have HW := Lib.hid hnews; have HO1 := Lib.hid hown1; have HRL := Lib.hid hRl
        have hrl5 : rl ≤ 5000 := by omega
        clear hnews hown1 hRl hnR hr0
        go_upto_region 7 with (first
          | (at_builtin; refine wpList_append_own (wr.alloc (.cells #[.int .i64 (x : Int)] 3)) rfl _ _ 165 rfl wr.heap.size 3 i0 (.int .i64 0) 1 8 Tryz.underlying165 hi hz0 hz1 hz2 rfl (by decide) _ 1 _ rfl HO1.out ⟨bR, oR, none⟩ rl rc (R.map fun (x : Nat) => Value.int .i64 x) rfl (by rw [List.length_map, ← HRL.out]; simp) HW.out (by intro u hu; obtain ⟨x, _, rfl⟩ := List.mem_map.1 hu; rfl) (by unfold maxLen; omega) (by omega) (by simp) ?_; intro v1 W1 hown2 hgrow2 hv2; have ex : Ext wr W1 := (((Ext.refl wr).alloc _).grown hgrow2 (fun g hg => own_base HO1.out g hg)); have HA1 := Lib.hid (ahead_more HRL.out.symm hsz hown2); clear hown2 hgrow2 hv2)
          | (go_at_call 172; refine (cut_k _ _ _ HA1.out.out.choose_spec.choose_spec.2.2 (by intro z hz; rcases List.mem_cons.1 hz with rfl | hz; (exact hxlt); exact HRC.out.lt z hz)).mono ?_; rintro e w' ⟨v2, rfl, rfl, hm2, ad2, n2, k2, cap2, e1, rfl⟩))
        obtain ⟨g, c, e2, hg, _⟩ := HA1.out.out
        rw [e1] at e2
        simp only [Value.slice.injEq] at e2
        obtain ⟨rfl, rfl, rfl⟩ := e2
        clear e1
        have hmt : RMag W1 (.slice (some ⟨g, 0, none⟩) k2 cap2) t := by
          have : mv 10000 (x :: R) = t := by
            rw [HT.out]; show x + 10000 * mv 10000 R = _; rw [HRV.out]; omega
          rw [← this]; exact hm2
        have HMT := Lib.hid hmt; have HO2 := Lib.hid (HOWN.out.ext ex); have HBW := Lib.hid ((HB.out.ext HOWN.out.2.2).ext ex)
        clear hm2 hmt ex
        go_wp2
        go_loopw [9, 10] (fun lo hh W => ∃ (l h : Nat), lo = .int .i64 l ∧ hh = .int .i64 h ∧ l ≤ h ∧ h ≤ 9999 ∧ Hid (l * b ≤ t ∧ t < (h + 1) * b) ∧ Ext W1 W) (fun lo hh _ => (intOf hh).toNat - (intOf lo).toNat)
        case atStart => exact ⟨0, 9999, rfl, rfl, by omega, by omega, Lib.hid ⟨by omega, by have := HTB.out; omega⟩, Ext.refl _⟩
        case round =>
          obtain ⟨l, h, rfl, rfl, hlh, hh9, hbs, hxw⟩ := hrel
          by_cases hlt : l < h
          · obtain ⟨m, hm⟩ : ∃ m, m = (l + h + 1) / 2 := ⟨_, rfl⟩
            have hmi : ((l : Int) + (h : Int) + 1) / 2 = (m : Int) := by omega
            have hm9 : m ≤ 9999 := by omega
            have hm1 : 1 ≤ m := by omega
            have PB := Lib.hid (parts_bounds (b := b) (t := t) hm hlt)
            have hmb : m * b ≤ b * 10000 := by rw [Nat.mul_comm]; exact Nat.mul_le_mul_left _ (by omega)
            have hjn := joined_c 0 b (m : Int) (.slice none 0 0) (.slice bd bn bc) wr (RMag.zero _) (HBW.out.ext hxw) (by omega) (by omega) (by rw [← Int.natCast_mul]; omega) ⟨Nat.pow_pos (by decide)⟩ HF.out.r (by rw [show ((0 : Nat) : Int) + (m : Int) * (b : Int) = ((m * b : Nat) : Int) by rw [← Int.natCast_mul]; omega, Int.toNat_natCast]; exact HF.out.mul hmb)
            rw [show ((0 : Nat) : Int) + (m : Int) * (b : Int) = ((m * b : Nat) : Int) by rw [← Int.natCast_mul]; omega, Int.toNat_natCast] at hjn
            have HJ := Lib.hid hjn
            clear hjn hmb hm
            by_cases htm : t < m * b
            · have hdt : decide (t < m * b) = true := decide_eq_true htm
              obtain ⟨k1, k2', k3⟩ := PB.out.1 htm
              have K2 := Lib.hid k2'; have HDT := Lib.hid hdt
              clear hdt htm k2'
              go_wp2_with (first
                | (go_at_call 166; refine HJ.out.mono ?_; rintro e w5 ⟨vj, rfl, e5, mj⟩; obtain ⟨ja, jn, jc, rfl⟩ := mj.slice)
                | (go_at_call 167; refine (less_c t (m * b) _ _ _ ((HMT.out.ext hxw).ext e5) mj).mono ?_; rw [HDT.out]; rintro e w6 ⟨rfl, e6⟩))
              go_roundw
              case rel => exact ⟨l, m - 1, rfl, by go_num, by omega, by omega, Lib.hid ⟨hbs.out.1, K2.out⟩, (hxw.trans e5).trans e6⟩
              case measure => simp [intOf]; omega
            · have hdt : decide (t < m * b) = false := decide_eq_false htm
              obtain ⟨k1, k2', k3⟩ := PB.out.2 htm
              have K1 := Lib.hid k1; have HDT := Lib.hid hdt
              clear hdt htm k1
              go_wp2_with (first
                | (go_at_call 166; refine HJ.out.mono ?_; rintro e w5 ⟨vj, rfl, e5, mj⟩; obtain ⟨ja, jn, jc, rfl⟩ := mj.slice)
                | (go_at_call 167; refine (less_c t (m * b) _ _ _ ((HMT.out.ext hxw).ext e5) mj).mono ?_; rw [HDT.out]; rintro e w6 ⟨rfl, e6⟩))
              go_roundw
              case rel => exact ⟨m, h, rfl, rfl, by omega, by omega, Lib.hid ⟨K1.out, hbs.out.2⟩, (hxw.trans e5).trans e6⟩
              case measure => simp [intOf]; omega
          · obtain rfl : l = h := by omega
            obtain ⟨hq, hrr⟩ := quot_of hbs.out.1 hbs.out.2
            have hO3 := HO2.out.ext hxw
            have hcello := hO3.cell i hin
            have hfree := hO3.free i
            have HSET := Lib.hid (hO3.set i l)
            have HMS := Lib.hid ((HMT.out.ext hxw).apart (g := w.heap.size) (i := i) (Nat.ne_of_lt hg) (.int .i64 (l : Int)))
            have HBS := Lib.hid (HB.out.setNew (W := wr) (g := w.heap.size) (i := i) hO3.2.2 (Nat.le_refl _) (.int .i64 (l : Int)))
            have hjn := joined_c t b (-(l : Int)) _ _ _ HMS.out HBS.out (by omega) (by omega) (by rw [hrr]; omega) HRF.out HF.out.r (by rw [hrr, Int.toNat_natCast]; exact HRF.out.mono (Nat.mod_le _ _))
            rw [hrr, Int.toNat_natCast] at hjn
            have HJ := Lib.hid hjn; have HQ := Lib.hid hq
            clear hjn hq hrr hO3
            go_wp2_with (go_at_call 166; refine HJ.out.mono ?_; rintro e w5 ⟨vj, rfl, e5, mj⟩; obtain ⟨ja, jn, jc, rfl⟩ := mj.slice)
            go_roundw
            case rel => exact ⟨i, t % b, qs.set i l, by omega, by go_num, HSET.out.ext e5, mj, Lib.hid (by have := HST.out; rw [HQ.out] at this; exact this)⟩
            case measure => simp [intOf]
    · obtain rfl : j = 0 := by omega
      obtain ⟨eq, er⟩ := hinv.out.done
      have HH := Lib.hid (Holds.of_owns HOWN.out.2.1)
      have HEQ := Lib.hid eq; have HER := Lib.hid er
      clear eq er hown hrest
      go_wp2_with (go_at_call 172; refine (cut_k qs _ _ HH.out hinv.out.lt).mono ?_; rintro e w' ⟨v', rfl, rfl, hm, ad2, n2, k2, cap2, _, rfl⟩)
      go_ret2
      exact ⟨_, _, rfl, HOWN.out.2.2, by rw [HEQ.out] at hm; exact hm, by rw [← HER.out]; exact HR.out⟩
end Go.Proofs.YtglppcmegocphaaGreatDoor

namespace Go.Proofs.YtglppcmegocphaaGreatDoor
open Go Go.RowKit
theorem IB.dec_len {k : Nat} {a : Int} (h : IB k a) (hk : k ≤ 9000) : (Lib.decDigits a.natAbs).length ≤ 9001 := by
  have := dec_len_le (u := a.natAbs) (k := k + 1) (by omega) (Nat.lt_of_lt_of_le h.out (Nat.pow_le_pow_right (by decide) (by omega)))
  omega

theorem natAbs_size (n : Int) : (zs (n.natAbs : Int)).size = (Lib.decDigits n.natAbs).length := zs_nat_size _

set_option maxRecDepth 100000 in
set_option maxHeartbeats 1000000 in
/-- Mul. -/
theorem fmul_c (a b : Int) {k m : Nat} (w : World) (g : Gd w) (ha : IB k a) (hb : IB m b) (hk : k ≤ 9000) (hm : m ≤ 9000) : Calls Tryz.prog 102 #[.string (zs a), .string (zs b)] w (Ret w (.string (zs (a * b)))) := by
  have s1 := natAbs_size a; have s2 := natAbs_size b
  have s3 : (Lib.decDigits a.natAbs).length ≤ 9001 := ha.dec_len hk
  have s4 : (Lib.decDigits b.natAbs).length ≤ 9001 := hb.dec_len hm
  have p1 := dec_len_pos a.natAbs; have p2 := dec_len_pos b.natAbs
  by_cases h : (Lib.decDigits a.natAbs).length + (Lib.decDigits b.natAbs).length ≤ 18
  · have h18 : ((zs (a.natAbs : Int)).size : Int) + ((zs (b.natAbs : Int)).size : Int) ≤ 18 := by omega
    have b1 : a.natAbs < 10 ^ (Lib.decDigits a.natAbs).length := dec_lt_pow _
    have b2 : b.natAbs < 10 ^ (Lib.decDigits b.natAbs).length := dec_lt_pow _
    have b3 : (a * b).natAbs < 1000000000000000000 := by
      rw [Int.natAbs_mul]
      have := Nat.mul_lt_mul'' b1 b2
      rw [← Nat.pow_add] at this
      exact Nat.lt_of_lt_of_le this (Nat.pow_le_pow_right (n := 10) (by decide) h)
    have A1 : Hid (a.natAbs < 1000000000000000000) := Lib.hid (Nat.lt_of_lt_of_le b1 (show _ ≤ 10 ^ 18 from Nat.pow_le_pow_right (by decide) (by omega)))
    have B1 : Hid (b.natAbs < 1000000000000000000) := Lib.hid (Nat.lt_of_lt_of_le b2 (show _ ≤ 10 ^ 18 from Nat.pow_le_pow_right (by decide) (by omega)))
    have c1 : -1000000000000000000 ≤ a * b := by omega
    have c2 : a * b ≤ 1000000000000000000 := by omega
    clear s1 s2 s3 s4 p1 p2 h b1 b2 b3 ha hb
    go_enter Tryz.func102, Tryz.ntmps102
    go_wp2_with (first
      | (go_at_call 140; ((with_reducible refine (split_c a w).mono ?_); rintro e w1 ⟨rfl, e1⟩))
      | (go_at_call 140; refine (split_c b _).mono ?_; rintro e w2 ⟨rfl, e2⟩)
      | (go_at_call 141; ((with_reducible refine (fsmall_c a w2 A1.out).mono ?_); rintro e w3 ⟨rfl, e3⟩))
      | (go_at_call 141; refine (fsmall_c b _ B1.out).mono ?_; rintro e w4 ⟨rfl, e4⟩; have e14 := ((e1.trans e2).trans e3).trans e4)
      | (go_at_call 82; refine (fof_c (a * b) (by omega) (by omega) _ (g.ext e14)).mono ?_; rintro e w5 ⟨rfl, e5⟩))
    go_ret
    exact ⟨rfl, e14.trans e5⟩
  · have h18 : ¬ ((zs (a.natAbs : Int)).size : Int) + ((zs (b.natAbs : Int)).size : Int) ≤ 18 := by omega
    have S1 : ((zs (a.natAbs : Int)).size : Int) ≤ 9001 := by omega
    have S2 : ((zs (b.natAbs : Int)).size : Int) ≤ 9001 := by omega
    have L1 : Hid ((Lib.decDigits a.natAbs).length ≤ 20000) := Lib.hid (by omega)
    have L2 : Hid ((Lib.decDigits b.natAbs).length ≤ 20000) := Lib.hid (by omega)
    have FA := Lib.hid (ha.rfit (by omega)); have FB := Lib.hid (hb.rfit (by omega))
    have FC : Hid (RFit (a.natAbs * b.natAbs)) := Lib.hid (by rw [← Int.natAbs_mul]; exact (ha.mul hb).rfit (by omega))
    have HS := Lib.hid (sgn_ne a b)
    clear s1 s2 s3 s4 p1 p2 h ha hb
    go_enter Tryz.func102, Tryz.ntmps102
    go_wp2_with (first
      | (go_at_call 140; ((with_reducible refine (split_c a w).mono ?_); rintro e w1 ⟨rfl, e1⟩))
      | (go_at_call 140; refine (split_c b _).mono ?_; rintro e w2 ⟨rfl, e2⟩)
      | (go_at_call 144; ((with_reducible refine (take_c a.natAbs w2 L1.out).mono ?_); rintro e w3 ⟨va, rfl, e3, ma⟩; obtain ⟨aa, an, ac, rfl⟩ := ma.slice))
      | (go_at_call 144; refine (take_c b.natAbs _ L2.out).mono ?_; rintro e w4 ⟨vb, rfl, e4, mb⟩; obtain ⟨ba, bn, bc, rfl⟩ := mb.slice; have e14 := ((e1.trans e2).trans e3).trans e4)
      | (go_at_call 143; refine (rtimes_c a.natAbs b.natAbs _ _ _ (ma.ext e4) mb FA.out FB.out FC.out).mono ?_; rintro e w5 ⟨vc, rfl, e5, mc⟩; obtain ⟨ca, cn, cc, rfl⟩ := mc.slice)
      | (go_at_call 142; refine (made_c _ (a.natAbs * b.natAbs) _ _ mc FC.out (g.ext (e14.trans e5))).mono ?_; rintro e w6 ⟨rfl, e6⟩))
    go_ret
    exact ⟨ret_str HS.out, (e14.trans e5).trans e6⟩

theorem joined_plus (a b : Nat) : ((a : Int) + 1 * (b : Int)).toNat = a + b := by omega
theorem joined_minus {a b : Nat} (h : b ≤ a) : ((a : Int) + -1 * (b : Int)).toNat = a - b := by omega

set_option maxRecDepth 100000 in
set_option maxHeartbeats 1000000 in
theorem fadd_small (a b : Int) (w : World) (g : Gd w) (ha : (Lib.decDigits a.natAbs).length ≤ 17) (hb : (Lib.decDigits b.natAbs).length ≤ 17) : Calls Tryz.prog 125 #[.string (zs a), .string (zs b)] w (Ret w (.string (zs (a + b)))) := by
  have h1 := lt_of_dec_len ha
  have h2 := lt_of_dec_len hb
  have b1 : -9223372036854775808 ≤ a + b := by omega
  have b2 : a + b ≤ 9223372036854775807 := by omega
  have HA := Lib.hid ha; have HB := Lib.hid hb
  clear h1 h2 ha hb
  go_enter Tryz.func125, Tryz.ntmps125
  go_wp2_with (first
    | (go_at_call 165; ((with_reducible refine (brief_yes a w HA.out).mono ?_); rintro e w1 ⟨rfl, e1⟩))
    | (go_at_call 165; refine (brief_yes b _ HB.out).mono ?_; rintro e w2 ⟨rfl, e2⟩)
    | (go_at_call 82; refine (fof_c (a + b) b1 b2 _ (g.ext (e1.trans e2))).mono ?_; rintro e w3 ⟨rfl, e3⟩))
  go_ret
  exact ⟨rfl, (e1.trans e2).trans e3⟩

set_option maxRecDepth 100000 in
set_option maxHeartbeats 2000000 in
theorem fadd_big (a b : Int) {k m : Nat} (w : World) (g : Gd w) (ha : IB k a) (hb : IB m b) (hk : k ≤ 9000) (hm : m ≤ 9000) (h : ¬ ((Lib.decDigits a.natAbs).length ≤ 17 ∧ (Lib.decDigits b.natAbs).length ≤ 17)) : Calls Tryz.prog 125 #[.string (zs a), .string (zs b)] w (Ret w (.string (zs (a + b)))) := by
  have s3 : (Lib.decDigits a.natAbs).length ≤ 9001 := ha.dec_len hk
  have s4 : (Lib.decDigits b.natAbs).length ≤ 9001 := hb.dec_len hm
  have L1 : Hid ((Lib.decDigits a.natAbs).length ≤ 20000) := Lib.hid (by omega)
  have L2 : Hid ((Lib.decDigits b.natAbs).length ≤ 20000) := Lib.hid (by omega)
  have FA := Lib.hid (ha.rfit (by omega)); have FB := Lib.hid (hb.rfit (by omega))
  have Fs : Hid (RFit (a.natAbs + b.natAbs)) := Lib.hid (by
    have h1 : IB (max k m + 1) ((a.natAbs : Int) + (b.natAbs : Int)) := IB.add ⟨by simpa using ha.out⟩ ⟨by simpa using hb.out⟩
    have h2 := h1.rfit (by omega)
    rwa [← Int.natCast_add, Int.natAbs_natCast] at h2)
  clear s3 s4 ha hb
  -- which sum is made
  obtain ⟨sa, hsa⟩ : ∃ sa, sa = decide (a < 0) := ⟨_, rfl⟩
  obtain ⟨sb, hsb⟩ : ∃ sb, sb = decide (b < 0) := ⟨_, rfl⟩
  have HSA := Lib.hid hsa; have HSB := Lib.hid hsb
  obtain ⟨lt, hlt⟩ : ∃ lt, lt = decide (a.natAbs < b.natAbs) := ⟨_, rfl⟩
  have HLT := Lib.hid hlt
  have key : Hid (((sa == sb) = true → sgn sa (a.natAbs + b.natAbs) = a + b) ∧ ((sa == sb) = false → lt = true → sgn sb (b.natAbs - a.natAbs) = a + b ∧ a.natAbs ≤ b.natAbs) ∧ ((sa == sb) = false → lt = false → sgn sa (a.natAbs - b.natAbs) = a + b ∧ b.natAbs ≤ a.natAbs)) := Lib.hid (by
    refine ⟨fun e => ?_, fun e e2 => ?_, fun e e2 => ?_⟩
    · rw [hsa]; exact sgn_same (by rw [← hsa, ← hsb]; simpa using e)
    · have hl : a.natAbs < b.natAbs := of_decide_eq_true (hlt ▸ e2)
      refine ⟨?_, Nat.le_of_lt hl⟩
      rw [hsb, Int.add_comm]; exact sgn_diff (by rw [← hsa, ← hsb]; intro e3; rw [e3] at e; simp at e) (Nat.le_of_lt hl)
    · have hl : ¬ a.natAbs < b.natAbs := of_decide_eq_false (hlt ▸ e2)
      refine ⟨?_, by omega⟩
      rw [hsa]; exact sgn_diff (by rw [← hsa, ← hsb]; intro e3; rw [e3] at e; simp at e) (by omega))
  clear hsa hsb hlt
  by_cases h9 : (Lib.decDigits a.natAbs).length ≤ 17
  · have H9 := Lib.hid h9
    have H9' : Hid (¬ (Lib.decDigits b.natAbs).length ≤ 17) := Lib.hid (fun e => h ⟨h9, e⟩)
    clear h h9
    rcases Bool.eq_false_or_eq_true (sa == sb) with hs | hs
    · have KEY := Lib.hid (key.out.1 hs)
      clear key
      go_enter Tryz.func125, Tryz.ntmps125
      go_wp2_with (first
        | (go_at_call 165; ((with_reducible refine (brief_yes a w H9.out).mono ?_); rintro e w0 ⟨rfl, e0⟩))
        | (go_at_call 165; refine (brief_no b _ H9'.out).mono ?_; rintro e w1 ⟨rfl, e1⟩; have e01 := e0.trans e1)
        | (go_at_call 140; ((with_reducible refine (split_c a w1).mono ?_); rw [← HSA.out]; rintro e w2 ⟨rfl, e2⟩))
        | (go_at_call 140; refine (split_c b _).mono ?_; rw [← HSB.out]; rintro e w3 ⟨rfl, e3⟩)
        | (go_at_call 144; ((with_reducible refine (take_c a.natAbs w3 L1.out).mono ?_); rintro e w4 ⟨va, rfl, e4, ma⟩; obtain ⟨aa, an, ac, rfl⟩ := ma.slice))
        | (go_at_call 144; refine (take_c b.natAbs _ L2.out).mono ?_; rintro e w5 ⟨vb, rfl, e5, mb⟩; obtain ⟨ba, bn, bc, rfl⟩ := mb.slice; have e15 := (((e01.trans e2).trans e3).trans e4).trans e5)
        | (go_at_call 166; refine (joined_c a.natAbs b.natAbs 1 _ _ _ (ma.ext e5) mb (by omega) (by omega) (by omega) FA.out FB.out (by rw [joined_plus]; exact Fs.out)).mono ?_; rw [joined_plus]; rintro e w7 ⟨vc, rfl, e7, mc⟩; obtain ⟨ca, cn, cc, rfl⟩ := mc.slice; have e17 := e15.trans e7)
        | (go_at_call 142; refine (made_c _ (a.natAbs + b.natAbs) _ _ mc Fs.out (g.ext e17)).mono ?_; rintro e w8 ⟨rfl, e8⟩))
      go_ret
      exact ⟨ret_str KEY.out, e17.trans e8⟩
    · cases lt
      · have KEY := Lib.hid (key.out.2.2 hs rfl)
        clear key
        go_enter Tryz.func125, Tryz.ntmps125
        go_wp2_with (first
          | (go_at_call 165; ((with_reducible refine (brief_yes a w H9.out).mono ?_); rintro e w0 ⟨rfl, e0⟩))
          | (go_at_call 165; refine (brief_no b _ H9'.out).mono ?_; rintro e w1 ⟨rfl, e1⟩; have e01 := e0.trans e1)
          | (go_at_call 140; ((with_reducible refine (split_c a w1).mono ?_); rw [← HSA.out]; rintro e w2 ⟨rfl, e2⟩))
          | (go_at_call 140; refine (split_c b _).mono ?_; rw [← HSB.out]; rintro e w3 ⟨rfl, e3⟩)
          | (go_at_call 144; ((with_reducible refine (take_c a.natAbs w3 L1.out).mono ?_); rintro e w4 ⟨va, rfl, e4, ma⟩; obtain ⟨aa, an, ac, rfl⟩ := ma.slice))
          | (go_at_call 144; refine (take_c b.natAbs _ L2.out).mono ?_; rintro e w5 ⟨vb, rfl, e5, mb⟩; obtain ⟨ba, bn, bc, rfl⟩ := mb.slice; have e15 := (((e01.trans e2).trans e3).trans e4).trans e5)
          | (go_at_call 167; refine (less_c a.natAbs b.natAbs _ _ _ (ma.ext e5) mb).mono ?_; rw [← HLT.out]; rintro e w6 ⟨rfl, e6⟩)
          | (go_at_call 166; refine (joined_c a.natAbs b.natAbs (-1) _ _ _ ((ma.ext e5).ext e6) (mb.ext e6) (by omega) (by omega) (by have := KEY.out.2; omega) FA.out FB.out (by rw [joined_minus KEY.out.2]; exact FA.out.mono (Nat.sub_le _ _))).mono ?_; rw [joined_minus KEY.out.2]; rintro e w7 ⟨vc, rfl, e7, mc⟩; obtain ⟨ca, cn, cc, rfl⟩ := mc.slice; have e17 := (e15.trans e6).trans e7)
          | (go_at_call 142; refine (made_c _ (a.natAbs - b.natAbs) _ _ mc (FA.out.mono (Nat.sub_le _ _)) (g.ext e17)).mono ?_; rintro e w8 ⟨rfl, e8⟩))
        go_ret
        exact ⟨ret_str KEY.out.1, e17.trans e8⟩
      · have KEY := Lib.hid (key.out.2.1 hs rfl)
        clear key
        go_enter Tryz.func125, Tryz.ntmps125
        go_wp2_with (first
          | (go_at_call 165; ((with_reducible refine (brief_yes a w H9.out).mono ?_); rintro e w0 ⟨rfl, e0⟩))
          | (go_at_call 165; refine (brief_no b _ H9'.out).mono ?_; rintro e w1 ⟨rfl, e1⟩; have e01 := e0.trans e1)
          | (go_at_call 140; ((with_reducible refine (split_c a w1).mono ?_); rw [← HSA.out]; rintro e w2 ⟨rfl, e2⟩))
          | (go_at_call 140; refine (split_c b _).mono ?_; rw [← HSB.out]; rintro e w3 ⟨rfl, e3⟩)
          | (go_at_call 144; ((with_reducible refine (take_c a.natAbs w3 L1.out).mono ?_); rintro e w4 ⟨va, rfl, e4, ma⟩; obtain ⟨aa, an, ac, rfl⟩ := ma.slice))
          | (go_at_call 144; refine (take_c b.natAbs _ L2.out).mono ?_; rintro e w5 ⟨vb, rfl, e5, mb⟩; obtain ⟨ba, bn, bc, rfl⟩ := mb.slice; have e15 := (((e01.trans e2).trans e3).trans e4).trans e5)
          | (go_at_call 167; refine (less_c a.natAbs b.natAbs _ _ _ (ma.ext e5) mb).mono ?_; rw [← HLT.out]; rintro e w6 ⟨rfl, e6⟩)
          | (go_at_call 166; refine (joined_c b.natAbs a.natAbs (-1) _ _ _ (mb.ext e6) ((ma.ext e5).ext e6) (by omega) (by omega) (by have := KEY.out.2; omega) FB.out FA.out (by rw [joined_minus KEY.out.2]; exact FB.out.mono (Nat.sub_le _ _))).mono ?_; rw [joined_minus KEY.out.2]; rintro e w7 ⟨vc, rfl, e7, mc⟩; obtain ⟨ca, cn, cc, rfl⟩ := mc.slice; have e17 := (e15.trans e6).trans e7)
          | (go_at_call 142; refine (made_c _ (b.natAbs - a.natAbs) _ _ mc (FB.out.mono (Nat.sub_le _ _)) (g.ext e17)).mono ?_; rintro e w8 ⟨rfl, e8⟩))
        go_ret
        exact ⟨ret_str KEY.out.1, e17.trans e8⟩
  · have H9 := Lib.hid h9
    clear h h9
    by_cases h8 : (Lib.decDigits b.natAbs).length ≤ 17
    · have H9' := Lib.hid h8
      clear h8
      rcases Bool.eq_false_or_eq_true (sa == sb) with hs | hs
      · have KEY := Lib.hid (key.out.1 hs)
        clear key
        go_enter Tryz.func125, Tryz.ntmps125
        go_wp2_with (first
          | (go_at_call 165; ((with_reducible refine (brief_no a w H9.out).mono ?_); rintro e w0 ⟨rfl, e0⟩))
          | (go_at_call 165; first | (refine (brief_yes b _ H9'.out).mono ?_; rintro e w1 ⟨rfl, e1⟩; have e01 := e0.trans e1) | (refine (brief_no b _ H9'.out).mono ?_; rintro e w1 ⟨rfl, e1⟩; have e01 := e0.trans e1))
          | (go_at_call 140; ((with_reducible refine (split_c a w1).mono ?_); rw [← HSA.out]; rintro e w2 ⟨rfl, e2⟩))
          | (go_at_call 140; refine (split_c b _).mono ?_; rw [← HSB.out]; rintro e w3 ⟨rfl, e3⟩)
          | (go_at_call 144; ((with_reducible refine (take_c a.natAbs w3 L1.out).mono ?_); rintro e w4 ⟨va, rfl, e4, ma⟩; obtain ⟨aa, an, ac, rfl⟩ := ma.slice))
          | (go_at_call 144; refine (take_c b.natAbs _ L2.out).mono ?_; rintro e w5 ⟨vb, rfl, e5, mb⟩; obtain ⟨ba, bn, bc, rfl⟩ := mb.slice; have e15 := (((e01.trans e2).trans e3).trans e4).trans e5)
          | (go_at_call 166; refine (joined_c a.natAbs b.natAbs 1 _ _ _ (ma.ext e5) mb (by omega) (by omega) (by omega) FA.out FB.out (by rw [joined_plus]; exact Fs.out)).mono ?_; rw [joined_plus]; rintro e w7 ⟨vc, rfl, e7, mc⟩; obtain ⟨ca, cn, cc, rfl⟩ := mc.slice; have e17 := e15.trans e7)
          | (go_at_call 142; refine (made_c _ (a.natAbs + b.natAbs) _ _ mc Fs.out (g.ext e17)).mono ?_; rintro e w8 ⟨rfl, e8⟩))
        go_ret
        exact ⟨ret_str KEY.out, e17.trans e8⟩
      · cases lt
        · have KEY := Lib.hid (key.out.2.2 hs rfl)
          clear key
          go_enter Tryz.func125, Tryz.ntmps125
          go_wp2_with (first
            | (go_at_call 165; ((with_reducible refine (brief_no a w H9.out).mono ?_); rintro e w0 ⟨rfl, e0⟩))
            | (go_at_call 165; first | (refine (brief_yes b _ H9'.out).mono ?_; rintro e w1 ⟨rfl, e1⟩; have e01 := e0.trans e1) | (refine (brief_no b _ H9'.out).mono ?_; rintro e w1 ⟨rfl, e1⟩; have e01 := e0.trans e1))
            | (go_at_call 140; ((with_reducible refine (split_c a w1).mono ?_); rw [← HSA.out]; rintro e w2 ⟨rfl, e2⟩))
            | (go_at_call 140; refine (split_c b _).mono ?_; rw [← HSB.out]; rintro e w3 ⟨rfl, e3⟩)
            | (go_at_call 144; ((with_reducible refine (take_c a.natAbs w3 L1.out).mono ?_); rintro e w4 ⟨va, rfl, e4, ma⟩; obtain ⟨aa, an, ac, rfl⟩ := ma.slice))
            | (go_at_call 144; refine (take_c b.natAbs _ L2.out).mono ?_; rintro e w5 ⟨vb, rfl, e5, mb⟩; obtain ⟨ba, bn, bc, rfl⟩ := mb.slice; have e15 := (((e01.trans e2).trans e3).trans e4).trans e5)
            | (go_at_call 167; refine (less_c a.natAbs b.natAbs _ _ _ (ma.ext e5) mb).mono ?_; rw [← HLT.out]; rintro e w6 ⟨rfl, e6⟩)
            | (go_at_call 166; refine (joined_c a.natAbs b.natAbs (-1) _ _ _ ((ma.ext e5).ext e6) (mb.ext e6) (by omega) (by omega) (by have := KEY.out.2; omega) FA.out FB.out (by rw [joined_minus KEY.out.2]; exact FA.out.mono (Nat.sub_le _ _))).mono ?_; rw [joined_minus KEY.out.2]; rintro e w7 ⟨vc, rfl, e7, mc⟩; obtain ⟨ca, cn, cc, rfl⟩ := mc.slice; have e17 := (e15.trans e6).trans e7)
            | (go_at_call 142; refine (made_c _ (a.natAbs - b.natAbs) _ _ mc (FA.out.mono (Nat.sub_le _ _)) (g.ext e17)).mono ?_; rintro e w8 ⟨rfl, e8⟩))
          go_ret
          exact ⟨ret_str KEY.out.1, e17.trans e8⟩
        · have KEY := Lib.hid (key.out.2.1 hs rfl)
          clear key
          go_enter Tryz.func125, Tryz.ntmps125
          go_wp2_with (first
            | (go_at_call 165; ((with_reducible refine (brief_no a w H9.out).mono ?_); rintro e w0 ⟨rfl, e0⟩))
            | (go_at_call 165; first | (refine (brief_yes b _ H9'.out).mono ?_; rintro e w1 ⟨rfl, e1⟩; have e01 := e0.trans e1) | (refine (brief_no b _ H9'.out).mono ?_; rintro e w1 ⟨rfl, e1⟩; have e01 := e0.trans e1))
            | (go_at_call 140; ((with_reducible refine (split_c a w1).mono ?_); rw [← HSA.out]; rintro e w2 ⟨rfl, e2⟩))
            | (go_at_call 140; refine (split_c b _).mono ?_; rw [← HSB.out]; rintro e w3 ⟨rfl, e3⟩)
            | (go_at_call 144; ((with_reducible refine (take_c a.natAbs w3 L1.out).mono ?_); rintro e w4 ⟨va, rfl, e4, ma⟩; obtain ⟨aa, an, ac, rfl⟩ := ma.slice))
            | (go_at_call 144; refine (take_c b.natAbs _ L2.out).mono ?_; rintro e w5 ⟨vb, rfl, e5, mb⟩; obtain ⟨ba, bn, bc, rfl⟩ := mb.slice; have e15 := (((e01.trans e2).trans e3).trans e4).trans e5)
            | (go_at_call 167; refine (less_c a.natAbs b.natAbs _ _ _ (ma.ext e5) mb).mono ?_; rw [← HLT.out]; rintro e w6 ⟨rfl, e6⟩)
            | (go_at_call 166; refine (joined_c b.natAbs a.natAbs (-1) _ _ _ (mb.ext e6) ((ma.ext e5).ext e6) (by omega) (by omega) (by have := KEY.out.2; omega) FB.out FA.out (by rw [joined_minus KEY.out.2]; exact FB.out.mono (Nat.sub_le _ _))).mono ?_; rw [joined_minus KEY.out.2]; rintro e w7 ⟨vc, rfl, e7, mc⟩; obtain ⟨ca, cn, cc, rfl⟩ := mc.slice; have e17 := (e15.trans e6).trans e7)
            | (go_at_call 142; refine (made_c _ (b.natAbs - a.natAbs) _ _ mc (FB.out.mono (Nat.sub_le _ _)) (g.ext e17)).mono ?_; rintro e w8 ⟨rfl, e8⟩))
          go_ret
          exact ⟨ret_str KEY.out.1, e17.trans e8⟩
    · have H9' := Lib.hid h8
      clear h8
      rcases Bool.eq_false_or_eq_true (sa == sb) with hs | hs
      · have KEY := Lib.hid (key.out.1 hs)
        clear key
        go_enter Tryz.func125, Tryz.ntmps125
        go_wp2_with (first
          | (go_at_call 165; ((with_reducible refine (brief_no a w H9.out).mono ?_); rintro e w0 ⟨rfl, e0⟩))
          | (go_at_call 165; first | (refine (brief_yes b _ H9'.out).mono ?_; rintro e w1 ⟨rfl, e1⟩; have e01 := e0.trans e1) | (refine (brief_no b _ H9'.out).mono ?_; rintro e w1 ⟨rfl, e1⟩; have e01 := e0.trans e1))
          | (go_at_call 140; ((with_reducible refine (split_c a w1).mono ?_); rw [← HSA.out]; rintro e w2 ⟨rfl, e2⟩))
          | (go_at_call 140; refine (split_c b _).mono ?_; rw [← HSB.out]; rintro e w3 ⟨rfl, e3⟩)
          | (go_at_call 144; ((with_reducible refine (take_c a.natAbs w3 L1.out).mono ?_); rintro e w4 ⟨va, rfl, e4, ma⟩; obtain ⟨aa, an, ac, rfl⟩ := ma.slice))
          | (go_at_call 144; refine (take_c b.natAbs _ L2.out).mono ?_; rintro e w5 ⟨vb, rfl, e5, mb⟩; obtain ⟨ba, bn, bc, rfl⟩ := mb.slice; have e15 := (((e01.trans e2).trans e3).trans e4).trans e5)
          | (go_at_call 166; refine (joined_c a.natAbs b.natAbs 1 _ _ _ (ma.ext e5) mb (by omega) (by omega) (by omega) FA.out FB.out (by rw [joined_plus]; exact Fs.out)).mono ?_; rw [joined_plus]; rintro e w7 ⟨vc, rfl, e7, mc⟩; obtain ⟨ca, cn, cc, rfl⟩ := mc.slice; have e17 := e15.trans e7)
          | (go_at_call 142; refine (made_c _ (a.natAbs + b.natAbs) _ _ mc Fs.out (g.ext e17)).mono ?_; rintro e w8 ⟨rfl, e8⟩))
        go_ret
        exact ⟨ret_str KEY.out, e17.trans e8⟩
      · cases lt
        · have KEY := Lib.hid (key.out.2.2 hs rfl)
          clear key
          go_enter Tryz.func125, Tryz.ntmps125
          go_wp2_with (first
            | (go_at_call 165; ((with_reducible refine (brief_no a w H9.out).mono ?_); rintro e w0 ⟨rfl, e0⟩))
            | (go_at_call 165; first | (refine (brief_yes b _ H9'.out).mono ?_; rintro e w1 ⟨rfl, e1⟩; have e01 := e0.trans e1) | (refine (brief_no b _ H9'.out).mono ?_; rintro e w1 ⟨rfl, e1⟩; have e01 := e0.trans e1))
            | (go_at_call 140; ((with_reducible refine (split_c a w1).mono ?_); rw [← HSA.out]; rintro e w2 ⟨rfl, e2⟩))
            | (go_at_call 140; refine (split_c b _).mono ?_; rw [← HSB.out]; rintro e w3 ⟨rfl, e3⟩)
            | (go_at_call 144; ((with_reducible refine (take_c a.natAbs w3 L1.out).mono ?_); rintro e w4 ⟨va, rfl, e4, ma⟩; obtain ⟨aa, an, ac, rfl⟩ := ma.slice))
            | (go_at_call 144; refine (take_c b.natAbs _ L2.out).mono ?_; rintro e w5 ⟨vb, rfl, e5, mb⟩; obtain ⟨ba, bn, bc, rfl⟩ := mb.slice; have e15 := (((e01.trans e2).trans e3).trans e4).trans e5)
            | (go_at_call 167; refine (less_c a.natAbs b.natAbs _ _ _ (ma.ext e5) mb).mono ?_; rw [← HLT.out]; rintro e w6 ⟨rfl, e6⟩)
            | (go_at_call 166; refine (joined_c a.natAbs b.natAbs (-1) _ _ _ ((ma.ext e5).ext e6) (mb.ext e6) (by omega) (by omega) (by have := KEY.out.2; omega) FA.out FB.out (by rw [joined_minus KEY.out.2]; exact FA.out.mono (Nat.sub_le _ _))).mono ?_; rw [joined_minus KEY.out.2]; rintro e w7 ⟨vc, rfl, e7, mc⟩; obtain ⟨ca, cn, cc, rfl⟩ := mc.slice; have e17 := (e15.trans e6).trans e7)
            | (go_at_call 142; refine (made_c _ (a.natAbs - b.natAbs) _ _ mc (FA.out.mono (Nat.sub_le _ _)) (g.ext e17)).mono ?_; rintro e w8 ⟨rfl, e8⟩))
          go_ret
          exact ⟨ret_str KEY.out.1, e17.trans e8⟩
        · have KEY := Lib.hid (key.out.2.1 hs rfl)
          clear key
          go_enter Tryz.func125, Tryz.ntmps125
          go_wp2_with (first
            | (go_at_call 165; ((with_reducible refine (brief_no a w H9.out).mono ?_); rintro e w0 ⟨rfl, e0⟩))
            | (go_at_call 165; first | (refine (brief_yes b _ H9'.out).mono ?_; rintro e w1 ⟨rfl, e1⟩; have e01 := e0.trans e1) | (refine (brief_no b _ H9'.out).mono ?_; rintro e w1 ⟨rfl, e1⟩; have e01 := e0.trans e1))
            | (go_at_call 140; ((with_reducible refine (split_c a w1).mono ?_); rw [← HSA.out]; rintro e w2 ⟨rfl, e2⟩))
            | (go_at_call 140; refine (split_c b _).mono ?_; rw [← HSB.out]; rintro e w3 ⟨rfl, e3⟩)
            | (go_at_call 144; ((with_reducible refine (take_c a.natAbs w3 L1.out).mono ?_); rintro e w4 ⟨va, rfl, e4, ma⟩; obtain ⟨aa, an, ac, rfl⟩ := ma.slice))
            | (go_at_call 144; refine (take_c b.natAbs _ L2.out).mono ?_; rintro e w5 ⟨vb, rfl, e5, mb⟩; obtain ⟨ba, bn, bc, rfl⟩ := mb.slice; have e15 := (((e01.trans e2).trans e3).trans e4).trans e5)
            | (go_at_call 167; refine (less_c a.natAbs b.natAbs _ _ _ (ma.ext e5) mb).mono ?_; rw [← HLT.out]; rintro e w6 ⟨rfl, e6⟩)
            | (go_at_call 166; refine (joined_c b.natAbs a.natAbs (-1) _ _ _ (mb.ext e6) ((ma.ext e5).ext e6) (by omega) (by omega) (by have := KEY.out.2; omega) FB.out FA.out (by rw [joined_minus KEY.out.2]; exact FB.out.mono (Nat.sub_le _ _))).mono ?_; rw [joined_minus KEY.out.2]; rintro e w7 ⟨vc, rfl, e7, mc⟩; obtain ⟨ca, cn, cc, rfl⟩ := mc.slice; have e17 := (e15.trans e6).trans e7)
            | (go_at_call 142; refine (made_c _ (b.natAbs - a.natAbs) _ _ mc (FB.out.mono (Nat.sub_le _ _)) (g.ext e17)).mono ?_; rintro e w8 ⟨rfl, e8⟩))
          go_ret
          exact ⟨ret_str KEY.out.1, e17.trans e8⟩

/-- Add. -/
theorem fadd_c (a b : Int) {k m : Nat} (w : World) (g : Gd w) (ha : IB k a) (hb : IB m b) (hk : k ≤ 9000) (hm : m ≤ 9000) : Calls Tryz.prog 125 #[.string (zs a), .string (zs b)] w (Ret w (.string (zs (a + b)))) := by
  by_cases h : (Lib.decDigits a.natAbs).length ≤ 17 ∧ (Lib.decDigits b.natAbs).length ≤ 17
  · exact fadd_small a b w g h.1 h.2
  · exact fadd_big a b w g ha hb hk hm h

end Go.Proofs.YtglppcmegocphaaGreatDoor

namespace Go.Proofs.YtglppcmegocphaaGreatDoor
open Go Go.RowKit
theorem ediv_key {a b q r : Int} (hb : b ≠ 0) (e : a = b * q + r) (h0 : 0 ≤ r) (h1 : r < b.natAbs) : a / b = q ∧ a % b = r := by
  rcases Int.lt_or_lt_of_ne hb with hb' | hb'
  · exact (Int.ediv_emod_unique' (a := a) (b := b) (r := r) (q := q) hb').2 ⟨by rw [e, Int.add_comm], h0, by omega⟩
  · exact (Int.ediv_emod_unique (a := a) (b := b) (r := r) (q := q) hb').2 ⟨by rw [e, Int.add_comm], h0, by omega⟩

theorem trem_cases (a b : Int) (hb : b ≠ 0) : (0 ≤ a.tmod b ∧ a.tdiv b = a / b ∧ a.tmod b = a % b) ∨ (a.tmod b < 0 ∧ a.tmod b + max b (-b) = a % b ∧ (a - (a.tmod b + max b (-b))).tdiv b = a / b) := by
  have h := Int.mul_tdiv_add_tmod a b
  have hl : (a.tmod b).natAbs < b.natAbs := by rw [Int.natAbs_tmod]; exact Nat.mod_lt _ (by omega)
  rcases Int.lt_or_le (a.tmod b) 0 with hn | hn
  · refine Or.inr ⟨hn, ?_⟩
    rcases Int.lt_or_lt_of_ne hb with hb' | hb'
    · have hm : max b (-b) = -b := by omega
      rw [hm]
      obtain ⟨e1, e2⟩ := ediv_key (a := a) (b := b) (q := a.tdiv b + 1) (r := a.tmod b + -b) hb (by rw [Int.mul_add, Int.mul_one]; omega) (by omega) (by omega)
      refine ⟨e2.symm, ?_⟩
      rw [e1, show a - (a.tmod b + -b) = b * (a.tdiv b + 1) by rw [Int.mul_add, Int.mul_one]; omega, Int.mul_tdiv_cancel_left _ hb]
    · have hm : max b (-b) = b := by omega
      rw [hm]
      obtain ⟨e1, e2⟩ := ediv_key (a := a) (b := b) (q := a.tdiv b - 1) (r := a.tmod b + b) hb (by rw [Int.mul_sub, Int.mul_one]; omega) (by omega) (by omega)
      refine ⟨e2.symm, ?_⟩
      rw [e1, show a - (a.tmod b + b) = b * (a.tdiv b - 1) by rw [Int.mul_sub, Int.mul_one]; omega, Int.mul_tdiv_cancel_left _ hb]
  · obtain ⟨e1, e2⟩ := ediv_key (a := a) (b := b) (q := a.tdiv b) (r := a.tmod b) hb (by omega) hn (by omega)
    exact Or.inl ⟨hn, e1.symm, e2.symm⟩

theorem zs_nis0 {n : Int} (h : n = 0) : ((zs n).toList != [48]) = false := by rw [zs_toList, zl_eq0.2 h]; rfl
theorem zs_nnot0 {n : Int} (h : n ≠ 0) : ((zs n).toList != [48]) = true := by rw [zs_toList]; simpa using fun e => h (zl_eq0.1 e)

theorem ret_qr2 {a b c d : Int} (h : a = b) (k : c = d) : Ending.returned (.tuple #[.string (zs a), .string (zs c)]) = .returned (.tuple #[.string (zs b), .string (zs d)]) := by rw [h, k]

set_option maxRecDepth 100000 in
set_option maxHeartbeats 1000000 in
theorem fdivmod_small (a b : Int) (w : World) (g : Gd w) (ha : (Lib.decDigits a.natAbs).length ≤ 17) (hb : (Lib.decDigits b.natAbs).length ≤ 17) (hb0 : b ≠ 0) : Calls Tryz.prog 129 #[.string (zs a), .string (zs b)] w (Ret w (.tuple #[.string (zs (a / b)), .string (zs (a % b))])) := by
  have h1 : a.natAbs < 100000000000000000 := lt_of_dec_len ha
  have h2 : b.natAbs < 100000000000000000 := lt_of_dec_len hb
  have HA := Lib.hid ha; have HB := Lib.hid hb
  have hcs := trem_cases a b hb0
  have q1 : (a.tdiv b).natAbs ≤ 100000000000000000 := by rw [Int.natAbs_tdiv]; exact Nat.le_trans (Nat.div_le_self _ _) (Nat.le_of_lt h1)
  have q2 : (a / b).natAbs ≤ 100000000000000000 := Nat.le_trans (Int.natAbs_ediv_le_natAbs _ _) (Nat.le_of_lt h1)
  have r1 : (a.tmod b).natAbs < 100000000000000000 := by
    have : (a.tmod b).natAbs < b.natAbs := by rw [Int.natAbs_tmod]; exact Nat.mod_lt _ (by omega)
    omega
  have r2 := Int.emod_nonneg a hb0
  have r3 : a % b < 100000000000000000 := by have := Int.emod_lt a hb0; omega
  have a1 : -100000000000000000 ≤ a := by omega
  have a2 : a ≤ 100000000000000000 := by omega
  have b1 : -100000000000000000 ≤ b := by omega
  have b2 : b ≤ 100000000000000000 := by omega
  have hne : ¬ b = 0 := hb0
  obtain ⟨Q, hQ⟩ : ∃ Q, Q = a / b := ⟨_, rfl⟩
  obtain ⟨R, hR⟩ : ∃ R, R = a % b := ⟨_, rfl⟩
  rw [← hQ] at q2 hcs ⊢
  rw [← hR] at r2 r3 hcs ⊢
  have Q1 : -100000000000000000 ≤ Q := by omega
  have Q2 : Q ≤ 100000000000000000 := by omega
  clear hQ hR h1 h2 ha hb q2 hb0
  rcases hcs with ⟨c1, c2, c3⟩ | ⟨c1, c2, c3⟩
  · have w1 : IntKind.i64.wrap (a.tdiv b) = Q := by rw [c2]; exact IntWalk.i64_in _ (by omega)
    clear q1 r1
    rw [c3] at c1
    go_enter Tryz.func129, Tryz.ntmps129
    go_upto_region 4 with (first
      | (go_at_call 165; ((with_reducible refine (brief_yes a w HA.out).mono ?_); rintro e w1 ⟨rfl, e1⟩))
      | (go_at_call 165; refine (brief_yes b _ HB.out).mono ?_; rintro e w2 ⟨rfl, e2⟩))
    go_region
    all_goals
      go_wp2_with (first
        | (go_at_call 82; ((with_reducible refine (fof_c Q (by omega) (by omega) w2.drew (g.ext (e1.trans e2).drew)).mono ?_); rintro e w3 ⟨rfl, e3⟩))
        | (go_at_call 82; refine (fof_c R (by omega) (by omega) _ (g.ext ((e1.trans e2).drew.trans e3))).mono ?_; rintro e w4 ⟨rfl, e4⟩))
      go_ret2
      exact ⟨rfl, ((e1.trans e2).drew.trans e3).trans e4⟩
  · obtain ⟨T, hT⟩ : ∃ T, a.tmod b = T := ⟨_, rfl⟩
    obtain ⟨D, hD⟩ : ∃ D, a.tdiv b = D := ⟨_, rfl⟩
    rw [hD] at q1
    rw [hT] at c1 c2 c3 r1
    have w1 : IntKind.i64.wrap D = D := IntWalk.i64_in _ (by omega)
    have w2 : IntKind.i64.wrap (a.tdiv b) = D := by rw [hD]; exact w1
    rw [c2] at c3
    go_enter Tryz.func129, Tryz.ntmps129
    go_upto_region 4 with (first
      | (go_at_call 165; ((with_reducible refine (brief_yes a w HA.out).mono ?_); rintro e w1 ⟨rfl, e1⟩))
      | (go_at_call 165; refine (brief_yes b _ HB.out).mono ?_; rintro e w2 ⟨rfl, e2⟩))
    go_region
    all_goals
      go_wp2_with (first
        | (go_at_call 82; ((with_reducible refine (fof_c Q (by omega) (by omega) w2.drew (g.ext (e1.trans e2).drew)).mono ?_); rintro e w3 ⟨rfl, e3⟩))
        | (go_at_call 82; refine (fof_c R (by omega) (by omega) _ (g.ext ((e1.trans e2).drew.trans e3))).mono ?_; rintro e w4 ⟨rfl, e4⟩))
      go_ret2
      exact ⟨rfl, ((e1.trans e2).drew.trans e3).trans e4⟩
/-! ### the long roads -/
theorem rone (W : World) : RMag (W.alloc (.cells #[.int .i64 1] 3)) (.slice (some ⟨W.heap.size, 0, none⟩) 1 1) 1 :=
  ⟨[1], Holds.one W .i64 1 _, ⟨by intro x hx; simp at hx; omega, by simp⟩, mv_single _ _⟩

set_option maxRecDepth 100000 in
set_option maxHeartbeats 4000000 in
theorem fdivmod_pos (a b : Int) {k m : Nat} (w : World) (g : Gd w) (ha : IB k a) (hb : IB m b) (hk : k ≤ 9000) (hm : m ≤ 9000) (hb0 : b ≠ 0) (h : ¬ ((Lib.decDigits a.natAbs).length ≤ 17 ∧ (Lib.decDigits b.natAbs).length ≤ 17)) (hsa : false = decide (a < 0)) (HS : Hid (sgn (!(decide (a < 0) == decide (b < 0))) (a.natAbs / b.natAbs) = a / b ∧ sgn false (a.natAbs % b.natAbs) = a % b)) : Calls Tryz.prog 129 #[.string (zs a), .string (zs b)] w (Ret w (.tuple #[.string (zs (a / b)), .string (zs (a % b))])) := by
  have L1 : Hid ((Lib.decDigits a.natAbs).length ≤ 20000) := Lib.hid (Nat.le_trans (ha.dec_len hk) (by decide))
  have L2 : Hid ((Lib.decDigits b.natAbs).length ≤ 20000) := Lib.hid (Nat.le_trans (hb.dec_len hm) (by decide))
  have FA := Lib.hid (ha.rfit (by omega)); have FB := Lib.hid (hb.sfit (by omega))
  have HBN : Hid (0 < b.natAbs) := Lib.hid (by omega)
  obtain ⟨sb, hsb⟩ : ∃ sb, sb = decide (b < 0) := ⟨_, rfl⟩
  rw [← hsa, ← hsb] at HS
  have HSA := Lib.hid hsa; have HSB := Lib.hid hsb
  clear hsa hsb ha hb hb0
  by_cases h9 : (Lib.decDigits a.natAbs).length ≤ 17
  · have H9 := Lib.hid h9
    have H8 : Hid (¬ (Lib.decDigits b.natAbs).length ≤ 17) := Lib.hid (fun e => h ⟨h9, e⟩)
    clear h h9
    go_enter Tryz.func129, Tryz.ntmps129
    go_wp2_with (first
          | (go_at_call 165; ((with_reducible refine (brief_yes a w H9.out).mono ?_); rintro e w0 ⟨rfl, e0⟩))
          | (go_at_call 165; refine (brief_no b _ H8.out).mono ?_; rintro e w1 ⟨rfl, e1⟩; have e01 := e0.trans e1)
          | (go_at_call 140; ((with_reducible refine (split_c a w1).mono ?_); rw [← HSA.out]; rintro e w2 ⟨rfl, e2⟩))
          | (go_at_call 140; refine (split_c b _).mono ?_; rw [← HSB.out]; rintro e w3 ⟨rfl, e3⟩)
          | (go_at_call 144; ((with_reducible refine (take_c a.natAbs w3 L1.out).mono ?_); rintro e w4 ⟨va, rfl, e4, ma⟩; obtain ⟨aa, an, ac, rfl⟩ := ma.slice))
          | (go_at_call 144; ((with_reducible refine (take_c b.natAbs w4 L2.out).mono ?_); rintro e w5 ⟨vb, rfl, e5, mb⟩; obtain ⟨ba, bn, bc, rfl⟩ := mb.slice; have e15 := (((e01.trans e2).trans e3).trans e4).trans e5))
          | (go_at_call 168; refine (fparts_c a.natAbs b.natAbs _ _ _ (ma.ext e5) mb HBN.out FA.out FB.out).mono ?_; rintro e w6 ⟨vq, vr, rfl, e6, mq, mr⟩; obtain ⟨qa, qn, qc, rfl⟩ := mq.slice; obtain ⟨ra, rn, rc, rfl⟩ := mr.slice; have ezz := e15.trans e6)
          | (go_at_call 142; ((with_reducible refine (made_c _ (a.natAbs / b.natAbs) _ w6 mq (FA.out.mono (Nat.div_le_self _ _)) (g.ext ezz)).mono ?_); rintro e wa ⟨rfl, ea⟩))
          | (go_at_call 142; refine (made_c false (a.natAbs % b.natAbs) _ _ (mr.ext ea) (FA.out.mono (Nat.mod_le _ _)) (g.ext (ezz.trans ea))).mono ?_; rintro e wb ⟨rfl, eb⟩))
    go_ret2
    exact ⟨ret_qr2 (by have := HS.out.1; revert this; cases sb <;> exact id) HS.out.2, (ezz.trans ea).trans eb⟩
  · have H9 := Lib.hid h9
    clear h h9
    by_cases h8 : (Lib.decDigits b.natAbs).length ≤ 17
    · have H8 := Lib.hid h8
      clear h8
      go_enter Tryz.func129, Tryz.ntmps129
      go_wp2_with (first
            | (go_at_call 165; ((with_reducible refine (brief_no a w H9.out).mono ?_); rintro e w0 ⟨rfl, e0⟩))
            | (go_at_call 165; refine (brief_yes b _ H8.out).mono ?_; rintro e w1 ⟨rfl, e1⟩; have e01 := e0.trans e1)
            | (go_at_call 140; ((with_reducible refine (split_c a w1).mono ?_); rw [← HSA.out]; rintro e w2 ⟨rfl, e2⟩))
            | (go_at_call 140; refine (split_c b _).mono ?_; rw [← HSB.out]; rintro e w3 ⟨rfl, e3⟩)
            | (go_at_call 144; ((with_reducible refine (take_c a.natAbs w3 L1.out).mono ?_); rintro e w4 ⟨va, rfl, e4, ma⟩; obtain ⟨aa, an, ac, rfl⟩ := ma.slice))
            | (go_at_call 144; ((with_reducible refine (take_c b.natAbs w4 L2.out).mono ?_); rintro e w5 ⟨vb, rfl, e5, mb⟩; obtain ⟨ba, bn, bc, rfl⟩ := mb.slice; have e15 := (((e01.trans e2).trans e3).trans e4).trans e5))
            | (go_at_call 168; refine (fparts_c a.natAbs b.natAbs _ _ _ (ma.ext e5) mb HBN.out FA.out FB.out).mono ?_; rintro e w6 ⟨vq, vr, rfl, e6, mq, mr⟩; obtain ⟨qa, qn, qc, rfl⟩ := mq.slice; obtain ⟨ra, rn, rc, rfl⟩ := mr.slice; have ezz := e15.trans e6)
            | (go_at_call 142; ((with_reducible refine (made_c _ (a.natAbs / b.natAbs) _ w6 mq (FA.out.mono (Nat.div_le_self _ _)) (g.ext ezz)).mono ?_); rintro e wa ⟨rfl, ea⟩))
            | (go_at_call 142; refine (made_c false (a.natAbs % b.natAbs) _ _ (mr.ext ea) (FA.out.mono (Nat.mod_le _ _)) (g.ext (ezz.trans ea))).mono ?_; rintro e wb ⟨rfl, eb⟩))
      go_ret2
      exact ⟨ret_qr2 (by have := HS.out.1; revert this; cases sb <;> exact id) HS.out.2, (ezz.trans ea).trans eb⟩
    · have H8 := Lib.hid h8
      clear h8
      go_enter Tryz.func129, Tryz.ntmps129
      go_wp2_with (first
            | (go_at_call 165; ((with_reducible refine (brief_no a w H9.out).mono ?_); rintro e w0 ⟨rfl, e0⟩))
            | (go_at_call 165; refine (brief_no b _ H8.out).mono ?_; rintro e w1 ⟨rfl, e1⟩; have e01 := e0.trans e1)
            | (go_at_call 140; ((with_reducible refine (split_c a w1).mono ?_); rw [← HSA.out]; rintro e w2 ⟨rfl, e2⟩))
            | (go_at_call 140; refine (split_c b _).mono ?_; rw [← HSB.out]; rintro e w3 ⟨rfl, e3⟩)
            | (go_at_call 144; ((with_reducible refine (take_c a.natAbs w3 L1.out).mono ?_); rintro e w4 ⟨va, rfl, e4, ma⟩; obtain ⟨aa, an, ac, rfl⟩ := ma.slice))
            | (go_at_call 144; ((with_reducible refine (take_c b.natAbs w4 L2.out).mono ?_); rintro e w5 ⟨vb, rfl, e5, mb⟩; obtain ⟨ba, bn, bc, rfl⟩ := mb.slice; have e15 := (((e01.trans e2).trans e3).trans e4).trans e5))
            | (go_at_call 168; refine (fparts_c a.natAbs b.natAbs _ _ _ (ma.ext e5) mb HBN.out FA.out FB.out).mono ?_; rintro e w6 ⟨vq, vr, rfl, e6, mq, mr⟩; obtain ⟨qa, qn, qc, rfl⟩ := mq.slice; obtain ⟨ra, rn, rc, rfl⟩ := mr.slice; have ezz := e15.trans e6)
            | (go_at_call 142; ((with_reducible refine (made_c _ (a.natAbs / b.natAbs) _ w6 mq (FA.out.mono (Nat.div_le_self _ _)) (g.ext ezz)).mono ?_); rintro e wa ⟨rfl, ea⟩))
            | (go_at_call 142; refine (made_c false (a.natAbs % b.natAbs) _ _ (mr.ext ea) (FA.out.mono (Nat.mod_le _ _)) (g.ext (ezz.trans ea))).mono ?_; rintro e wb ⟨rfl, eb⟩))
      go_ret2
      exact ⟨ret_qr2 (by have := HS.out.1; revert this; cases sb <;> exact id) HS.out.2, (ezz.trans ea).trans eb⟩

set_option maxRecDepth 100000 in
set_option maxHeartbeats 4000000 in
theorem fdivmod_zero (a b : Int) {k m : Nat} (w : World) (g : Gd w) (ha : IB k a) (hb : IB m b) (hk : k ≤ 9000) (hm : m ≤ 9000) (hb0 : b ≠ 0) (h : ¬ ((Lib.decDigits a.natAbs).length ≤ 17 ∧ (Lib.decDigits b.natAbs).length ≤ 17)) (hsa : true = decide (a < 0)) (HM0 : Hid (a.natAbs % b.natAbs = 0)) (HS : Hid (sgn (!(decide (a < 0) == decide (b < 0))) (a.natAbs / b.natAbs) = a / b ∧ sgn false (a.natAbs % b.natAbs) = a % b)) : Calls Tryz.prog 129 #[.string (zs a), .string (zs b)] w (Ret w (.tuple #[.string (zs (a / b)), .string (zs (a % b))])) := by
  have L1 : Hid ((Lib.decDigits a.natAbs).length ≤ 20000) := Lib.hid (Nat.le_trans (ha.dec_len hk) (by decide))
  have L2 : Hid ((Lib.decDigits b.natAbs).length ≤ 20000) := Lib.hid (Nat.le_trans (hb.dec_len hm) (by decide))
  have FA := Lib.hid (ha.rfit (by omega)); have FB := Lib.hid (hb.sfit (by omega))
  have HBN : Hid (0 < b.natAbs) := Lib.hid (by omega)
  obtain ⟨sb, hsb⟩ : ∃ sb, sb = decide (b < 0) := ⟨_, rfl⟩
  rw [← hsa, ← hsb] at HS
  have HSA := Lib.hid hsa; have HSB := Lib.hid hsb
  clear hsa hsb ha hb hb0
  by_cases h9 : (Lib.decDigits a.natAbs).length ≤ 17
  · have H9 := Lib.hid h9
    have H8 : Hid (¬ (Lib.decDigits b.natAbs).length ≤ 17) := Lib.hid (fun e => h ⟨h9, e⟩)
    clear h h9
    go_enter Tryz.func129, Tryz.ntmps129
    go_wp2_with (first
          | (go_at_call 165; ((with_reducible refine (brief_yes a w H9.out).mono ?_); rintro e w0 ⟨rfl, e0⟩))
          | (go_at_call 165; refine (brief_no b _ H8.out).mono ?_; rintro e w1 ⟨rfl, e1⟩; have e01 := e0.trans e1)
          | (go_at_call 140; ((with_reducible refine (split_c a w1).mono ?_); rw [← HSA.out]; rintro e w2 ⟨rfl, e2⟩))
          | (go_at_call 140; refine (split_c b _).mono ?_; rw [← HSB.out]; rintro e w3 ⟨rfl, e3⟩)
          | (go_at_call 144; ((with_reducible refine (take_c a.natAbs w3 L1.out).mono ?_); rintro e w4 ⟨va, rfl, e4, ma⟩; obtain ⟨aa, an, ac, rfl⟩ := ma.slice))
          | (go_at_call 144; ((with_reducible refine (take_c b.natAbs w4 L2.out).mono ?_); rintro e w5 ⟨vb, rfl, e5, mb⟩; obtain ⟨ba, bn, bc, rfl⟩ := mb.slice; have e15 := (((e01.trans e2).trans e3).trans e4).trans e5))
          | (go_at_call 168; refine (fparts_c a.natAbs b.natAbs _ _ _ (ma.ext e5) mb HBN.out FA.out FB.out).mono ?_; rintro e w6 ⟨vq, vr, rfl, e6, mq, mr⟩; obtain ⟨qa, qn, qc, rfl⟩ := mq.slice; obtain ⟨ra, rn, rc, rfl⟩ := mr.slice; have ezz := e15.trans e6; have hrn : rn = 0 := mr.len_iff.2 HM0.out; subst hrn)
          | (go_at_call 142; ((with_reducible refine (made_c _ (a.natAbs / b.natAbs) _ w6 mq (FA.out.mono (Nat.div_le_self _ _)) (g.ext ezz)).mono ?_); rintro e wa ⟨rfl, ea⟩))
          | (go_at_call 142; refine (made_c false (a.natAbs % b.natAbs) _ _ (mr.ext ea) (FA.out.mono (Nat.mod_le _ _)) (g.ext (ezz.trans ea))).mono ?_; rintro e wb ⟨rfl, eb⟩))
    go_ret2
    exact ⟨ret_qr2 (by have := HS.out.1; revert this; cases sb <;> exact id) HS.out.2, (ezz.trans ea).trans eb⟩
  · have H9 := Lib.hid h9
    clear h h9
    by_cases h8 : (Lib.decDigits b.natAbs).length ≤ 17
    · have H8 := Lib.hid h8
      clear h8
      go_enter Tryz.func129, Tryz.ntmps129
      go_wp2_with (first
            | (go_at_call 165; ((with_reducible refine (brief_no a w H9.out).mono ?_); rintro e w0 ⟨rfl, e0⟩))
            | (go_at_call 165; refine (brief_yes b _ H8.out).mono ?_; rintro e w1 ⟨rfl, e1⟩; have e01 := e0.trans e1)
            | (go_at_call 140; ((with_reducible refine (split_c a w1).mono ?_); rw [← HSA.out]; rintro e w2 ⟨rfl, e2⟩))
            | (go_at_call 140; refine (split_c b _).mono ?_; rw [← HSB.out]; rintro e w3 ⟨rfl, e3⟩)
            | (go_at_call 144; ((with_reducible refine (take_c a.natAbs w3 L1.out).mono ?_); rintro e w4 ⟨va, rfl, e4, ma⟩; obtain ⟨aa, an, ac, rfl⟩ := ma.slice))
            | (go_at_call 144; ((with_reducible refine (take_c b.natAbs w4 L2.out).mono ?_); rintro e w5 ⟨vb, rfl, e5, mb⟩; obtain ⟨ba, bn, bc, rfl⟩ := mb.slice; have e15 := (((e01.trans e2).trans e3).trans e4).trans e5))
            | (go_at_call 168; refine (fparts_c a.natAbs b.natAbs _ _ _ (ma.ext e5) mb HBN.out FA.out FB.out).mono ?_; rintro e w6 ⟨vq, vr, rfl, e6, mq, mr⟩; obtain ⟨qa, qn, qc, rfl⟩ := mq.slice; obtain ⟨ra, rn, rc, rfl⟩ := mr.slice; have ezz := e15.trans e6; have hrn : rn = 0 := mr.len_iff.2 HM0.out; subst hrn)
            | (go_at_call 142; ((with_reducible refine (made_c _ (a.natAbs / b.natAbs) _ w6 mq (FA.out.mono (Nat.div_le_self _ _)) (g.ext ezz)).mono ?_); rintro e wa ⟨rfl, ea⟩))
            | (go_at_call 142; refine (made_c false (a.natAbs % b.natAbs) _ _ (mr.ext ea) (FA.out.mono (Nat.mod_le _ _)) (g.ext (ezz.trans ea))).mono ?_; rintro e wb ⟨rfl, eb⟩))
      go_ret2
      exact ⟨ret_qr2 (by have := HS.out.1; revert this; cases sb <;> exact id) HS.out.2, (ezz.trans ea).trans eb⟩
    · have H8 := Lib.hid h8
      clear h8
      go_enter Tryz.func129, Tryz.ntmps129
      go_wp2_with (first
            | (go_at_call 165; ((with_reducible refine (brief_no a w H9.out).mono ?_); rintro e w0 ⟨rfl, e0⟩))
            | (go_at_call 165; refine (brief_no b _ H8.out).mono ?_; rintro e w1 ⟨rfl, e1⟩; have e01 := e0.trans e1)
            | (go_at_call 140; ((with_reducible refine (split_c a w1).mono ?_); rw [← HSA.out]; rintro e w2 ⟨rfl, e2⟩))
            | (go_at_call 140; refine (split_c b _).mono ?_; rw [← HSB.out]; rintro e w3 ⟨rfl, e3⟩)
            | (go_at_call 144; ((with_reducible refine (take_c a.natAbs w3 L1.out).mono ?_); rintro e w4 ⟨va, rfl, e4, ma⟩; obtain ⟨aa, an, ac, rfl⟩ := ma.slice))
            | (go_at_call 144; ((with_reducible refine (take_c b.natAbs w4 L2.out).mono ?_); rintro e w5 ⟨vb, rfl, e5, mb⟩; obtain ⟨ba, bn, bc, rfl⟩ := mb.slice; have e15 := (((e01.trans e2).trans e3).trans e4).trans e5))
            | (go_at_call 168; refine (fparts_c a.natAbs b.natAbs _ _ _ (ma.ext e5) mb HBN.out FA.out FB.out).mono ?_; rintro e w6 ⟨vq, vr, rfl, e6, mq, mr⟩; obtain ⟨qa, qn, qc, rfl⟩ := mq.slice; obtain ⟨ra, rn, rc, rfl⟩ := mr.slice; have ezz := e15.trans e6; have hrn : rn = 0 := mr.len_iff.2 HM0.out; subst hrn)
            | (go_at_call 142; ((with_reducible refine (made_c _ (a.natAbs / b.natAbs) _ w6 mq (FA.out.mono (Nat.div_le_self _ _)) (g.ext ezz)).mono ?_); rintro e wa ⟨rfl, ea⟩))
            | (go_at_call 142; refine (made_c false (a.natAbs % b.natAbs) _ _ (mr.ext ea) (FA.out.mono (Nat.mod_le _ _)) (g.ext (ezz.trans ea))).mono ?_; rintro e wb ⟨rfl, eb⟩))
      go_ret2
      exact ⟨ret_qr2 (by have := HS.out.1; revert this; cases sb <;> exact id) HS.out.2, (ezz.trans ea).trans eb⟩

set_option maxRecDepth 100000 in
set_option maxHeartbeats 4000000 in
theorem fdivmod_neg (a b : Int) {k m : Nat} (w : World) (g : Gd w) (ha : IB k a) (hb : IB m b) (hk : k ≤ 9000) (hm : m ≤ 9000) (hb0 : b ≠ 0) (h : ¬ ((Lib.decDigits a.natAbs).length ≤ 17 ∧ (Lib.decDigits b.natAbs).length ≤ 17)) (hsa : true = decide (a < 0)) (HM0 : Hid (a.natAbs % b.natAbs ≠ 0)) (HS : Hid (sgn (!(decide (a < 0) == decide (b < 0))) (a.natAbs / b.natAbs + 1) = a / b ∧ sgn false (b.natAbs - a.natAbs % b.natAbs) = a % b)) : Calls Tryz.prog 129 #[.string (zs a), .string (zs b)] w (Ret w (.tuple #[.string (zs (a / b)), .string (zs (a % b))])) := by
  have L1 : Hid ((Lib.decDigits a.natAbs).length ≤ 20000) := Lib.hid (Nat.le_trans (ha.dec_len hk) (by decide))
  have L2 : Hid ((Lib.decDigits b.natAbs).length ≤ 20000) := Lib.hid (Nat.le_trans (hb.dec_len hm) (by decide))
  have FA := Lib.hid (ha.rfit (by omega)); have FB := Lib.hid (hb.sfit (by omega))
  have HBN : Hid (0 < b.natAbs) := Lib.hid (by omega)
  have FQ : Hid (RFit (a.natAbs / b.natAbs + 1)) := Lib.hid (by
    have h1 : IB (max k 1 + 1) ((a.natAbs / b.natAbs : Nat) + 1 : Int) := IB.add ⟨by rw [Int.natAbs_natCast]; exact Nat.lt_of_le_of_lt (Nat.div_le_self _ _) ha.out⟩ ⟨by decide⟩
    have h2 := h1.rfit (by omega)
    exact h2.mono (by omega))
  have RONE : Hid (RFit 1) := Lib.hid ⟨Nat.one_lt_pow (by decide) (by decide)⟩
  have HLE := Lib.hid (Nat.le_of_lt (Nat.mod_lt a.natAbs (show 0 < b.natAbs by omega)))
  obtain ⟨sb, hsb⟩ : ∃ sb, sb = decide (b < 0) := ⟨_, rfl⟩
  rw [← hsa, ← hsb] at HS
  have HSA := Lib.hid hsa; have HSB := Lib.hid hsb
  clear hsa hsb ha hb hb0
  by_cases h9 : (Lib.decDigits a.natAbs).length ≤ 17
  · have H9 := Lib.hid h9
    have H8 : Hid (¬ (Lib.decDigits b.natAbs).length ≤ 17) := Lib.hid (fun e => h ⟨h9, e⟩)
    clear h h9
    go_enter Tryz.func129, Tryz.ntmps129
    go_wp2_with (first
          | (go_at_call 165; ((with_reducible refine (brief_yes a w H9.out).mono ?_); rintro e w0 ⟨rfl, e0⟩))
          | (go_at_call 165; refine (brief_no b _ H8.out).mono ?_; rintro e w1 ⟨rfl, e1⟩; have e01 := e0.trans e1)
          | (go_at_call 140; ((with_reducible refine (split_c a w1).mono ?_); rw [← HSA.out]; rintro e w2 ⟨rfl, e2⟩))
          | (go_at_call 140; refine (split_c b _).mono ?_; rw [← HSB.out]; rintro e w3 ⟨rfl, e3⟩)
          | (go_at_call 144; ((with_reducible refine (take_c a.natAbs w3 L1.out).mono ?_); rintro e w4 ⟨va, rfl, e4, ma⟩; obtain ⟨aa, an, ac, rfl⟩ := ma.slice))
          | (go_at_call 144; ((with_reducible refine (take_c b.natAbs w4 L2.out).mono ?_); rintro e w5 ⟨vb, rfl, e5, mb⟩; obtain ⟨ba, bn, bc, rfl⟩ := mb.slice; have e15 := (((e01.trans e2).trans e3).trans e4).trans e5))
          | (go_at_call 168; refine (fparts_c a.natAbs b.natAbs _ _ _ (ma.ext e5) mb HBN.out FA.out FB.out).mono ?_; rintro e w6 ⟨vq, vr, rfl, e6, mq, mr⟩; obtain ⟨qa, qn, qc, rfl⟩ := mq.slice; obtain ⟨ra, rn, rc, rfl⟩ := mr.slice; have hrn : 0 < rn := by rcases Nat.eq_zero_or_pos rn with h | h; (exact absurd (mr.len_iff.1 h) HM0.out); exact h)
          | (go_at_call 166; ((with_reducible refine (joined_c (a.natAbs / b.natAbs) 1 1 _ _ _ (mq.ext ((Ext.refl w6).alloc _)) (rone w6) (by omega) (by omega) (by have := Int.natCast_nonneg (a.natAbs / b.natAbs); omega) (FA.out.mono (Nat.div_le_self _ _)) RONE.out (by rw [joined_plus]; exact FQ.out)).mono ?_); rw [joined_plus]; rintro e w7 ⟨v7, rfl, e7, m7⟩; obtain ⟨xa, xn, xc, rfl⟩ := m7.slice; have e17 := ((Ext.refl w6).alloc (.cells #[.int .i64 1] 3)).trans e7))
          | (go_at_call 144; refine (take_c b.natAbs _ L2.out).mono ?_; rintro e w8 ⟨v8, rfl, e8, m8⟩; obtain ⟨ya, yn, yc, rfl⟩ := m8.slice)
          | (go_at_call 166; refine (joined_c b.natAbs (a.natAbs % b.natAbs) (-1) _ _ _ m8 ((mr.ext e17).ext e8) (by omega) (by omega) (by have := HLE.out; omega) FB.out.r (FB.out.r.mono HLE.out) (by rw [joined_minus HLE.out]; exact FB.out.r.mono (Nat.sub_le _ _))).mono ?_; rw [joined_minus HLE.out]; rintro e w9 ⟨v9, rfl, e9, m9⟩; obtain ⟨za, zn, zc, rfl⟩ := m9.slice; have ezz := ((e15.trans e6).trans e17).trans (e8.trans e9))
          | (go_at_call 142; ((with_reducible refine (made_c _ (a.natAbs / b.natAbs + 1) _ w9 ((m7.ext e8).ext e9) FQ.out (g.ext ezz)).mono ?_); rintro e wa ⟨rfl, ea⟩))
          | (go_at_call 142; refine (made_c false (b.natAbs - a.natAbs % b.natAbs) _ _ (m9.ext ea) (FB.out.r.mono (Nat.sub_le _ _)) (g.ext (ezz.trans ea))).mono ?_; rintro e wb ⟨rfl, eb⟩))
    go_ret2
    exact ⟨ret_qr2 (by have := HS.out.1; revert this; cases sb <;> exact id) HS.out.2, (ezz.trans ea).trans eb⟩
  · have H9 := Lib.hid h9
    clear h h9
    by_cases h8 : (Lib.decDigits b.natAbs).length ≤ 17
    · have H8 := Lib.hid h8
      clear h8
      go_enter Tryz.func129, Tryz.ntmps129
      go_wp2_with (first
            | (go_at_call 165; ((with_reducible refine (brief_no a w H9.out).mono ?_); rintro e w0 ⟨rfl, e0⟩))
            | (go_at_call 165; refine (brief_yes b _ H8.out).mono ?_; rintro e w1 ⟨rfl, e1⟩; have e01 := e0.trans e1)
            | (go_at_call 140; ((with_reducible refine (split_c a w1).mono ?_); rw [← HSA.out]; rintro e w2 ⟨rfl, e2⟩))
            | (go_at_call 140; refine (split_c b _).mono ?_; rw [← HSB.out]; rintro e w3 ⟨rfl, e3⟩)
            | (go_at_call 144; ((with_reducible refine (take_c a.natAbs w3 L1.out).mono ?_); rintro e w4 ⟨va, rfl, e4, ma⟩; obtain ⟨aa, an, ac, rfl⟩ := ma.slice))
            | (go_at_call 144; ((with_reducible refine (take_c b.natAbs w4 L2.out).mono ?_); rintro e w5 ⟨vb, rfl, e5, mb⟩; obtain ⟨ba, bn, bc, rfl⟩ := mb.slice; have e15 := (((e01.trans e2).trans e3).trans e4).trans e5))
            | (go_at_call 168; refine (fparts_c a.natAbs b.natAbs _ _ _ (ma.ext e5) mb HBN.out FA.out FB.out).mono ?_; rintro e w6 ⟨vq, vr, rfl, e6, mq, mr⟩; obtain ⟨qa, qn, qc, rfl⟩ := mq.slice; obtain ⟨ra, rn, rc, rfl⟩ := mr.slice; have hrn : 0 < rn := by rcases Nat.eq_zero_or_pos rn with h | h; (exact absurd (mr.len_iff.1 h) HM0.out); exact h)
            | (go_at_call 166; ((with_reducible refine (joined_c (a.natAbs / b.natAbs) 1 1 _ _ _ (mq.ext ((Ext.refl w6).alloc _)) (rone w6) (by omega) (by omega) (by have := Int.natCast_nonneg (a.natAbs / b.natAbs); omega) (FA.out.mono (Nat.div_le_self _ _)) RONE.out (by rw [joined_plus]; exact FQ.out)).mono ?_); rw [joined_plus]; rintro e w7 ⟨v7, rfl, e7, m7⟩; obtain ⟨xa, xn, xc, rfl⟩ := m7.slice; have e17 := ((Ext.refl w6).alloc (.cells #[.int .i64 1] 3)).trans e7))
            | (go_at_call 144; refine (take_c b.natAbs _ L2.out).mono ?_; rintro e w8 ⟨v8, rfl, e8, m8⟩; obtain ⟨ya, yn, yc, rfl⟩ := m8.slice)
            | (go_at_call 166; refine (joined_c b.natAbs (a.natAbs % b.natAbs) (-1) _ _ _ m8 ((mr.ext e17).ext e8) (by omega) (by omega) (by have := HLE.out; omega) FB.out.r (FB.out.r.mono HLE.out) (by rw [joined_minus HLE.out]; exact FB.out.r.mono (Nat.sub_le _ _))).mono ?_; rw [joined_minus HLE.out]; rintro e w9 ⟨v9, rfl, e9, m9⟩; obtain ⟨za, zn, zc, rfl⟩ := m9.slice; have ezz := ((e15.trans e6).trans e17).trans (e8.trans e9))
            | (go_at_call 142; ((with_reducible refine (made_c _ (a.natAbs / b.natAbs + 1) _ w9 ((m7.ext e8).ext e9) FQ.out (g.ext ezz)).mono ?_); rintro e wa ⟨rfl, ea⟩))
            | (go_at_call 142; refine (made_c false (b.natAbs - a.natAbs % b.natAbs) _ _ (m9.ext ea) (FB.out.r.mono (Nat.sub_le _ _)) (g.ext (ezz.trans ea))).mono ?_; rintro e wb ⟨rfl, eb⟩))
      go_ret2
      exact ⟨ret_qr2 (by have := HS.out.1; revert this; cases sb <;> exact id) HS.out.2, (ezz.trans ea).trans eb⟩
    · have H8 := Lib.hid h8
      clear h8
      go_enter Tryz.func129, Tryz.ntmps129
      go_wp2_with (first
            | (go_at_call 165; ((with_reducible refine (brief_no a w H9.out).mono ?_); rintro e w0 ⟨rfl, e0⟩))
            | (go_at_call 165; refine (brief_no b _ H8.out).mono ?_; rintro e w1 ⟨rfl, e1⟩; have e01 := e0.trans e1)
            | (go_at_call 140; ((with_reducible refine (split_c a w1).mono ?_); rw [← HSA.out]; rintro e w2 ⟨rfl, e2⟩))
            | (go_at_call 140; refine (split_c b _).mono ?_; rw [← HSB.out]; rintro e w3 ⟨rfl, e3⟩)
            | (go_at_call 144; ((with_reducible refine (take_c a.natAbs w3 L1.out).mono ?_); rintro e w4 ⟨va, rfl, e4, ma⟩; obtain ⟨aa, an, ac, rfl⟩ := ma.slice))
            | (go_at_call 144; ((with_reducible refine (take_c b.natAbs w4 L2.out).mono ?_); rintro e w5 ⟨vb, rfl, e5, mb⟩; obtain ⟨ba, bn, bc, rfl⟩ := mb.slice; have e15 := (((e01.trans e2).trans e3).trans e4).trans e5))
            | (go_at_call 168; refine (fparts_c a.natAbs b.natAbs _ _ _ (ma.ext e5) mb HBN.out FA.out FB.out).mono ?_; rintro e w6 ⟨vq, vr, rfl, e6, mq, mr⟩; obtain ⟨qa, qn, qc, rfl⟩ := mq.slice; obtain ⟨ra, rn, rc, rfl⟩ := mr.slice; have hrn : 0 < rn := by rcases Nat.eq_zero_or_pos rn with h | h; (exact absurd (mr.len_iff.1 h) HM0.out); exact h)
            | (go_at_call 166; ((with_reducible refine (joined_c (a.natAbs / b.natAbs) 1 1 _ _ _ (mq.ext ((Ext.refl w6).alloc _)) (rone w6) (by omega) (by omega) (by have := Int.natCast_nonneg (a.natAbs / b.natAbs); omega) (FA.out.mono (Nat.div_le_self _ _)) RONE.out (by rw [joined_plus]; exact FQ.out)).mono ?_); rw [joined_plus]; rintro e w7 ⟨v7, rfl, e7, m7⟩; obtain ⟨xa, xn, xc, rfl⟩ := m7.slice; have e17 := ((Ext.refl w6).alloc (.cells #[.int .i64 1] 3)).trans e7))
            | (go_at_call 144; refine (take_c b.natAbs _ L2.out).mono ?_; rintro e w8 ⟨v8, rfl, e8, m8⟩; obtain ⟨ya, yn, yc, rfl⟩ := m8.slice)
            | (go_at_call 166; refine (joined_c b.natAbs (a.natAbs % b.natAbs) (-1) _ _ _ m8 ((mr.ext e17).ext e8) (by omega) (by omega) (by have := HLE.out; omega) FB.out.r (FB.out.r.mono HLE.out) (by rw [joined_minus HLE.out]; exact FB.out.r.mono (Nat.sub_le _ _))).mono ?_; rw [joined_minus HLE.out]; rintro e w9 ⟨v9, rfl, e9, m9⟩; obtain ⟨za, zn, zc, rfl⟩ := m9.slice; have ezz := ((e15.trans e6).trans e17).trans (e8.trans e9))
            | (go_at_call 142; ((with_reducible refine (made_c _ (a.natAbs / b.natAbs + 1) _ w9 ((m7.ext e8).ext e9) FQ.out (g.ext ezz)).mono ?_); rintro e wa ⟨rfl, ea⟩))
            | (go_at_call 142; refine (made_c false (b.natAbs - a.natAbs % b.natAbs) _ _ (m9.ext ea) (FB.out.r.mono (Nat.sub_le _ _)) (g.ext (ezz.trans ea))).mono ?_; rintro e wb ⟨rfl, eb⟩))
      go_ret2
      exact ⟨ret_qr2 (by have := HS.out.1; revert this; cases sb <;> exact id) HS.out.2, (ezz.trans ea).trans eb⟩

/-- DivMod. -/
theorem fdivmod_c (a b : Int) {k m : Nat} (w : World) (g : Gd w) (ha : IB k a) (hb : IB m b) (hk : k ≤ 9000) (hm : m ≤ 9000) (hb0 : b ≠ 0) : Calls Tryz.prog 129 #[.string (zs a), .string (zs b)] w (Ret w (.tuple #[.string (zs (a / b)), .string (zs (a % b))])) := by
  by_cases hs : (Lib.decDigits a.natAbs).length ≤ 17 ∧ (Lib.decDigits b.natAbs).length ≤ 17
  · exact fdivmod_small a b w g hs.1 hs.2 hb0
  · by_cases h : a < 0
    · by_cases h0 : a.natAbs % b.natAbs = 0
      · exact fdivmod_zero a b w g ha hb hk hm hb0 hs (decide_eq_true h).symm (Lib.hid h0) (Lib.hid (div_pos_q a b hb0 (Or.inr h0)))
      · exact fdivmod_neg a b w g ha hb hk hm hb0 hs (decide_eq_true h).symm (Lib.hid h0) (Lib.hid (div_neg_q a b hb0 h h0))
    · exact fdivmod_pos a b w g ha hb hk hm hb0 hs (decide_eq_false h).symm (Lib.hid (div_pos_q a b hb0 (Or.inl (by omega))))

set_option maxRecDepth 100000 in
set_option maxHeartbeats 2000000 in
/-- Gcd. -/
theorem fgcd_c (a b : Int) {k m : Nat} (w : World) (g : Gd w) (ha : IB k a) (hb : IB m b) (hk : k ≤ 9000) (hm : m ≤ 9000) : Calls Tryz.prog 110 #[.string (zs a), .string (zs b)] w (Ret w (.string (zs (Int.gcd a b)))) := by
  have HA : Hid (IB 9000 (a.natAbs : Int)) := Lib.hid (IB.mono ⟨by simpa using ha.out⟩ hk)
  have HB : Hid (IB 9000 (b.natAbs : Int)) := Lib.hid (IB.mono ⟨by simpa using hb.out⟩ hm)
  have HG := Lib.hid g
  clear ha hb g
  go_enter Tryz.func110, Tryz.ntmps110
  go_wp2_with (first
    | (go_at_call 149; ((with_reducible refine (fabs_c a w).mono ?_); rintro e w1 ⟨rfl, e1⟩))
    | (go_at_call 149; refine (fabs_c b _).mono ?_; rintro e w2 ⟨rfl, e2⟩))
  go_loopg [0, 1] b.natAbs (fun gk x y W => ∃ (X Y : Nat), x = .string (zs (X : Int)) ∧ y = .string (zs (Y : Int)) ∧ Y ≤ gk ∧ Hid (Nat.gcd X Y = Int.gcd a b ∧ IB 9000 (X : Int) ∧ IB 9000 (Y : Int)) ∧ Ext w W)
  case atStart => exact ⟨a.natAbs, b.natAbs, rfl, rfl, Nat.le_refl _, Lib.hid ⟨rfl, HA.out, HB.out⟩, e1.trans e2⟩
  case round =>
    obtain ⟨X, Y, rfl, rfl, hgk, hin, hx⟩ := hrel
    by_cases h0 : Y = 0
    · have z1 := zs_nis0 (n := (Y : Int)) (by omega)
      have z2 := zs_is0 (n := (Y : Int)) (by omega)
      have E : Hid ((X : Int) = Int.gcd a b) := Lib.hid (by rw [← hin.out.1, h0, Nat.gcd_zero_right])
      clear h0
      go_wp2
      go_ret
      exact ⟨ret_str E.out, hx⟩
    · have z1 := zs_nnot0 (n := (Y : Int)) (by omega)
      have z2 := zs_not0 (n := (Y : Int)) (by omega)
      have hmod : X % Y < Y := Nat.mod_lt _ (by omega)
      have hmod' : X % Y < gk := by omega
      have HM := Lib.hid hmod'
      have H0 : Hid ((Y : Int) ≠ 0) := Lib.hid (by omega)
      have HC : Hid ((X : Int) % (Y : Int) = ((X % Y : Nat) : Int)) := Lib.hid (by simp)
      have NX : Hid (Nat.gcd Y (X % Y) = Int.gcd a b ∧ IB 9000 (Y : Int) ∧ IB 9000 ((X % Y : Nat) : Int)) := Lib.hid ⟨by rw [← hin.out.1, Nat.gcd_comm, ← Nat.gcd_rec, Nat.gcd_comm], hin.out.2.2, hin.out.2.2.of_le (by rw [Int.natAbs_natCast, Int.natAbs_natCast]; exact Nat.le_of_lt hmod)⟩
      clear h0 hmod hmod'
      go_wp2_with (go_at_call 129; refine (fdivmod_c (X : Int) (Y : Int) _ (HG.out.ext hx) hin.out.2.1 hin.out.2.2 (by decide) (by decide) H0.out).mono ?_; rw [HC.out]; rintro e w3 ⟨rfl, e3⟩)
      go_roundg (X % Y)
      case rel => exact ⟨Y, X % Y, rfl, rfl, Nat.le_refl _, NX, hx.trans e3⟩
      case measure => exact HM.out
end Go.Proofs.YtglppcmegocphaaGreatDoor

namespace Go.Proofs.YtglppcmegocphaaGreatDoor
open Go Go.RowKit
set_option maxRecDepth 100000 in
theorem fbrief_no (s : ByteArray) (w : World) (h : (9 : Int) < s.size) : Calls Tryz.prog 100 #[.string s] w fun e w' => e = .returned (.tuple #[.int .i64 0, .int .i64 0, .bool false]) ∧ w = w' := by
  go_enter Tryz.func100, Tryz.ntmps100
  go_wp2
  go_ret3
  exact ⟨rfl, rfl⟩

set_option maxRecDepth 100000 in
set_option maxHeartbeats 4000000 in
theorem fbrief_go (s : ByteArray) (b0 e1 : Nat) (mi fr : Bool) (w : World) (r1 r2 : Int) (hsz : (s.size : Int) ≤ 9) (hs0 : 0 < s.size)
    (hmi : (mi = true ∧ b0 = 1 ∧ (s[0].toNat : Int) = 45) ∨ (mi = false ∧ b0 = 0 ∧ ¬ (s[0].toNat : Int) = 45))
    (hd1 : DgAt s b0 e1) (h01 : b0 < e1)
    (hfr : (fr = true ∧ ∃ h : e1 < s.size, (s[e1].toNat : Int) = 47) ∨ (fr = false ∧ e1 = s.size)) (hd2 : DgAt s (e1 + 1) s.size)
    (hr : Hid (r1 = (if mi then -(sval s b0 e1 : Int) else sval s b0 e1) ∧ r2 = (if fr then (sval s (e1 + 1) s.size : Int) else 1))) :
    Calls Tryz.prog 100 #[.string s] w fun e w' => e = .returned (.tuple #[.int .i64 r1, .int .i64 r2, .bool true]) ∧ w = w' := by
  have HD1 := Lib.hid hd1; have HD2 := Lib.hid hd2; have HFR := Lib.hid hfr
  have hes : e1 ≤ s.size := by rcases hfr with ⟨_, h, _⟩ | ⟨_, h⟩ <;> omega
  have hs0' : (0 : Int) < s.size := by omega
  clear hd1 hd2 hfr
  rcases hmi with ⟨rfl, rfl, hm⟩ | ⟨rfl, rfl, hm⟩
  · go_enter Tryz.func100, Tryz.ntmps100
    go_wp2
    go_loop [2, 5] (fun n i => ∃ (k N : Nat), 1 ≤ k ∧ k ≤ e1 ∧ i = .int .i64 k ∧ n = .int .i64 N ∧ N < 1000000000 ∧ Hid (N = sval s 1 k)) (fun _ i => s.size - (intOf i).toNat)
    case atStart => exact ⟨1, 0, Nat.le_refl _, by omega, rfl, rfl, by omega, Lib.hid (sval_start s _).symm⟩
    case round =>
      obtain ⟨k, N, hb, hke, rfl, rfl, hN, HN⟩ := hrel
      by_cases hk : k < e1
      · obtain ⟨hks, d1, d2⟩ := HD1.out k hb hk
        have hne : ¬ (s[k].toNat : Int) = 47 := by omega
        have hN8 : N < 100000000 := by
          rw [HN.out]
          have h1 := sval_lt s 1 e1 k HD1.out hb hke
          have h2 : 10 ^ (k - 1) ≤ 10 ^ 8 := Nat.pow_le_pow_right (by decide) (by omega)
          exact Nat.lt_of_lt_of_le h1 h2
        have hst := sval_step s 1 k hb hks
        have HST := Lib.hid hst
        clear hst
        go_wp2
        first
          | (go_round
             case rel => exact ⟨k + 1, 10 * N + (s[k].toNat - 48), by omega, by omega, by go_num, by simp only [Value.int.injEq, true_and]; omega, by omega, Lib.hid (by rw [HST.out, HN.out])⟩
             case measure => simp [intOf]; omega)
          | (go_region; all_goals (go_roundw; (case rel => exact ⟨k + 1, 10 * N + (s[k].toNat - 48), by omega, by omega, by go_num, by simp only [Value.int.injEq, true_and]; omega, by omega, Lib.hid (by rw [HST.out, HN.out])⟩); (case measure => simp [intOf]; omega)))
      · obtain rfl : k = e1 := by omega
        rcases HFR.out with ⟨rfl, h47s, h47⟩ | ⟨rfl, he⟩
        · have h47i : (k : Int) < s.size := by omega
          go_wp2
          go_loop [3, 5] (fun n i => ∃ (j M : Nat), k + 1 ≤ j ∧ j ≤ s.size ∧ i = .int .i64 j ∧ n = .int .i64 M ∧ M < 1000000000 ∧ Hid (M = sval s (k + 1) j)) (fun _ i => s.size - (intOf i).toNat)
          case atStart => exact ⟨k + 1, 0, Nat.le_refl _, by omega, by go_num, rfl, by omega, Lib.hid (sval_start s _).symm⟩
          case round =>
            obtain ⟨j, M, hb', hje, rfl, rfl, hM, HM⟩ := hrel
            by_cases hj : j < s.size
            · obtain ⟨hjs, d1, d2⟩ := HD2.out j hb' hj
              have hM8 : M < 100000000 := by
                rw [HM.out]
                have h1 := sval_lt s (k + 1) s.size j HD2.out hb' hje
                have h2 : 10 ^ (j - (k + 1)) ≤ 10 ^ 8 := Nat.pow_le_pow_right (by decide) (by omega)
                exact Nat.lt_of_lt_of_le h1 h2
              have hst := sval_step s (k + 1) j hb' hjs
              have HST := Lib.hid hst
              clear hst
              go_wp2
              go_round
              case rel => exact ⟨j + 1, 10 * M + (s[j].toNat - 48), by omega, by omega, by go_num, by simp only [Value.int.injEq, true_and]; omega, by omega, Lib.hid (by rw [HST.out, HM.out])⟩
              case measure => simp [intOf]; omega
            · obtain rfl : s.size = j := by omega
              have hfin := hr.out
              rw [← HN.out, ← HM.out] at hfin
              have HF : Hid ((-1) * (N : Int) = r1 ∧ r2 = M) := Lib.hid (by simp at hfin; exact ⟨by rw [hfin.1]; omega, hfin.2⟩)
              clear hfin
              go_wp2
              go_ret3
              exact ⟨by rw [← HF.out.1, HF.out.2]; first | rfl | simp, rfl⟩
        · have hfin := hr.out
          rw [← HN.out] at hfin
          have HF : Hid ((-1) * (N : Int) = r1 ∧ r2 = 1) := Lib.hid (by simp at hfin; exact ⟨by rw [hfin.1]; omega, hfin.2⟩)
          have he' : ¬ ((k : Int) < s.size) := by omega
          have he2 : (k : Int) = s.size := by omega
          clear hfin
          subst he
          go_wp2
          go_ret3
          exact ⟨by rw [← HF.out.1, HF.out.2]; first | rfl | simp, rfl⟩
  · go_enter Tryz.func100, Tryz.ntmps100
    go_wp2
    go_loop [2, 5] (fun n i => ∃ (k N : Nat), 0 ≤ k ∧ k ≤ e1 ∧ i = .int .i64 k ∧ n = .int .i64 N ∧ N < 1000000000 ∧ Hid (N = sval s 0 k)) (fun _ i => s.size - (intOf i).toNat)
    case atStart => exact ⟨0, 0, Nat.le_refl _, by omega, rfl, rfl, by omega, Lib.hid (sval_start s _).symm⟩
    case round =>
      obtain ⟨k, N, hb, hke, rfl, rfl, hN, HN⟩ := hrel
      by_cases hk : k < e1
      · obtain ⟨hks, d1, d2⟩ := HD1.out k hb hk
        have hne : ¬ (s[k].toNat : Int) = 47 := by omega
        have hN8 : N < 100000000 := by
          rw [HN.out]
          have h1 := sval_lt s 0 e1 k HD1.out hb hke
          have h2 : 10 ^ (k - 0) ≤ 10 ^ 8 := Nat.pow_le_pow_right (by decide) (by omega)
          exact Nat.lt_of_lt_of_le h1 h2
        have hst := sval_step s 0 k hb hks
        have HST := Lib.hid hst
        clear hst
        go_wp2
        first
          | (go_round
             case rel => exact ⟨k + 1, 10 * N + (s[k].toNat - 48), by omega, by omega, by go_num, by simp only [Value.int.injEq, true_and]; omega, by omega, Lib.hid (by rw [HST.out, HN.out])⟩
             case measure => simp [intOf]; omega)
          | (go_region; all_goals (go_roundw; (case rel => exact ⟨k + 1, 10 * N + (s[k].toNat - 48), by omega, by omega, by go_num, by simp only [Value.int.injEq, true_and]; omega, by omega, Lib.hid (by rw [HST.out, HN.out])⟩); (case measure => simp [intOf]; omega)))
      · obtain rfl : k = e1 := by omega
        rcases HFR.out with ⟨rfl, h47s, h47⟩ | ⟨rfl, he⟩
        · have h47i : (k : Int) < s.size := by omega
          go_wp2
          go_loop [3, 5] (fun n i => ∃ (j M : Nat), k + 1 ≤ j ∧ j ≤ s.size ∧ i = .int .i64 j ∧ n = .int .i64 M ∧ M < 1000000000 ∧ Hid (M = sval s (k + 1) j)) (fun _ i => s.size - (intOf i).toNat)
          case atStart => exact ⟨k + 1, 0, Nat.le_refl _, by omega, by go_num, rfl, by omega, Lib.hid (sval_start s _).symm⟩
          case round =>
            obtain ⟨j, M, hb', hje, rfl, rfl, hM, HM⟩ := hrel
            by_cases hj : j < s.size
            · obtain ⟨hjs, d1, d2⟩ := HD2.out j hb' hj
              have hM8 : M < 100000000 := by
                rw [HM.out]
                have h1 := sval_lt s (k + 1) s.size j HD2.out hb' hje
                have h2 : 10 ^ (j - (k + 1)) ≤ 10 ^ 8 := Nat.pow_le_pow_right (by decide) (by omega)
                exact Nat.lt_of_lt_of_le h1 h2
              have hst := sval_step s (k + 1) j hb' hjs
              have HST := Lib.hid hst
              clear hst
              go_wp2
              go_round
              case rel => exact ⟨j + 1, 10 * M + (s[j].toNat - 48), by omega, by omega, by go_num, by simp only [Value.int.injEq, true_and]; omega, by omega, Lib.hid (by rw [HST.out, HM.out])⟩
              case measure => simp [intOf]; omega
            · obtain rfl : s.size = j := by omega
              have hfin := hr.out
              rw [← HN.out, ← HM.out] at hfin
              have HF : Hid (1 * (N : Int) = r1 ∧ r2 = M) := Lib.hid (by simp at hfin; exact ⟨by rw [hfin.1]; omega, hfin.2⟩)
              clear hfin
              go_wp2
              go_ret3
              exact ⟨by rw [← HF.out.1, HF.out.2]; first | rfl | simp, rfl⟩
        · have hfin := hr.out
          rw [← HN.out] at hfin
          have HF : Hid (1 * (N : Int) = r1 ∧ r2 = 1) := Lib.hid (by simp at hfin; exact ⟨by rw [hfin.1]; omega, hfin.2⟩)
          have he' : ¬ ((k : Int) < s.size) := by omega
          have he2 : (k : Int) = s.size := by omega
          clear hfin
          subst he
          go_wp2
          go_ret3
          exact ⟨by rw [← HF.out.1, HF.out.2]; first | rfl | simp, rfl⟩

theorem fbrief_yes (q : Rat) (w : World) (h9 : (qs q).size ≤ 9) :
    Calls Tryz.prog 100 #[.string (qs q)] w fun e w' => e = .returned (.tuple #[.int .i64 q.num, .int .i64 q.den, .bool true]) ∧ w = w' := by
  obtain ⟨mi, fr, a, z, e, hmi, hfr⟩ := ql_parts q
  have es : (qs q).data.toList = a ++ Lib.decDigits q.num.natAbs ++ z := by rw [qs_list, e]
  have hd := dec_digs q.num.natAbs
  have hne := dec_len_pos q.num.natAbs
  have hsz : (qs q).size = a.length + (Lib.decDigits q.num.natAbs).length + z.length := by rw [size_list, es]; simp; omega
  have h0 : 0 < (qs q).size := by omega
  have hsv := sval_mid es
  rw [dec_val] at hsv
  have hz2 : DgAt (qs q) (a.length + (Lib.decDigits q.num.natAbs).length + 1) (qs q).size ∧ (fr = true → sval (qs q) (a.length + (Lib.decDigits q.num.natAbs).length + 1) (qs q).size = q.den) := by
    rcases hfr with ⟨rfl, rfl, _⟩ | ⟨rfl, rfl, _⟩
    · have es2 : (qs q).data.toList = (a ++ Lib.decDigits q.num.natAbs ++ [47]) ++ Lib.decDigits q.den ++ [] := by rw [es]; simp
      have h1 := dgAt_mid es2 (dec_digs q.den)
      have h2 := sval_mid es2
      rw [dec_val] at h2
      have e1 : (a ++ Lib.decDigits q.num.natAbs ++ [47]).length = a.length + (Lib.decDigits q.num.natAbs).length + 1 := by simp; omega
      rw [e1] at h1 h2
      have e2 : a.length + (Lib.decDigits q.num.natAbs).length + 1 + (Lib.decDigits q.den).length = (qs q).size := by rw [hsz]; simp; omega
      rw [e2] at h1 h2
      exact ⟨h1, fun _ => h2⟩
    · exact ⟨fun i h1 h2 => by rw [hsz] at h2; simp at h2; omega, fun h => by cases h⟩
  refine fbrief_go (qs q) a.length (a.length + (Lib.decDigits q.num.natAbs).length) mi fr w q.num q.den (by omega) h0 ?_ (dgAt_mid es hd) (by omega) ?_ hz2.1 (Lib.hid ⟨?_, ?_⟩)
  · rcases hmi with ⟨rfl, rfl, _⟩ | ⟨rfl, rfl, hn⟩
    · refine Or.inl ⟨rfl, rfl, ?_⟩
      rw [bytes_getElem _ 0 h0]; simp only [es]; rfl
    · refine Or.inr ⟨rfl, rfl, ?_⟩
      obtain ⟨_, h1, _⟩ := dgAt_mid es hd 0 (by simp) (by simp; omega)
      omega
  · rcases hfr with ⟨rfl, rfl, _⟩ | ⟨rfl, rfl, _⟩
    · refine Or.inl ⟨rfl, by rw [hsz]; simp, ?_⟩
      rw [bytes_getElem _ _ (by rw [hsz]; simp)]
      simp only [es]
      rw [List.getElem_append_right (by simp)]
      simp
    · exact Or.inr ⟨rfl, by rw [hsz]; simp⟩
  · rw [hsv]
    rcases hmi with ⟨rfl, rfl, hn⟩ | ⟨rfl, rfl, hn⟩ <;> simp <;> omega
  · rcases hfr with ⟨rfl, rfl, _⟩ | ⟨rfl, rfl, h1⟩
    · rw [hz2.2 rfl]; rfl
    · simp [h1]

theorem qs_small9 {q : Rat} (h : (qs q).size ≤ 9) : q.num.natAbs < 1000000000 ∧ q.den < 1000000000 := by
  rw [qs_size] at h
  have h1 : (Lib.decDigits q.num.natAbs).length ≤ 9 := by
    obtain ⟨mi, fr, a, z, e, _, _⟩ := ql_parts q
    rw [e] at h; simp at h; omega
  refine ⟨(dec_len9 _).1 h1, ?_⟩
  by_cases hd : q.den = 1
  · rw [hd]; decide
  · rw [ql_frac hd] at h; simp at h
    exact (dec_len9 _).1 (by omega)
end Go.Proofs.YtglppcmegocphaaGreatDoor

namespace Go.Proofs.YtglppcmegocphaaGreatDoor
open Go Go.RowKit
theorem qs_mk1 (n : Int) : qs (mkRat n 1) = zs n := by
  rw [Rat.mkRat_one]; unfold qs zs; rw [ql_one (by rfl)]; rfl

set_option maxRecDepth 100000 in
set_option maxHeartbeats 4000000 in
/-- klipperef02.lowest. -/
theorem flowest_c (n : Int) (d : Nat) (w : World) (g : Gd w) (hn : n.natAbs ≤ 4000000000000000000) (hd : d ≠ 0) (hd2 : d ≤ 4000000000000000000) :
    Calls Tryz.prog 101 #[.int .i64 n, .int .i64 d] w (Ret w (.string (qs (mkRat n d)))) := by
  have nb1 : -4000000000000000000 ≤ n := by omega
  have nb2 : n ≤ 4000000000000000000 := by omega
  have HN := Lib.hid hn; have HD := Lib.hid hd; have HD2 := Lib.hid hd2; have HG := Lib.hid g
  by_cases h1 : d = 1
  · subst h1
    have E := Lib.hid (qs_mk1 n)
    clear hn hd hd2 g
    go_enter Tryz.func101, Tryz.ntmps101
    go_wp2_with (go_at_call 130; refine (itoa_c n (by omega) (by omega) _ HG.out).mono ?_; rintro e w3 ⟨rfl, e3⟩)
    go_ret
    exact ⟨ret_qs E.out.symm, e3⟩
  · have h1' : ¬ (d : Int) = 1 := by omega
    clear h1
    by_cases hneg : n < 0
    · clear hn hd g
      go_enter Tryz.func101, Tryz.ntmps101
      go_wp2
      go_loopw [5, 6] (fun x y W => ∃ X Y : Int, x = .int .i64 X ∧ y = .int .i64 Y ∧ Int.gcd X Y = Int.gcd n d ∧ (0 ≤ X ∧ X ≤ 4000000000000000000) ∧ (0 ≤ Y ∧ Y ≤ 4000000000000000000) ∧ Ext w W)
        (fun _ y _ => (intOf y).natAbs)
      case atStart => exact ⟨-n, d, by first | rfl | go_num, rfl, Int.neg_gcd, ⟨by omega, by omega⟩, ⟨by omega, by omega⟩, Ext.refl _⟩
      case round =>
        obtain ⟨X, Y, rfl, rfl, hg, ⟨x1, x2⟩, ⟨y1, y2⟩, hx⟩ := hrel
        have HGC := Lib.hid hg
        clear hg
        by_cases h0 : Y = 0
        · subst h0
          have hf : Int.gcd n d = X.natAbs := by rw [← HGC.out, Int.gcd_zero]
          obtain ⟨G, hG⟩ : ∃ G : Nat, G = X.natAbs := ⟨_, rfl⟩
          rw [← hG] at hf
          have hG0 : G ≠ 0 := by
            intro e; rw [e] at hf
            exact absurd hf (Int.gcd_ne_zero_right (by have := HD.out; omega))
          obtain rfl : X = (G : Int) := by omega
          have hdv : (G : Int) ∣ n := by rw [← hf]; exact Int.gcd_dvd_left _ _
          have eq := ql_mkRat (n := n) (d := d) (g := G) HD.out hf
          have hGd : G ≤ d := by rw [← hf]; have := Int.gcd_le_natAbs_right n (b := (d : Int)) (by have := HD.out; omega); simpa using this
          have HF := Lib.hid hf; have HEQ := Lib.hid eq; have HDV := Lib.hid hdv
          obtain ⟨N', hN'⟩ : ∃ N', N' = n.tdiv G := ⟨_, rfl⟩
          obtain ⟨D', hD'⟩ : ∃ D', D' = d / G := ⟨_, rfl⟩
          have hNa : N'.natAbs ≤ 4000000000000000000 := by
            rw [hN', Int.natAbs_tdiv]
            exact Nat.le_trans (Nat.div_le_self _ _) HN.out
          have hDa : D' ≤ 4000000000000000000 := by rw [hD']; exact Nat.le_trans (Nat.div_le_self _ _) HD2.out
          have n1 : -4000000000000000000 ≤ N' := by omega
          have n2 : N' ≤ 4000000000000000000 := by omega
          have d2 : (D' : Int) ≤ 4000000000000000000 := by omega
          have q1 : IntKind.i64.wrap (n.tdiv G) = N' := by rw [← hN']; exact IntWalk.i64_in _ (by omega)
          have q2 : (d : Int) / (G : Int) = (D' : Int) := by rw [hD']; simp
          have q3 : (d : Int).tdiv (G : Int) = (D' : Int) := by rw [hD']; rfl
          have q4 : IntKind.i64.wrap (D' : Int) = (D' : Int) := IntWalk.i64_in _ (by omega)
          rw [← hN', ← hD'] at HEQ
          have HND := Lib.hid (And.intro hN' hD')
          have gpos : 1 ≤ (G : Int) := by omega
          have hne : ¬ (G : Int) = 0 := by omega
          have hne2 : ¬ G = 0 := hG0
          clear hf eq hdv hG hN' hD' hNa hDa hG0 hGd
          by_cases h1 : D' = 1
          · subst h1
            have e1 : (⟨(joinl N' 1).toArray⟩ : ByteArray) = zs N' := rfl
            have E1 := Lib.hid e1
            clear e1
            go_wp2
            go_region
            all_goals
              go_wp2_with (go_at_call 130; refine (itoa_c N' (by omega) (by omega) _ (HG.out.ext hx.drew)).mono ?_; rintro e w3 ⟨rfl, e3⟩)
              go_ret
              exact ⟨ret_qs (by unfold qs; rw [HEQ.out]; rfl), hx.drew.trans e3⟩
          · have h1' : ¬ (D' : Int) = 1 := by omega
            have e1 := join_bytes N' D'
            have s1 : (zs N').size ≤ 100 := by
              rw [zs_size]; have := zl_len_le (n := N') (k := 19) (by decide) (by omega); omega
            have s2 : (zs (D' : Int)).size ≤ 100 := by
              rw [zs_size]; have := zl_len_le (n := (D' : Int)) (k := 19) (by decide) (by omega); omega
            have e2 : qs (mkRat n d) = zs N' ++ (⟨#[47]⟩ : ByteArray) ++ zs (D' : Int) := by
              rw [e1]; unfold qs; rw [HEQ.out]; unfold joinl; rw [if_neg h1]
            have E2 := Lib.hid e2
            clear e1 e2 h1
            go_wp2
            go_region
            all_goals
              go_wp2_with (first
                | (go_at_call 130; ((with_reducible refine (itoa_c N' (by omega) (by omega) wr.drew (HG.out.ext hx.drew)).mono ?_); rintro e w3 ⟨rfl, e3⟩))
                | (go_at_call 130; refine (itoa_c (D' : Int) (by omega) (by omega) _ (HG.out.ext (hx.drew.trans e3))).mono ?_; rintro e w4 ⟨rfl, e4⟩))
              go_ret
              exact ⟨ret_qs E2.out.symm, (hx.drew.trans e3).trans e4⟩
        · have hs := gcd_step X Y
          have hm := Int.natAbs_tmod X Y
          rw [Int.tmod_eq_emod_of_nonneg x1] at hs hm
          have hlt := Nat.mod_lt X.natAbs (show 0 < Y.natAbs by omega)
          have hnn := Int.emod_nonneg X h0
          have HS := Lib.hid hs; have HL := Lib.hid (show (X % Y).natAbs < Y.natAbs by omega); have HNN := Lib.hid hnn
          clear hs hm hlt hnn
          go_wp2
          go_region
          all_goals
            go_roundw
            case rel => (repeat apply Exists.intro); exact ⟨⟨Y, X % Y, rfl, rfl, by rw [HS.out, HGC.out], ⟨y1, y2⟩, ⟨HNN.out, by have := HL.out; have := HNN.out; omega⟩, hx.drew⟩, rfl⟩
            case measure => have := HL.out; simpa [intOf] using this
    · clear hn hd g
      go_enter Tryz.func101, Tryz.ntmps101
      go_wp2
      go_loopw [5, 6] (fun x y W => ∃ X Y : Int, x = .int .i64 X ∧ y = .int .i64 Y ∧ Int.gcd X Y = Int.gcd n d ∧ (0 ≤ X ∧ X ≤ 4000000000000000000) ∧ (0 ≤ Y ∧ Y ≤ 4000000000000000000) ∧ Ext w W)
        (fun _ y _ => (intOf y).natAbs)
      case atStart => exact ⟨n, d, by first | rfl | go_num, rfl, rfl, ⟨by omega, by omega⟩, ⟨by omega, by omega⟩, Ext.refl _⟩
      case round =>
        obtain ⟨X, Y, rfl, rfl, hg, ⟨x1, x2⟩, ⟨y1, y2⟩, hx⟩ := hrel
        have HGC := Lib.hid hg
        clear hg
        by_cases h0 : Y = 0
        · subst h0
          have hf : Int.gcd n d = X.natAbs := by rw [← HGC.out, Int.gcd_zero]
          obtain ⟨G, hG⟩ : ∃ G : Nat, G = X.natAbs := ⟨_, rfl⟩
          rw [← hG] at hf
          have hG0 : G ≠ 0 := by
            intro e; rw [e] at hf
            exact absurd hf (Int.gcd_ne_zero_right (by have := HD.out; omega))
          obtain rfl : X = (G : Int) := by omega
          have hdv : (G : Int) ∣ n := by rw [← hf]; exact Int.gcd_dvd_left _ _
          have eq := ql_mkRat (n := n) (d := d) (g := G) HD.out hf
          have hGd : G ≤ d := by rw [← hf]; have := Int.gcd_le_natAbs_right n (b := (d : Int)) (by have := HD.out; omega); simpa using this
          have HF := Lib.hid hf; have HEQ := Lib.hid eq; have HDV := Lib.hid hdv
          obtain ⟨N', hN'⟩ : ∃ N', N' = n.tdiv G := ⟨_, rfl⟩
          obtain ⟨D', hD'⟩ : ∃ D', D' = d / G := ⟨_, rfl⟩
          have hNa : N'.natAbs ≤ 4000000000000000000 := by
            rw [hN', Int.natAbs_tdiv]
            exact Nat.le_trans (Nat.div_le_self _ _) HN.out
          have hDa : D' ≤ 4000000000000000000 := by rw [hD']; exact Nat.le_trans (Nat.div_le_self _ _) HD2.out
          have n1 : -4000000000000000000 ≤ N' := by omega
          have n2 : N' ≤ 4000000000000000000 := by omega
          have d2 : (D' : Int) ≤ 4000000000000000000 := by omega
          have q1 : IntKind.i64.wrap (n.tdiv G) = N' := by rw [← hN']; exact IntWalk.i64_in _ (by omega)
          have q2 : (d : Int) / (G : Int) = (D' : Int) := by rw [hD']; simp
          have q3 : (d : Int).tdiv (G : Int) = (D' : Int) := by rw [hD']; rfl
          have q4 : IntKind.i64.wrap (D' : Int) = (D' : Int) := IntWalk.i64_in _ (by omega)
          rw [← hN', ← hD'] at HEQ
          have HND := Lib.hid (And.intro hN' hD')
          have gpos : 1 ≤ (G : Int) := by omega
          have hne : ¬ (G : Int) = 0 := by omega
          have hne2 : ¬ G = 0 := hG0
          clear hf eq hdv hG hN' hD' hNa hDa hG0 hGd
          by_cases h1 : D' = 1
          · subst h1
            have e1 : (⟨(joinl N' 1).toArray⟩ : ByteArray) = zs N' := rfl
            have E1 := Lib.hid e1
            clear e1
            go_wp2
            go_region
            all_goals
              go_wp2_with (go_at_call 130; refine (itoa_c N' (by omega) (by omega) _ (HG.out.ext hx.drew)).mono ?_; rintro e w3 ⟨rfl, e3⟩)
              go_ret
              exact ⟨ret_qs (by unfold qs; rw [HEQ.out]; rfl), hx.drew.trans e3⟩
          · have h1' : ¬ (D' : Int) = 1 := by omega
            have e1 := join_bytes N' D'
            have s1 : (zs N').size ≤ 100 := by
              rw [zs_size]; have := zl_len_le (n := N') (k := 19) (by decide) (by omega); omega
            have s2 : (zs (D' : Int)).size ≤ 100 := by
              rw [zs_size]; have := zl_len_le (n := (D' : Int)) (k := 19) (by decide) (by omega); omega
            have e2 : qs (mkRat n d) = zs N' ++ (⟨#[47]⟩ : ByteArray) ++ zs (D' : Int) := by
              rw [e1]; unfold qs; rw [HEQ.out]; unfold joinl; rw [if_neg h1]
            have E2 := Lib.hid e2
            clear e1 e2 h1
            go_wp2
            go_region
            all_goals
              go_wp2_with (first
                | (go_at_call 130; ((with_reducible refine (itoa_c N' (by omega) (by omega) wr.drew (HG.out.ext hx.drew)).mono ?_); rintro e w3 ⟨rfl, e3⟩))
                | (go_at_call 130; refine (itoa_c (D' : Int) (by omega) (by omega) _ (HG.out.ext (hx.drew.trans e3))).mono ?_; rintro e w4 ⟨rfl, e4⟩))
              go_ret
              exact ⟨ret_qs E2.out.symm, (hx.drew.trans e3).trans e4⟩
        · have hs := gcd_step X Y
          have hm := Int.natAbs_tmod X Y
          rw [Int.tmod_eq_emod_of_nonneg x1] at hs hm
          have hlt := Nat.mod_lt X.natAbs (show 0 < Y.natAbs by omega)
          have hnn := Int.emod_nonneg X h0
          have HS := Lib.hid hs; have HL := Lib.hid (show (X % Y).natAbs < Y.natAbs by omega); have HNN := Lib.hid hnn
          clear hs hm hlt hnn
          go_wp2
          go_region
          all_goals
            go_roundw
            case rel => (repeat apply Exists.intro); exact ⟨⟨Y, X % Y, rfl, rfl, by rw [HS.out, HGC.out], ⟨y1, y2⟩, ⟨HNN.out, by have := HL.out; have := HNN.out; omega⟩, hx.drew⟩, rfl⟩
            case measure => have := HL.out; simpa [intOf] using this

set_option maxRecDepth 100000 in
set_option maxHeartbeats 4000000 in
theorem fsmall_pos (n : Int) (d : Nat) (w : World) (g : Gd w) (hn : n.natAbs < 1000000000) (hd : d ≠ 0) (hdb : d < 1000000000) :
    Calls Tryz.prog 126 #[.string (zs n), .string (zs (d : Int))] w (Ret w (.string (qs (mkRat n d)))) := by
  have L1 : Hid ((zl n).length ≤ 18) := Lib.hid (by have := zl_len_le (n := n) (k := 9) (by decide) (by omega); omega)
  have L2 : Hid ((zl (d : Int)).length ≤ 18) := Lib.hid (by have := zl_len_le (n := (d : Int)) (k := 9) (by decide) (by omega); omega)
  have nb1 : -1000000000 ≤ n := by omega
  have nb2 : n ≤ 1000000000 := by omega
  have db1 : (0 : Int) < d := by omega
  have db2 : (d : Int) ≤ 1000000000 := by omega
  have HN : Hid (n.natAbs ≤ 4000000000000000000) := Lib.hid (by omega)
  have HD := Lib.hid hd; have HD2 : Hid (d ≤ 4000000000000000000) := Lib.hid (by omega)
  have HG := Lib.hid g
  by_cases hneg : n < 0
  · clear hn hd hdb g
    go_enter Tryz.func126, Tryz.ntmps126
    go_wp2_with (first
      | (go_at_call 153; ((with_reducible refine (atoi_c n L1.out w).mono ?_); rintro e w1 ⟨rfl, e1⟩))
      | (go_at_call 153; refine (atoi_c (d : Int) L2.out _).mono ?_; rintro e w2 ⟨rfl, e2⟩; have e12 := Ext.trans e1 e2; replace HG := Lib.hid (HG.out.ext e12)))
    go_loopw [9, 10] (fun x y W => ∃ X Y : Int, x = .int .i64 X ∧ y = .int .i64 Y ∧ Int.gcd X Y = Int.gcd n d ∧ (0 ≤ X ∧ X ≤ 4000000000000000000) ∧ (0 ≤ Y ∧ Y ≤ 4000000000000000000) ∧ Ext w2 W)
      (fun _ y _ => (intOf y).natAbs)
    case atStart => exact ⟨-n, d, by first | rfl | go_num, rfl, Int.neg_gcd, ⟨by omega, by omega⟩, ⟨by omega, by omega⟩, Ext.refl _⟩
    case round =>
      obtain ⟨X, Y, rfl, rfl, hg, ⟨x1, x2⟩, ⟨y1, y2⟩, hx⟩ := hrel
      have HGC := Lib.hid hg
      clear hg
      by_cases h0 : Y = 0
      · subst h0
        have hf : Int.gcd n d = X.natAbs := by rw [← HGC.out, Int.gcd_zero]
        obtain ⟨G, hG⟩ : ∃ G : Nat, G = X.natAbs := ⟨_, rfl⟩
        rw [← hG] at hf
        have hG0 : G ≠ 0 := by
          intro e; rw [e] at hf
          exact absurd hf (Int.gcd_ne_zero_right (by have := HD.out; omega))
        obtain rfl : X = (G : Int) := by omega
        have hdv : (G : Int) ∣ n := by rw [← hf]; exact Int.gcd_dvd_left _ _
        have eq := ql_mkRat (n := n) (d := d) (g := G) HD.out hf
        have hGd : G ≤ d := by rw [← hf]; have := Int.gcd_le_natAbs_right n (b := (d : Int)) (by have := HD.out; omega); simpa using this
        have HF := Lib.hid hf; have HEQ := Lib.hid eq; have HDV := Lib.hid hdv
        obtain ⟨N', hN'⟩ : ∃ N', N' = n.tdiv G := ⟨_, rfl⟩
        obtain ⟨D', hD'⟩ : ∃ D', D' = d / G := ⟨_, rfl⟩
        have hNa : N'.natAbs ≤ 4000000000000000000 := by
          rw [hN', Int.natAbs_tdiv]
          exact Nat.le_trans (Nat.div_le_self _ _) HN.out
        have hDa : D' ≤ 4000000000000000000 := by rw [hD']; exact Nat.le_trans (Nat.div_le_self _ _) HD2.out
        have n1 : -4000000000000000000 ≤ N' := by omega
        have n2 : N' ≤ 4000000000000000000 := by omega
        have d2 : (D' : Int) ≤ 4000000000000000000 := by omega
        have q1 : IntKind.i64.wrap (n.tdiv G) = N' := by rw [← hN']; exact IntWalk.i64_in _ (by omega)
        have q2 : (d : Int) / (G : Int) = (D' : Int) := by rw [hD']; simp
        have q3 : (d : Int).tdiv (G : Int) = (D' : Int) := by rw [hD']; rfl
        have q4 : IntKind.i64.wrap (D' : Int) = (D' : Int) := IntWalk.i64_in _ (by omega)
        rw [← hN', ← hD'] at HEQ
        have HND := Lib.hid (And.intro hN' hD')
        have gpos : 1 ≤ (G : Int) := by omega
        have hne : ¬ (G : Int) = 0 := by omega
        have hne2 : ¬ G = 0 := hG0
        clear hf eq hdv hG hN' hD' hNa hDa hG0 hGd
        by_cases h1 : D' = 1
        · subst h1
          have e1 : (⟨(joinl N' 1).toArray⟩ : ByteArray) = zs N' := rfl
          have E1 := Lib.hid e1
          clear e1
          go_wp2
          go_region
          all_goals
            go_wp2_with (go_at_call 130; refine (itoa_c N' (by omega) (by omega) _ (HG.out.ext hx.drew)).mono ?_; rintro e w3 ⟨rfl, e3⟩)
            go_ret
            exact ⟨ret_qs (by unfold qs; rw [HEQ.out]; rfl), e12.trans (hx.drew.trans e3)⟩
        · have h1' : ¬ (D' : Int) = 1 := by omega
          have e1 := join_bytes N' D'
          have s1 : (zs N').size ≤ 100 := by
            rw [zs_size]; have := zl_len_le (n := N') (k := 19) (by decide) (by omega); omega
          have s2 : (zs (D' : Int)).size ≤ 100 := by
            rw [zs_size]; have := zl_len_le (n := (D' : Int)) (k := 19) (by decide) (by omega); omega
          have e2 : qs (mkRat n d) = zs N' ++ (⟨#[47]⟩ : ByteArray) ++ zs (D' : Int) := by
            rw [e1]; unfold qs; rw [HEQ.out]; unfold joinl; rw [if_neg h1]
          have E2 := Lib.hid e2
          clear e1 e2 h1
          go_wp2
          go_region
          all_goals
            go_wp2_with (first
              | (go_at_call 130; ((with_reducible refine (itoa_c N' (by omega) (by omega) wr.drew (HG.out.ext hx.drew)).mono ?_); rintro e w3 ⟨rfl, e3⟩))
              | (go_at_call 130; refine (itoa_c (D' : Int) (by omega) (by omega) _ (HG.out.ext (hx.drew.trans e3))).mono ?_; rintro e w4 ⟨rfl, e4⟩))
            go_ret
            exact ⟨ret_qs E2.out.symm, e12.trans ((hx.drew.trans e3).trans e4)⟩
      · have hs := gcd_step X Y
        have hm := Int.natAbs_tmod X Y
        rw [Int.tmod_eq_emod_of_nonneg x1] at hs hm
        have hlt := Nat.mod_lt X.natAbs (show 0 < Y.natAbs by omega)
        have hnn := Int.emod_nonneg X h0
        have HS := Lib.hid hs; have HL := Lib.hid (show (X % Y).natAbs < Y.natAbs by omega); have HNN := Lib.hid hnn
        clear hs hm hlt hnn
        go_wp2
        go_region
        all_goals
          go_roundw
          case rel => (repeat apply Exists.intro); exact ⟨⟨Y, X % Y, rfl, rfl, by rw [HS.out, HGC.out], ⟨y1, y2⟩, ⟨HNN.out, by have := HL.out; have := HNN.out; omega⟩, hx.drew⟩, rfl⟩
          case measure => have := HL.out; simpa [intOf] using this
  · clear hn hd hdb g
    go_enter Tryz.func126, Tryz.ntmps126
    go_wp2_with (first
      | (go_at_call 153; ((with_reducible refine (atoi_c n L1.out w).mono ?_); rintro e w1 ⟨rfl, e1⟩))
      | (go_at_call 153; refine (atoi_c (d : Int) L2.out _).mono ?_; rintro e w2 ⟨rfl, e2⟩; have e12 := Ext.trans e1 e2; replace HG := Lib.hid (HG.out.ext e12)))
    go_loopw [9, 10] (fun x y W => ∃ X Y : Int, x = .int .i64 X ∧ y = .int .i64 Y ∧ Int.gcd X Y = Int.gcd n d ∧ (0 ≤ X ∧ X ≤ 4000000000000000000) ∧ (0 ≤ Y ∧ Y ≤ 4000000000000000000) ∧ Ext w2 W)
      (fun _ y _ => (intOf y).natAbs)
    case atStart => exact ⟨n, d, by first | rfl | go_num, rfl, rfl, ⟨by omega, by omega⟩, ⟨by omega, by omega⟩, Ext.refl _⟩
    case round =>
      obtain ⟨X, Y, rfl, rfl, hg, ⟨x1, x2⟩, ⟨y1, y2⟩, hx⟩ := hrel
      have HGC := Lib.hid hg
      clear hg
      by_cases h0 : Y = 0
      · subst h0
        have hf : Int.gcd n d = X.natAbs := by rw [← HGC.out, Int.gcd_zero]
        obtain ⟨G, hG⟩ : ∃ G : Nat, G = X.natAbs := ⟨_, rfl⟩
        rw [← hG] at hf
        have hG0 : G ≠ 0 := by
          intro e; rw [e] at hf
          exact absurd hf (Int.gcd_ne_zero_right (by have := HD.out; omega))
        obtain rfl : X = (G : Int) := by omega
        have hdv : (G : Int) ∣ n := by rw [← hf]; exact Int.gcd_dvd_left _ _
        have eq := ql_mkRat (n := n) (d := d) (g := G) HD.out hf
        have hGd : G ≤ d := by rw [← hf]; have := Int.gcd_le_natAbs_right n (b := (d : Int)) (by have := HD.out; omega); simpa using this
        have HF := Lib.hid hf; have HEQ := Lib.hid eq; have HDV := Lib.hid hdv
        obtain ⟨N', hN'⟩ : ∃ N', N' = n.tdiv G := ⟨_, rfl⟩
        obtain ⟨D', hD'⟩ : ∃ D', D' = d / G := ⟨_, rfl⟩
        have hNa : N'.natAbs ≤ 4000000000000000000 := by
          rw [hN', Int.natAbs_tdiv]
          exact Nat.le_trans (Nat.div_le_self _ _) HN.out
        have hDa : D' ≤ 4000000000000000000 := by rw [hD']; exact Nat.le_trans (Nat.div_le_self _ _) HD2.out
        have n1 : -4000000000000000000 ≤ N' := by omega
        have n2 : N' ≤ 4000000000000000000 := by omega
        have d2 : (D' : Int) ≤ 4000000000000000000 := by omega
        have q1 : IntKind.i64.wrap (n.tdiv G) = N' := by rw [← hN']; exact IntWalk.i64_in _ (by omega)
        have q2 : (d : Int) / (G : Int) = (D' : Int) := by rw [hD']; simp
        have q3 : (d : Int).tdiv (G : Int) = (D' : Int) := by rw [hD']; rfl
        have q4 : IntKind.i64.wrap (D' : Int) = (D' : Int) := IntWalk.i64_in _ (by omega)
        rw [← hN', ← hD'] at HEQ
        have HND := Lib.hid (And.intro hN' hD')
        have gpos : 1 ≤ (G : Int) := by omega
        have hne : ¬ (G : Int) = 0 := by omega
        have hne2 : ¬ G = 0 := hG0
        clear hf eq hdv hG hN' hD' hNa hDa hG0 hGd
        by_cases h1 : D' = 1
        · subst h1
          have e1 : (⟨(joinl N' 1).toArray⟩ : ByteArray) = zs N' := rfl
          have E1 := Lib.hid e1
          clear e1
          go_wp2
          go_region
          all_goals
            go_wp2_with (go_at_call 130; refine (itoa_c N' (by omega) (by omega) _ (HG.out.ext hx.drew)).mono ?_; rintro e w3 ⟨rfl, e3⟩)
            go_ret
            exact ⟨ret_qs (by unfold qs; rw [HEQ.out]; rfl), e12.trans (hx.drew.trans e3)⟩
        · have h1' : ¬ (D' : Int) = 1 := by omega
          have e1 := join_bytes N' D'
          have s1 : (zs N').size ≤ 100 := by
            rw [zs_size]; have := zl_len_le (n := N') (k := 19) (by decide) (by omega); omega
          have s2 : (zs (D' : Int)).size ≤ 100 := by
            rw [zs_size]; have := zl_len_le (n := (D' : Int)) (k := 19) (by decide) (by omega); omega
          have e2 : qs (mkRat n d) = zs N' ++ (⟨#[47]⟩ : ByteArray) ++ zs (D' : Int) := by
            rw [e1]; unfold qs; rw [HEQ.out]; unfold joinl; rw [if_neg h1]
          have E2 := Lib.hid e2
          clear e1 e2 h1
          go_wp2
          go_region
          all_goals
            go_wp2_with (first
              | (go_at_call 130; ((with_reducible refine (itoa_c N' (by omega) (by omega) wr.drew (HG.out.ext hx.drew)).mono ?_); rintro e w3 ⟨rfl, e3⟩))
              | (go_at_call 130; refine (itoa_c (D' : Int) (by omega) (by omega) _ (HG.out.ext (hx.drew.trans e3))).mono ?_; rintro e w4 ⟨rfl, e4⟩))
            go_ret
            exact ⟨ret_qs E2.out.symm, e12.trans ((hx.drew.trans e3).trans e4)⟩
      · have hs := gcd_step X Y
        have hm := Int.natAbs_tmod X Y
        rw [Int.tmod_eq_emod_of_nonneg x1] at hs hm
        have hlt := Nat.mod_lt X.natAbs (show 0 < Y.natAbs by omega)
        have hnn := Int.emod_nonneg X h0
        have HS := Lib.hid hs; have HL := Lib.hid (show (X % Y).natAbs < Y.natAbs by omega); have HNN := Lib.hid hnn
        clear hs hm hlt hnn
        go_wp2
        go_region
        all_goals
          go_roundw
          case rel => (repeat apply Exists.intro); exact ⟨⟨Y, X % Y, rfl, rfl, by rw [HS.out, HGC.out], ⟨y1, y2⟩, ⟨HNN.out, by have := HL.out; have := HNN.out; omega⟩, hx.drew⟩, rfl⟩
          case measure => have := HL.out; simpa [intOf] using this

end Go.Proofs.YtglppcmegocphaaGreatDoor

namespace Go.Proofs.YtglppcmegocphaaGreatDoor
open Go Go.RowKit
theorem idx_none (s : ByteArray) (w : World) (h : (47 : UInt8) ∉ s.data.toList) : Calls Tryz.prog 108 #[.string s, .int .u8 47] w fun e w' => e = .returned (.int .i64 (-1)) ∧ w = w' :=
  (Tryz.strings_IndexByte s 47 w).mono fun _ _ ⟨e, h2⟩ => ⟨by rw [e, ← indexByte_none h]; rfl, h2.symm⟩

theorem idx_at (s : ByteArray) (x y : List UInt8) (w : World) (hs : s.data.toList = x ++ 47 :: y) (h : (47 : UInt8) ∉ x) : Calls Tryz.prog 108 #[.string s, .int .u8 47] w fun e w' => e = .returned (.int .i64 x.length) ∧ w = w' :=
  (Tryz.strings_IndexByte s 47 w).mono fun _ _ ⟨e, h2⟩ => ⟨by rw [e, ← indexByte_at (y := y) h, ← hs]; rfl, h2.symm⟩

set_option maxRecDepth 100000 in
theorem fcut_none (s : ByteArray) (w : World) (h : (47 : UInt8) ∉ s.data.toList) : Calls Tryz.prog 78 #[.string s] w fun e w' => e = .returned (.tuple #[.string s, .string ⟨#[49]⟩]) ∧ Ext w w' := by
  have H := Lib.hid h
  clear h
  go_enter Tryz.func78, Tryz.ntmps78
  go_wp2_with (go_at_call 108; refine (idx_none s _ H.out).mono ?_; rintro e w' ⟨rfl, rfl⟩)
  go_ret2
  exact ⟨rfl, Ext.refl _⟩

set_option maxRecDepth 100000 in
theorem fcut_at (s : ByteArray) (x y : List UInt8) (w : World) (hs : s.data.toList = x ++ 47 :: y) (h : (47 : UInt8) ∉ x) (hl : s.size ≤ 1000000) :
    Calls Tryz.prog 78 #[.string s] w fun e w' => e = .returned (.tuple #[.string ⟨x.toArray⟩, .string ⟨y.toArray⟩]) ∧ Ext w w' := by
  have hi := fun w => idx_at s x y w hs h
  have hsz : x.length + 1 ≤ s.size := by
    have : s.size = s.data.toList.length := by rw [Array.length_toList]; rfl
    rw [this, hs]; simp
  have hcl := cut_left x y
  have hcr := cut_right x y
  rw [show (⟨(x ++ 47 :: y).toArray⟩ : ByteArray) = s by rw [← hs]] at hcl hcr
  obtain ⟨n, hn⟩ : ∃ n, n = x.length := ⟨_, rfl⟩
  rw [← hn] at hi hsz hcl hcr
  have HI := Lib.hid hi; have HL := Lib.hid hcl; have HR := Lib.hid hcr
  clear hi h hs hn hcl hcr
  have hsz' : (n : Int) + 1 ≤ (s.size : Int) := by omega
  have hsz2 : (n : Int) ≤ (s.size : Int) := by omega
  go_enter Tryz.func78, Tryz.ntmps78
  go_wp2_with (go_at_call 108; refine (HI.out _).mono ?_; rintro e w' ⟨rfl, rfl⟩)
  go_region
  all_goals
    go_wp2
    go_ret2
    exact ⟨by rw [← HL.out, ← HR.out]; rfl, (Ext.refl _).drew⟩

/-- klipperef02.Parts at a number. -/
theorem fqparts_c (q : Rat) {k : Nat} (w : World) (hq : QB k q) (hk : k ≤ 9000) :
    Calls Tryz.prog 78 #[.string (qs q)] w (Ret w (.tuple #[.string (zs q.num), .string (zs q.den)])) := by
  have hl := hq.len hk
  by_cases h : q.den = 1
  · have e1 : qs q = zs q.num := by unfold qs zs; rw [ql_one h]
    have e2 : zs (q.den : Int) = ⟨#[49]⟩ := by rw [h]; exact zs_one
    rw [e1, e2]
    exact (fcut_none _ w (by rw [zs_list]; exact zl_no_slash _)).mono fun _ _ ⟨h1, h2⟩ => ⟨h1, h2⟩
  · have e2 : zs (q.den : Int) = ⟨(Lib.decDigits q.den).toArray⟩ := by unfold zs; rw [zl_nat]
    have e3 : zs q.num = ⟨(zl q.num).toArray⟩ := rfl
    rw [e2, e3]
    exact (fcut_at _ _ _ w (by rw [qs_list, ql_frac h]) (zl_no_slash _) hl).mono fun _ _ ⟨h1, h2⟩ => ⟨h1, h2⟩

theorem zs9 {n : Int} (h : (zs n).size ≤ 9) : n.natAbs < 1000000000 := by
  rw [zs_size] at h
  apply (dec_len9 _).1
  rcases Int.lt_or_le n 0 with h1 | h1
  · rw [zl_neg h1] at h; simp at h; omega
  · rw [zl_pos h1] at h; exact h

set_option maxRecDepth 100000 in
set_option maxHeartbeats 1000000 in
theorem ffrac_small (n : Int) (d : Nat) (w : World) (g : Gd w) (hd : d ≠ 0) (h1 : (zs n).size ≤ 9) (h2 : (zs (d : Int)).size ≤ 9) :
    Calls Tryz.prog 81 #[.string (zs n), .string (zs (d : Int))] w (Ret w (.string (qs (mkRat n d)))) := by
  have hn := zs9 h1
  have hdb := zs9 h2
  rw [Int.natAbs_natCast] at hdb
  have HG := Lib.hid g; have HD := Lib.hid hd; have HN := Lib.hid hn; have HDB := Lib.hid hdb
  have h1' : ((zs n).size : Int) ≤ 9 := by omega
  have h2' : ((zs (d : Int)).size : Int) ≤ 9 := by omega
  clear hn hdb g hd
  go_enter Tryz.func81, Tryz.ntmps81
  go_wp2_with (go_at_call 126; refine (fsmall_pos n d _ HG.out HN.out HD.out HDB.out).mono ?_; rintro e w1 ⟨rfl, e1⟩)
  go_ret
  exact ⟨rfl, e1⟩

set_option maxRecDepth 100000 in
set_option maxHeartbeats 2000000 in
theorem ffrac_big (n : Int) (d : Nat) {k m : Nat} (w : World) (g : Gd w) (hd : d ≠ 0) (hn : IB k n) (hdb : IB m (d : Int)) (hk : k ≤ 8000) (hm : m ≤ 8000) (h : ¬ ((zs n).size ≤ 9 ∧ (zs (d : Int)).size ≤ 9)) :
    Calls Tryz.prog 81 #[.string (zs n), .string (zs (d : Int))] w (Ret w (.string (qs (mkRat n d)))) := by
  obtain ⟨f1, f2, f3, f4, f5, f6⟩ := low_facts n d hd hn hdb
  have hs : (d : Int).sign = 1 := Int.sign_eq_one_of_pos (by omega)
  obtain ⟨G, hG⟩ : ∃ G : Nat, G = Int.gcd n d := ⟨_, rfl⟩
  rw [← hG] at f1 f2 f3 f4 f5 f6
  rw [← f6]
  have HF1 := Lib.hid f1; have HF2 := Lib.hid f2; have HF3 := Lib.hid f3; have HF4 := Lib.hid f4; have HF5 := Lib.hid f5; have HG := Lib.hid hG; have HN := Lib.hid hn; have HD := Lib.hid hdb; have HS := Lib.hid hs; have HGD := Lib.hid g
  obtain ⟨D', hD'⟩ : ∃ D', D' = d / G := ⟨_, rfl⟩
  rw [← hD'] at HF3 HF4 f3
  rw [← hD']
  have l1 := zs_size_le f2 (by omega)
  have l2 := zs_size_le f3 (by omega)
  have hgo : ∀ v : ByteArray, Hid (v = ⟨(joinl (n / (G : Int)) D').toArray⟩) → ((D' = 1 → v = zs (n / (G : Int))) ∧ (D' ≠ 1 → v = (zs (n / (G : Int)) ++ (⟨#[47]⟩ : ByteArray)) ++ zs (D' : Int))) := by
    intro v hv
    refine ⟨fun h => ?_, fun h => ?_⟩
    · rw [hv.out]; unfold joinl; rw [if_pos h]; rfl
    · rw [hv.out, join_bytes]; unfold joinl; rw [if_neg h]
  have HV := Lib.hid (hgo _ (Lib.hid rfl))
  have hlen : (zs n).size ≤ 9 → ¬ (zs (d : Int)).size ≤ 9 := fun h1 h2 => h ⟨h1, h2⟩
  by_cases c1 : (zs n).size ≤ 9
  · have c2 := hlen c1
    have c1' : ((zs n).size : Int) ≤ 9 := by omega
    have c2' : ¬ ((zs (d : Int)).size : Int) ≤ 9 := by omega
    by_cases h1 : D' = 1
    · have g1 := zs_is1 (n := (D' : Int)) (by omega)
      have E := Lib.hid (HV.out.1 h1)
      clear f1 f2 f3 f4 f5 f6 hG hn hdb hs g h1 hd h hD' hgo hlen HV c1 c2
      go_enter Tryz.func81, Tryz.ntmps81
      go_wp2_with (first
        | (go_at_call 127; refine (fsign_c _ _).mono ?_; rw [HS.out]; rintro e w0 ⟨rfl, e0⟩)
        | (go_at_call 110; refine (fgcd_c _ _ _ (HGD.out.ext e0) HN.out HD.out (by omega) (by omega)).mono ?_; rw [← HG.out]; rintro e w1 ⟨rfl, e1⟩)
        | (go_at_call 129; ((with_reducible refine (fdivmod_c n (G : Int) w1 (HGD.out.ext (e0.trans e1)) HN.out HF1.out (by omega) (by omega) HF5.out).mono ?_); rintro e w2 ⟨rfl, e2⟩))
        | (go_at_call 129; refine (fdivmod_c (d : Int) (G : Int) _ (HGD.out.ext ((e0.trans e1).trans e2)) HD.out HF1.out (by omega) (by omega) HF5.out).mono ?_; rw [HF4.out]; rintro e w3 ⟨rfl, e3⟩))
      go_ret
      exact ⟨ret_qs E.out.symm, ((e0.trans e1).trans e2).trans e3⟩
    · have g1 := zs_not1 (n := (D' : Int)) (by omega)
      have E := Lib.hid (HV.out.2 h1)
      clear f1 f2 f3 f4 f5 f6 hG hn hdb hs g h1 hd h hD' hgo hlen HV c1 c2
      go_enter Tryz.func81, Tryz.ntmps81
      go_wp2_with (first
        | (go_at_call 127; refine (fsign_c _ _).mono ?_; rw [HS.out]; rintro e w0 ⟨rfl, e0⟩)
        | (go_at_call 110; refine (fgcd_c _ _ _ (HGD.out.ext e0) HN.out HD.out (by omega) (by omega)).mono ?_; rw [← HG.out]; rintro e w1 ⟨rfl, e1⟩)
        | (go_at_call 129; ((with_reducible refine (fdivmod_c n (G : Int) w1 (HGD.out.ext (e0.trans e1)) HN.out HF1.out (by omega) (by omega) HF5.out).mono ?_); rintro e w2 ⟨rfl, e2⟩))
        | (go_at_call 129; refine (fdivmod_c (d : Int) (G : Int) _ (HGD.out.ext ((e0.trans e1).trans e2)) HD.out HF1.out (by omega) (by omega) HF5.out).mono ?_; rw [HF4.out]; rintro e w3 ⟨rfl, e3⟩))
      go_ret
      exact ⟨ret_qs E.out.symm, ((e0.trans e1).trans e2).trans e3⟩
  · have c1' : ¬ ((zs n).size : Int) ≤ 9 := by omega
    by_cases h1 : D' = 1
    · have g1 := zs_is1 (n := (D' : Int)) (by omega)
      have E := Lib.hid (HV.out.1 h1)
      clear f1 f2 f3 f4 f5 f6 hG hn hdb hs g h1 hd h hD' hgo hlen HV c1
      go_enter Tryz.func81, Tryz.ntmps81
      go_wp2_with (first
        | (go_at_call 127; refine (fsign_c _ _).mono ?_; rw [HS.out]; rintro e w0 ⟨rfl, e0⟩)
        | (go_at_call 110; refine (fgcd_c _ _ _ (HGD.out.ext e0) HN.out HD.out (by omega) (by omega)).mono ?_; rw [← HG.out]; rintro e w1 ⟨rfl, e1⟩)
        | (go_at_call 129; ((with_reducible refine (fdivmod_c n (G : Int) w1 (HGD.out.ext (e0.trans e1)) HN.out HF1.out (by omega) (by omega) HF5.out).mono ?_); rintro e w2 ⟨rfl, e2⟩))
        | (go_at_call 129; refine (fdivmod_c (d : Int) (G : Int) _ (HGD.out.ext ((e0.trans e1).trans e2)) HD.out HF1.out (by omega) (by omega) HF5.out).mono ?_; rw [HF4.out]; rintro e w3 ⟨rfl, e3⟩))
      go_ret
      exact ⟨ret_qs E.out.symm, ((e0.trans e1).trans e2).trans e3⟩
    · have g1 := zs_not1 (n := (D' : Int)) (by omega)
      have E := Lib.hid (HV.out.2 h1)
      clear f1 f2 f3 f4 f5 f6 hG hn hdb hs g h1 hd h hD' hgo hlen HV c1
      go_enter Tryz.func81, Tryz.ntmps81
      go_wp2_with (first
        | (go_at_call 127; refine (fsign_c _ _).mono ?_; rw [HS.out]; rintro e w0 ⟨rfl, e0⟩)
        | (go_at_call 110; refine (fgcd_c _ _ _ (HGD.out.ext e0) HN.out HD.out (by omega) (by omega)).mono ?_; rw [← HG.out]; rintro e w1 ⟨rfl, e1⟩)
        | (go_at_call 129; ((with_reducible refine (fdivmod_c n (G : Int) w1 (HGD.out.ext (e0.trans e1)) HN.out HF1.out (by omega) (by omega) HF5.out).mono ?_); rintro e w2 ⟨rfl, e2⟩))
        | (go_at_call 129; refine (fdivmod_c (d : Int) (G : Int) _ (HGD.out.ext ((e0.trans e1).trans e2)) HD.out HF1.out (by omega) (by omega) HF5.out).mono ?_; rw [HF4.out]; rintro e w3 ⟨rfl, e3⟩))
      go_ret
      exact ⟨ret_qs E.out.symm, ((e0.trans e1).trans e2).trans e3⟩

/-- klipperef02.Fraction with a positive denominator. -/
theorem ffrac_c (n : Int) (d : Nat) {k m : Nat} (w : World) (g : Gd w) (hd : d ≠ 0) (hn : IB k n) (hdb : IB m (d : Int)) (hk : k ≤ 8000) (hm : m ≤ 8000) :
    Calls Tryz.prog 81 #[.string (zs n), .string (zs (d : Int))] w (Ret w (.string (qs (mkRat n d)))) := by
  by_cases h : (zs n).size ≤ 9 ∧ (zs (d : Int)).size ≤ 9
  · exact ffrac_small n d w g hd h.1 h.2
  · exact ffrac_big n d w g hd hn hdb hk hm h

set_option maxRecDepth 100000 in
/-- klipperef02.Of with a positive denominator. -/
theorem fqof_c (n : Int) (d : Nat) (w : World) (g : Gd w) (hd : d ≠ 0) (h0 : -9223372036854775808 ≤ n) (h1 : n ≤ 9223372036854775807) (h2 : (d : Int) ≤ 9223372036854775807) :
    Calls Tryz.prog 22 #[.int .i64 n, .int .i64 (d : Int)] w (Ret w (.string (qs (mkRat n d)))) := by
  have HG := Lib.hid g; have HD := Lib.hid hd
  have I1 : Hid (IB 20 n) := Lib.hid ⟨by omega⟩
  have I2 : Hid (IB 20 (d : Int)) := Lib.hid ⟨by omega⟩
  clear g hd
  have d0 : (0 : Int) ≤ d := by omega
  go_enter Tryz.func22, Tryz.ntmps22
  go_wp2_with (first
    | (go_at_call 82; ((with_reducible refine (fof_c n (by omega) (by omega) w HG.out).mono ?_); rintro e w1 ⟨rfl, e1⟩))
    | (go_at_call 82; refine (fof_c (d : Int) (by omega) (by omega) _ (HG.out.ext e1)).mono ?_; rintro e w2 ⟨rfl, e2⟩)
    | (go_at_call 81; refine (ffrac_c n d _ (HG.out.ext (e1.trans e2)) HD.out I1.out I2.out (by omega) (by omega)).mono ?_; rintro e w3 ⟨rfl, e3⟩))
  go_ret
  exact ⟨rfl, (e1.trans e2).trans e3⟩

set_option maxRecDepth 100000 in
/-- klipperef02.Neg. -/
theorem fqneg_c (q : Rat) {k : Nat} (w : World) (hq : QB k q) (hk : k ≤ 9000) : Calls Tryz.prog 97 #[.string (qs q)] w (Ret w (.string (qs (-q)))) := by
  have hp := qs_pos q
  have hl := hq.len hk
  have hp' : (0 : Int) < (qs q).size := by omega
  have hp1 : 1 ≤ (qs q).size := hp
  clear hq
  by_cases h0 : q = 0
  · have h1 := qs_is0 h0
    have H : Hid (qs (-q) = qs q) := Lib.hid (by subst h0; rfl)
    clear h0
    go_enter Tryz.func97, Tryz.ntmps97
    go_wp2
    go_ret
    exact ⟨ret_qs H.out.symm, Ext.refl _⟩
  · have h1 := qs_not0 h0
    by_cases hn : q.num < 0
    · have h2 := (qs_head q hp).2 hn
      have H := Lib.hid (qs_tail hn)
      clear h0 hn
      go_enter Tryz.func97, Tryz.ntmps97
      go_wp2
      go_ret
      exact ⟨ret_qs H.out, Ext.refl _⟩
    · have h2 : ¬ ((qs q)[0].toNat : Int) = 45 := fun e => hn ((qs_head q hp).1 e)
      have H := Lib.hid (qs_neg_pos (q := q) (by have := num_ne h0; omega))
      clear h0 hn
      go_enter Tryz.func97, Tryz.ntmps97
      go_wp2
      go_ret
      exact ⟨ret_qs H.out, Ext.refl _⟩
end Go.Proofs.YtglppcmegocphaaGreatDoor

namespace Go.Proofs.YtglppcmegocphaaGreatDoor
open Go Go.RowKit
theorem flow_c (n D : Int) (d : Nat) (w : World) (g : Gd w) (hD : D = (d : Int)) (hn : n.natAbs ≤ 4000000000000000000) (hd : d ≠ 0) (hd2 : d ≤ 4000000000000000000) :
    Calls Tryz.prog 101 #[.int .i64 n, .int .i64 D] w (Ret w (.string (qs (mkRat n d)))) := by
  subst hD; exact flowest_c n d w g hn hd hd2

set_option maxRecDepth 100000 in
set_option maxHeartbeats 1000000 in
theorem fqadd_quick (a b : Rat) (w : World) (g : Gd w) (ha9 : (qs a).size ≤ 9) (hb9 : (qs b).size ≤ 9) : Calls Tryz.prog 80 #[.string (qs a), .string (qs b)] w (Ret w (.string (qs (a + b)))) := by
  have ha := qs_small9 ha9
  have hb := qs_small9 hb9
  have E := Lib.hid (Rat.add_def' a b)
  have HA := Lib.hid ha9; have HB := Lib.hid hb9; have HG := Lib.hid g
  obtain ⟨p1, p2⟩ := prod_bd (a := a.num) (b := (b.den : Int)) ha.1 (by rw [Int.natAbs_natCast]; exact hb.2)
  obtain ⟨p3, p4⟩ := prod_bd (a := b.num) (b := (a.den : Int)) hb.1 (by rw [Int.natAbs_natCast]; exact ha.2)
  obtain ⟨p5, p6⟩ := prod_bd (a := (a.den : Int)) (b := (b.den : Int)) (by rw [Int.natAbs_natCast]; exact ha.2) (by rw [Int.natAbs_natCast]; exact hb.2)
  have p7 := nprod_bd ha.2 hb.2
  have P7 := Lib.hid p7
  have P8 := Lib.hid (Nat.mul_ne_zero a.den_nz b.den_nz)
  have P9 := Lib.hid (Int.natCast_mul a.den b.den).symm
  clear ha hb ha9 hb9 g p7
  go_enter Tryz.func80, Tryz.ntmps80
  go_wp2_with (first
    | (go_at_call 100; ((with_reducible refine (fbrief_yes a _ HA.out).mono ?_); rintro e w' ⟨rfl, rfl⟩))
    | (go_at_call 100; refine (fbrief_yes b _ HB.out).mono ?_; rintro e w' ⟨rfl, rfl⟩)
    | (go_at_call 101; refine (flow_c (a.num * b.den + b.num * a.den) _ (a.den * b.den) _ HG.out P9.out (by omega) P8.out (by have := P7.out; omega)).mono ?_; rintro e w1 ⟨rfl, e1⟩))
  go_ret
  exact ⟨ret_qs (by rw [E.out]), e1⟩

set_option maxRecDepth 100000 in
set_option maxHeartbeats 2000000 in
theorem fqadd_big (a b : Rat) {k m : Nat} (w : World) (g : Gd w) (qa : QB k a) (qb : QB m b) (hk : k ≤ 3000) (hm : m ≤ 3000) (h : ¬ ((qs a).size ≤ 9 ∧ (qs b).size ≤ 9)) : Calls Tryz.prog 80 #[.string (qs a), .string (qs b)] w (Ret w (.string (qs (a + b)))) := by
  have E := Lib.hid (Rat.add_def' a b)
  have HG := Lib.hid g
  have QA := Lib.hid qa; have QB' := Lib.hid qb
  have P8 := Lib.hid (Nat.mul_ne_zero a.den_nz b.den_nz)
  have P9 : Hid ((a.den : Int) * (b.den : Int) = ((a.den * b.den : Nat) : Int)) := Lib.hid (Int.natCast_mul a.den b.den).symm
  have IBD : Hid (IB (k + m) ((a.den * b.den : Nat) : Int)) := Lib.hid (by rw [← P9.out]; exact qa.denIB.mul qb.denIB)
  clear g qa qb
  by_cases hsa : (qs a).size ≤ 9
  · have hsb : (9 : Int) < (qs b).size := by have : ¬ (qs b).size ≤ 9 := fun e => h ⟨hsa, e⟩; omega
    have HA := Lib.hid hsa; have HB := Lib.hid hsb
    clear h hsa hsb
    go_enter Tryz.func80, Tryz.ntmps80
    go_wp2_with (first
      | (go_at_call 100; ((with_reducible refine (fbrief_yes a _ HA.out).mono ?_); rintro e w' ⟨rfl, rfl⟩))
      | (go_at_call 100; refine (fbrief_no _ _ HB.out).mono ?_; rintro e w' ⟨rfl, rfl⟩)
      | (go_at_call 78; ((with_reducible refine (fqparts_c a w QA.out (by omega)).mono ?_); rintro e w1 ⟨rfl, e1⟩))
      | (go_at_call 78; refine (fqparts_c b w1 QB'.out (by omega)).mono ?_; rintro e w2 ⟨rfl, e2⟩; have e12 := Ext.trans e1 e2)
      | (go_at_call 102; ((with_reducible refine (fmul_c a.num b.den w2 (HG.out.ext e12) QA.out.numIB QB'.out.denIB (by omega) (by omega)).mono ?_); rintro e w3 ⟨rfl, e3⟩; have e13 := e12.trans e3))
      | (go_at_call 102; ((with_reducible refine (fmul_c b.num a.den w3 (HG.out.ext e13) QB'.out.numIB QA.out.denIB (by omega) (by omega)).mono ?_); rintro e w4 ⟨rfl, e4⟩; have e14 := e13.trans e4))
      | (go_at_call 125; refine (fadd_c _ _ _ (HG.out.ext e14) (QA.out.numIB.mul QB'.out.denIB) (QB'.out.numIB.mul QA.out.denIB) (by omega) (by omega)).mono ?_; rintro e w5 ⟨rfl, e5⟩; have e15 := e14.trans e5)
      | (go_at_call 102; refine (fmul_c (a.den : Int) b.den _ (HG.out.ext e15) QA.out.denIB QB'.out.denIB (by omega) (by omega)).mono ?_; rw [P9.out]; rintro e w6 ⟨rfl, e6⟩; have e16 := e15.trans e6)
      | (go_at_call 81; refine (ffrac_c _ (a.den * b.den) _ (HG.out.ext e16) P8.out ((QA.out.numIB.mul QB'.out.denIB).add (QB'.out.numIB.mul QA.out.denIB)) IBD.out (by omega) (by omega)).mono ?_; rintro e w7 ⟨rfl, e7⟩))
    go_ret
    exact ⟨ret_qs (by rw [E.out]), e16.trans e7⟩
  · have HA : Hid ((9 : Int) < (qs a).size) := Lib.hid (by omega)
    clear h hsa
    go_enter Tryz.func80, Tryz.ntmps80
    go_wp2_with (first
      | (go_at_call 100; refine (fbrief_no _ _ HA.out).mono ?_; rintro e w' ⟨rfl, rfl⟩)
      | (go_at_call 78; ((with_reducible refine (fqparts_c a w QA.out (by omega)).mono ?_); rintro e w1 ⟨rfl, e1⟩))
      | (go_at_call 78; refine (fqparts_c b w1 QB'.out (by omega)).mono ?_; rintro e w2 ⟨rfl, e2⟩; have e12 := Ext.trans e1 e2)
      | (go_at_call 102; ((with_reducible refine (fmul_c a.num b.den w2 (HG.out.ext e12) QA.out.numIB QB'.out.denIB (by omega) (by omega)).mono ?_); rintro e w3 ⟨rfl, e3⟩; have e13 := e12.trans e3))
      | (go_at_call 102; ((with_reducible refine (fmul_c b.num a.den w3 (HG.out.ext e13) QB'.out.numIB QA.out.denIB (by omega) (by omega)).mono ?_); rintro e w4 ⟨rfl, e4⟩; have e14 := e13.trans e4))
      | (go_at_call 125; refine (fadd_c _ _ _ (HG.out.ext e14) (QA.out.numIB.mul QB'.out.denIB) (QB'.out.numIB.mul QA.out.denIB) (by omega) (by omega)).mono ?_; rintro e w5 ⟨rfl, e5⟩; have e15 := e14.trans e5)
      | (go_at_call 102; refine (fmul_c (a.den : Int) b.den _ (HG.out.ext e15) QA.out.denIB QB'.out.denIB (by omega) (by omega)).mono ?_; rw [P9.out]; rintro e w6 ⟨rfl, e6⟩; have e16 := e15.trans e6)
      | (go_at_call 81; refine (ffrac_c _ (a.den * b.den) _ (HG.out.ext e16) P8.out ((QA.out.numIB.mul QB'.out.denIB).add (QB'.out.numIB.mul QA.out.denIB)) IBD.out (by omega) (by omega)).mono ?_; rintro e w7 ⟨rfl, e7⟩))
    go_ret
    exact ⟨ret_qs (by rw [E.out]), e16.trans e7⟩

/-- klipperef02.Add. -/
theorem fqadd_c (a b : Rat) {k m : Nat} (w : World) (g : Gd w) (qa : QB k a) (qb : QB m b) (hk : k ≤ 3000) (hm : m ≤ 3000) : Calls Tryz.prog 80 #[.string (qs a), .string (qs b)] w (Ret w (.string (qs (a + b)))) := by
  by_cases h : (qs a).size ≤ 9 ∧ (qs b).size ≤ 9
  · exact fqadd_quick a b w g h.1 h.2
  · exact fqadd_big a b w g qa qb hk hm h

set_option maxRecDepth 100000 in
set_option maxHeartbeats 1000000 in
theorem fqmul_quick (a b : Rat) (w : World) (g : Gd w) (ha9 : (qs a).size ≤ 9) (hb9 : (qs b).size ≤ 9) : Calls Tryz.prog 44 #[.string (qs a), .string (qs b)] w (Ret w (.string (qs (a * b)))) := by
  have ha := qs_small9 ha9
  have hb := qs_small9 hb9
  have E := Lib.hid (Rat.mul_def' a b)
  have HA := Lib.hid ha9; have HB := Lib.hid hb9; have HG := Lib.hid g
  obtain ⟨p1, p2⟩ := prod_bd (a := a.num) (b := b.num) ha.1 hb.1
  obtain ⟨p5, p6⟩ := prod_bd (a := (a.den : Int)) (b := (b.den : Int)) (by rw [Int.natAbs_natCast]; exact ha.2) (by rw [Int.natAbs_natCast]; exact hb.2)
  have p7 := nprod_bd ha.2 hb.2
  have P7 := Lib.hid p7
  have P8 := Lib.hid (Nat.mul_ne_zero a.den_nz b.den_nz)
  have P9 := Lib.hid (Int.natCast_mul a.den b.den).symm
  clear ha hb ha9 hb9 g p7
  go_enter Tryz.func44, Tryz.ntmps44
  go_wp2_with (first
    | (go_at_call 100; ((with_reducible refine (fbrief_yes a _ HA.out).mono ?_); rintro e w' ⟨rfl, rfl⟩))
    | (go_at_call 100; refine (fbrief_yes b _ HB.out).mono ?_; rintro e w' ⟨rfl, rfl⟩)
    | (go_at_call 101; refine (flow_c (a.num * b.num) _ (a.den * b.den) _ HG.out P9.out (by omega) P8.out (by have := P7.out; omega)).mono ?_; rintro e w1 ⟨rfl, e1⟩))
  go_ret
  exact ⟨ret_qs (by rw [E.out]), e1⟩

set_option maxRecDepth 100000 in
set_option maxHeartbeats 2000000 in
theorem fqmul_big (a b : Rat) {k m : Nat} (w : World) (g : Gd w) (qa : QB k a) (qb : QB m b) (hk : k ≤ 3000) (hm : m ≤ 3000) (h : ¬ ((qs a).size ≤ 9 ∧ (qs b).size ≤ 9)) : Calls Tryz.prog 44 #[.string (qs a), .string (qs b)] w (Ret w (.string (qs (a * b)))) := by
  have E := Lib.hid (Rat.mul_def' a b)
  have HG := Lib.hid g
  have QA := Lib.hid qa; have QB' := Lib.hid qb
  have P8 := Lib.hid (Nat.mul_ne_zero a.den_nz b.den_nz)
  have P9 : Hid ((a.den : Int) * (b.den : Int) = ((a.den * b.den : Nat) : Int)) := Lib.hid (Int.natCast_mul a.den b.den).symm
  have IBD : Hid (IB (k + m) ((a.den * b.den : Nat) : Int)) := Lib.hid (by rw [← P9.out]; exact qa.denIB.mul qb.denIB)
  clear g qa qb
  by_cases hsa : (qs a).size ≤ 9
  · have hsb : (9 : Int) < (qs b).size := by have : ¬ (qs b).size ≤ 9 := fun e => h ⟨hsa, e⟩; omega
    have HA := Lib.hid hsa; have HB := Lib.hid hsb
    clear h hsa hsb
    go_enter Tryz.func44, Tryz.ntmps44
    go_wp2_with (first
      | (go_at_call 100; ((with_reducible refine (fbrief_yes a _ HA.out).mono ?_); rintro e w' ⟨rfl, rfl⟩))
      | (go_at_call 100; refine (fbrief_no _ _ HB.out).mono ?_; rintro e w' ⟨rfl, rfl⟩)
      | (go_at_call 78; ((with_reducible refine (fqparts_c a w QA.out (by omega)).mono ?_); rintro e w1 ⟨rfl, e1⟩))
      | (go_at_call 78; refine (fqparts_c b w1 QB'.out (by omega)).mono ?_; rintro e w2 ⟨rfl, e2⟩; have e12 := Ext.trans e1 e2)
      | (go_at_call 102; ((with_reducible refine (fmul_c a.num b.num w2 (HG.out.ext e12) QA.out.numIB QB'.out.numIB (by omega) (by omega)).mono ?_); rintro e w3 ⟨rfl, e3⟩; have e15 := e12.trans e3))
      | (go_at_call 102; refine (fmul_c (a.den : Int) b.den _ (HG.out.ext e15) QA.out.denIB QB'.out.denIB (by omega) (by omega)).mono ?_; rw [P9.out]; rintro e w6 ⟨rfl, e6⟩; have e16 := e15.trans e6)
      | (go_at_call 81; refine (ffrac_c _ (a.den * b.den) _ (HG.out.ext e16) P8.out (QA.out.numIB.mul QB'.out.numIB) IBD.out (by omega) (by omega)).mono ?_; rintro e w7 ⟨rfl, e7⟩))
    go_ret
    exact ⟨ret_qs (by rw [E.out]), e16.trans e7⟩
  · have HA : Hid ((9 : Int) < (qs a).size) := Lib.hid (by omega)
    clear h hsa
    go_enter Tryz.func44, Tryz.ntmps44
    go_wp2_with (first
      | (go_at_call 100; refine (fbrief_no _ _ HA.out).mono ?_; rintro e w' ⟨rfl, rfl⟩)
      | (go_at_call 78; ((with_reducible refine (fqparts_c a w QA.out (by omega)).mono ?_); rintro e w1 ⟨rfl, e1⟩))
      | (go_at_call 78; refine (fqparts_c b w1 QB'.out (by omega)).mono ?_; rintro e w2 ⟨rfl, e2⟩; have e12 := Ext.trans e1 e2)
      | (go_at_call 102; ((with_reducible refine (fmul_c a.num b.num w2 (HG.out.ext e12) QA.out.numIB QB'.out.numIB (by omega) (by omega)).mono ?_); rintro e w3 ⟨rfl, e3⟩; have e15 := e12.trans e3))
      | (go_at_call 102; refine (fmul_c (a.den : Int) b.den _ (HG.out.ext e15) QA.out.denIB QB'.out.denIB (by omega) (by omega)).mono ?_; rw [P9.out]; rintro e w6 ⟨rfl, e6⟩; have e16 := e15.trans e6)
      | (go_at_call 81; refine (ffrac_c _ (a.den * b.den) _ (HG.out.ext e16) P8.out (QA.out.numIB.mul QB'.out.numIB) IBD.out (by omega) (by omega)).mono ?_; rintro e w7 ⟨rfl, e7⟩))
    go_ret
    exact ⟨ret_qs (by rw [E.out]), e16.trans e7⟩

/-- klipperef02.Mul. -/
theorem fqmul_c (a b : Rat) {k m : Nat} (w : World) (g : Gd w) (qa : QB k a) (qb : QB m b) (hk : k ≤ 3000) (hm : m ≤ 3000) : Calls Tryz.prog 44 #[.string (qs a), .string (qs b)] w (Ret w (.string (qs (a * b)))) := by
  by_cases h : (qs a).size ≤ 9 ∧ (qs b).size ≤ 9
  · exact fqmul_quick a b w g h.1 h.2
  · exact fqmul_big a b w g qa qb hk hm h

set_option maxRecDepth 100000 in
/-- klipperef02.Sub. -/
theorem fqsub_c (a b : Rat) {k m : Nat} (w : World) (g : Gd w) (qa : QB k a) (qb : QB m b) (hk : k ≤ 3000) (hm : m ≤ 3000) : Calls Tryz.prog 41 #[.string (qs a), .string (qs b)] w (Ret w (.string (qs (a - b)))) := by
  have HG := Lib.hid g
  have QA := Lib.hid qa; have QB' := Lib.hid qb
  have E : Hid (a + -b = a - b) := Lib.hid (Rat.sub_eq_add_neg a b).symm
  clear g qa qb
  go_enter Tryz.func41, Tryz.ntmps41
  go_wp2_with (first
    | (go_at_call 97; refine (fqneg_c b _ QB'.out (by omega)).mono ?_; rintro e w1 ⟨rfl, e1⟩)
    | (go_at_call 80; refine (fqadd_c a (-b) _ (HG.out.ext e1) QA.out QB'.out.neg (by omega) (by omega)).mono ?_; rintro e w2 ⟨rfl, e2⟩))
  go_ret
  exact ⟨ret_qs (by rw [E.out]), e1.trans e2⟩

end Go.Proofs.YtglppcmegocphaaGreatDoor
