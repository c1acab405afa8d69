/- Part 14 of the proof: Build. -/
import Derived.Test.YtglppcmegocphaaGreatDoorQVS3
import Derived.Lib.Builder
import Derived.Lib.OthersKept
import Derived.Lib.UnsafeStr
import Derived.Lib.Walk
import Derived.Laws.Externs
namespace Go.Proofs.YtglppcmegocphaaGreatDoor
open Go Go.RowKit
theorem Tryz.builderInfo : ∃ j, Tryz.prog.info? 185 = some j ∧ j.size = 2 := by
  have h : (Tryz.prog.info? 185).map (fun i => i.size) = some 2 := by kernel_rfl
  obtain ⟨j, h1, h2⟩ := Option.map_eq_some_iff.1 h
  exact ⟨j, h1, h2⟩

theorem Tryz.liesBuilder : liesAt Tryz.prog Tryz.prog.depth 185 (2 / Tryz.prog.cellsOf 185) 0 185 1 = true := by kernel_rfl
section
set_option maxRecDepth 100000
attribute [local irreducible] World.shape?
theorem s_bd {α β:Type} (x:Sem α) (f:α → Sem β):Sem.bind x f = (x >>= f):=rfl
theorem s_pr {α:Type} (x:α):Sem.pure x = (pure x:Sem α):=rfl
theorem cv_to (b:Nat) (w:World) (hsh:w.shape? b = some (185,2)):(convert 182 213 (.pointer (some ⟨b,0,none⟩))).run Tryz.prog w = .ok (.pointer (some ⟨b,0,none⟩)) w:=by
 obtain ⟨j,hj,hjs⟩:=Tryz.builderInfo;simp [convert,run_underlying Tryz.underlying182,run_underlying Tryz.underlying213]
 conv => lhs; whnf
 simp [hsh,s_bd,s_pr,cellsIn,sizeOf,typeInfo,hj,hjs]
theorem cv_fr (b:Nat) (w:World) (hsh:w.shape? b = some (185,2)):(convert 213 182 (.pointer (some ⟨b,0,none⟩))).run Tryz.prog w = .ok (.pointer (some ⟨b,0,none⟩)) w:=by
 obtain ⟨j,hj,_⟩:=Tryz.builderInfo;simp [convert,run_underlying Tryz.underlying182,run_underlying Tryz.underlying213]
 conv => lhs; whnf
 simp [hsh,s_bd,s_pr,variablesAt,Tryz.liesBuilder,sizeOf,typeInfo,hj]
end

set_option maxHeartbeats 1000000 in
set_option maxRecDepth 100000 in
theorem copy_used (b : Nat) (w : World) (h0 : w.cell? ⟨b, 0, none⟩ = some (.pointer (some ⟨b, 0, none⟩))) :
    Calls Tryz.prog 183 #[.pointer (some ⟨b, 0, none⟩)] w fun e w' => e = .returned (.tuple #[]) ∧ w' = w := by
  obtain ⟨j, hj, _⟩ := Tryz.builderInfo
  go_enter Tryz.func183, Tryz.ntmps183
  go_wp2
  rw [Lib.run_neq_ptr_same w _ Tryz.underlying182 hj]
  go_wp2
  go_end0
  exact ⟨rfl, rfl⟩

set_option maxHeartbeats 1000000 in
set_option maxRecDepth 100000 in
theorem copy_fresh (b : Nat) (w : World) (h0 : w.cell? ⟨b, 0, none⟩ = some (.pointer none)) (hsh : w.shape? b = some (185, 2)) (hfz : w.frozen? ⟨b, 0, none⟩ = false) :
    Calls Tryz.prog 183 #[.pointer (some ⟨b, 0, none⟩)] w fun e w' => e = .returned (.tuple #[]) ∧ w' = w.setCell ⟨b, 0, none⟩ (.pointer (some ⟨b, 0, none⟩)) := by
  go_enter Tryz.func183, Tryz.ntmps183
  go_wp2
  rw [cv_to b w hsh]
  simp only [Result.andThen]
  rw [Oper.upon_value]
  go_wp2
  rw [run_callFunc_extern Tryz.func199 (by kernel_rfl) (by kernel_rfl) (by kernel_rfl) (e := Extern.AbiNoEscape.same) (by kernel_rfl)]
  rw [Lib.run_noEscape]
  simp only [Result.andThen]
  rw [Oper.upon_value]
  go_wp2
  rw [cv_fr b w hsh]
  simp only [Result.andThen]
  rw [Oper.upon_value]
  go_wp2
  go_end0
  exact ⟨rfl, rfl⟩

abbrev BAt := Lib.BuilderAt 185 5
abbrev BIs := Lib.IsBuilder 185 5

/-- What a writing call leaves. -/
def BPost (B b : Nat) (bs : List Value) (w w' : World) : Prop := BAt B b (.pointer (some ⟨b, 0, none⟩)) bs w' ∧ Below B w w' ∧ Lib.OthersKept 5 (some b) w w'

theorem copy_c (B b : Nat) (bs : List Value) (w : World) (h : BIs B b bs w) :
    Calls Tryz.prog 183 #[.pointer (some ⟨b, 0, none⟩)] w fun e w' => e = .returned (.tuple #[]) ∧ BPost B b bs w w' := by
  rcases h with h | h
  · refine (copy_fresh b w h.cell0 h.shape h.frozen0).mono ?_
    rintro e w' ⟨rfl, rfl⟩
    exact ⟨rfl, h.used _, (Below.refl _ _).setCell h.1 _, Lib.OthersKept.setCell (b := b) (Lib.OthersKept.refl _ _ _) ⟨b, 0, none⟩ rfl _⟩
  · refine (copy_used b w h.cell0).mono ?_
    rintro e w' ⟨rfl, rfl⟩
    exact ⟨rfl, h, Below.refl _ _, Lib.OthersKept.refl _ _ _⟩

theorem owns_shape {w : World} {B e n : Nat} {v : Value} {xs : List Value} (h : w.ownsRow B e 1 v n xs) : ∃ ad m c, v = .slice ad m c := by
  rcases h.2 with ⟨rfl, _⟩ | ⟨g, cap, cur, rfl, _⟩
  · exact ⟨_, _, _, rfl⟩
  · exact ⟨_, _, _, rfl⟩

theorem Tryz.info5b : (Tryz.prog.info? 5).map (fun i => (i.zero, i.size, i.bytes)) = some (some (.int .u8 0), 1, 1) := by kernel_rfl

theorem own_base {w : World} {B e n : Nat} {v : Value} {xs : List Value} (h : w.ownsRow B e 1 v n xs) : ∀ k, v.ownBlock = some k → B ≤ k := by
  intro k hk
  rcases h.2 with ⟨rfl, _⟩ | ⟨g, cap, cur, rfl, hB, _⟩
  · simp [Value.ownBlock] at hk
  · simp only [Value.ownBlock, Option.some.injEq] at hk
    omega

theorem own_kind {w : World} {B e n : Nat} {v : Value} {xs : List Value} (h : w.ownsRow B e 1 v n xs) : ∀ g, v.ownBlock = some g → ∃ c fz, w.heap[g]? = some (.cells c e fz) := by
  intro k hk
  rcases h.2 with ⟨rfl, _⟩ | ⟨g, cap, cur, rfl, hB, hg, _⟩
  · simp [Value.ownBlock] at hk
  · simp only [Value.ownBlock, Option.some.injEq] at hk
    subst hk
    exact ⟨_, _, hg⟩

theorem byte_at (w : World) (c : Int) : ∀ j u, [Value.int .u8 c][j]? = some u → (w.alloc (.cells #[.int .u8 c] 5)).cell? ((⟨w.heap.size, 0, none⟩ : Addr).add j) = some u := by
  intro j u hu
  match j, hu with
  | 0, hu => simp at hu; subst hu; rw [Addr.add_lit]; exact (Blk.new w #[.int .u8 c] 5).cell 0 rfl

theorem build_kept {w w2 : World} {b : Nat} {cs : Array Value} {v : Value} {o : Obj} {t : TypeId} (hb : w.heap[b]? = some (.cells cs t (0, 0))) (hne : v.ownBlock ≠ some b) (hg : (w.alloc o).grownBy w2 v.ownBlock) : w2.heap[b]? = some (.cells cs t (0, 0)) :=
  (((⟨hb⟩ : Blk w b cs t).alloc o).grown hg (fun e => hne e.symm)).out

set_option maxHeartbeats 1000000 in
set_option maxRecDepth 100000 in
theorem write_byte (B b : Nat) (bs : List Value) (c : Int) (w : World) (h : BIs B b bs w) (hl : bs.length + 1 ≤ 140737488355328) (hB : B ≤ w.heap.size) :
    Calls Tryz.prog 160 #[.pointer (some ⟨b, 0, none⟩), .int .u8 c] w fun e w' => e = .returned .nilIface ∧ BPost B b (bs ++ [.int .u8 c]) w w' := by
  obtain ⟨i0, hi, hz0, hz1, hz2⟩ := info_parts Tryz.info5b
  have hb63 : bs.length + 1 ≤ maxLen := by unfold maxLen; omega
  go_enter Tryz.func160, Tryz.ntmps160
  go_wp2_with (first
    | (go_at_call 183; refine (copy_c B b bs _ h).mono ?_; rintro e w1 ⟨rfl, hb1, he1, ho1⟩; obtain ⟨hBb, v, hbk, hown, hne⟩ := hb1; obtain ⟨va, vn, vc, rfl⟩ := owns_shape hown; have c1 := Lib.cell_of_heap hbk 1; have f1 := Lib.frozen_of_heap hbk 1)
    | (at_builtin; refine wpList_append_own (w1.alloc (.cells #[.int .u8 c] 5)) rfl (.tmp 11) (.tmp 13) 183 rfl B 5 i0 (.int .u8 0) 1 1 Tryz.underlying183 hi hz0 hz1 hz2 rfl (by decide) _ bs.length bs rfl (hown.alloc _) ⟨w1.heap.size, 0, none⟩ 1 1 [.int .u8 c] rfl rfl (byte_at w1 c) (by intro u hu; simp at hu; subst hu; rfl) hb63 (by omega) (by simp; exact Nat.le_trans hB (Nat.le_trans he1.size (Nat.le_succ _))) ?_; intro v' w2 hown2 hgrow2 hv2; obtain ⟨va', vn', vc', rfl⟩ := owns_shape hown2; have hbk2 := build_kept hbk hne hgrow2; have c2 := Lib.cell_of_heap hbk2 1; have f2 := Lib.frozen_of_heap hbk2 1))
  go_ret
  refine ⟨rfl, Lib.BuilderAt.put (bs' := bs ++ [.int .u8 c]) hBb hbk2 (by simpa using hown2) (by decide), ((he1.alloc (Nat.le_trans hB he1.size) _).grown hgrow2 (by simp; exact Nat.le_trans hB (Nat.le_trans he1.size (Nat.le_succ _))) (own_base hown)).setCell hBb _, Lib.OthersKept.setCell (b := b) ((ho1.alloc _).grown hgrow2 (own_kind (hown.alloc _))) ⟨b, 1, none⟩ rfl _⟩

set_option maxHeartbeats 1000000 in
set_option maxRecDepth 100000 in
theorem write_string (B b : Nat) (bs : List Value) (t : ByteArray) (w : World) (h : BIs B b bs w) (hl : bs.length + t.size ≤ 140737488355328) (hB : B ≤ w.heap.size) :
    Calls Tryz.prog 162 #[.pointer (some ⟨b, 0, none⟩), .string t] w fun e w' => e = .returned (.tuple #[.int .i64 t.size, .nilIface]) ∧ BPost B b (bs ++ Lib.strCells t) w w' := by
  obtain ⟨i0, hi, hz0, hz1, hz2⟩ := info_parts Tryz.info5b
  have hb63 : bs.length + t.size ≤ maxLen := by unfold maxLen; omega
  go_enter Tryz.func162, Tryz.ntmps162
  go_wp2_with (first
    | (go_at_call 183; refine (copy_c B b bs _ h).mono ?_; rintro e w1 ⟨rfl, hb1, he1, ho1⟩; obtain ⟨hBb, v, hbk, hown, hne⟩ := hb1; obtain ⟨va, vn, vc, rfl⟩ := owns_shape hown; have c1 := Lib.cell_of_heap hbk 1; have f1 := Lib.frozen_of_heap hbk 1)
    | (at_builtin; refine Lib.wpList_append_own_string w1 rfl (.tmp 12) (.tmp 13) 183 9 rfl B 5 i0 Tryz.underlying183 Tryz.underlying9 hi hz0 hz1 hz2 _ bs.length bs rfl hown t rfl hb63 (by omega) (Nat.le_trans hB he1.size) ?_; intro v' w2 hown2 hgrow2 hv2; obtain ⟨va', vn', vc', rfl⟩ := owns_shape hown2; have hbk2 := ((⟨hbk⟩ : Blk w1 b _ _).grown hgrow2 (fun e => hne e.symm)).out; have c2 := Lib.cell_of_heap hbk2 1; have f2 := Lib.frozen_of_heap hbk2 1))
  refine bodyPost_ret (v := .tuple #[.int .i64 t.size, .nilIface]) (by simp [results, Tryz.results162, go_sem]) rfl ⟨rfl, Lib.BuilderAt.put (bs' := bs ++ Lib.strCells t) hBb hbk2 (by simpa [Lib.strCells_length] using hown2) (by decide), (he1.grown hgrow2 (Nat.le_trans hB he1.size) (own_base hown)).setCell hBb _, Lib.OthersKept.setCell (b := b) (ho1.grown hgrow2 (own_kind hown)) ⟨b, 1, none⟩ rfl _⟩
end Go.Proofs.YtglppcmegocphaaGreatDoor
