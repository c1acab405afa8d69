/- Part 23 of the proof: B6, C1, C2, B9, C3, V0, C4, V1, C7, V2, V4, V6, PrimP, L2, Geo. -/
import Derived.Test.YtplimbgaoengfaaGreatDoorQB1
import Derived.Test.YtplimbgaoengfaaGreatDoorQB2
import Derived.Test.YtplimbgaoengfaaGreatDoorQB3
import Derived.Test.YtplimbgaoengfaaGreatDoorQB4
import Derived.Test.YtplimbgaoengfaaGreatDoorQB5
import Derived.Test.YtplimbgaoengfaaGreatDoorQB6
import Derived.Test.YtplimbgaoengfaaGreatDoorQB7
import Derived.Test.YtplimbgaoengfaaGreatDoorQB8
import Derived.Test.YtplimbgaoengfaaGreatDoorQB9
import Derived.Test.YtplimbgaoengfaaGreatDoorQB10
import Derived.Test.YtplimbgaoengfaaGreatDoorQB11
import Derived.Test.YtplimbgaoengfaaGreatDoorQB12
import Derived.Test.YtplimbgaoengfaaGreatDoorQB13
import Derived.Test.YtplimbgaoengfaaGreatDoorQB14
import Derived.Test.YtplimbgaoengfaaGreatDoorQB15
import Derived.Test.YtplimbgaoengfaaGreatDoorQB16
import Derived.Test.YtplimbgaoengfaaGreatDoorQB17
import Derived.Test.YtplimbgaoengfaaGreatDoorQB18
import Derived.Test.YtplimbgaoengfaaGreatDoorQB19
import Derived.Test.YtplimbgaoengfaaGreatDoorQB20
import Derived.Test.YtplimbgaoengfaaGreatDoorQB21
import Derived.Test.YtplimbgaoengfaaGreatDoorQB22
import Derived.Handy
import Derived.Deep.RegionHeld3
import Derived.Deep.RegionWith
import Derived.Deep.CutRange
namespace Go.Proofs.YtplimbgaoengfaaGreatDoor
open Go Go.RowKit
structure V3 where
  x : Rat
  y : Rat
  z : Rat
deriving DecidableEq
abbrev vv (v : V3) : Value := .agg #[.string (qs v.x), .string (qs v.y), .string (qs v.z)]

structure P2 where
  x : Rat
  y : Rat
deriving DecidableEq
abbrev pv (p : P2) : Value := .agg #[.string (qs p.x), .string (qs p.y)]

structure PB (k : Nat) (p : P2) : Prop where
  x : QB k p.x
  y : QB k p.y

deriving DecidableEq
def vadd (a b : V3) : V3 := ⟨a.x + b.x, a.y + b.y, a.z + b.z⟩
def vsub (a b : V3) : V3 := ⟨a.x - b.x, a.y - b.y, a.z - b.z⟩
def vdot (a b : V3) : Rat := a.x * b.x + (a.y * b.y + a.z * b.z)
def vcross (a b : V3) : V3 := ⟨a.y * b.z - a.z * b.y, a.z * b.x - a.x * b.z, a.x * b.y - a.y * b.x⟩
structure VB (k : Nat) (v : V3) : Prop where
  x : QB k v.x
  y : QB k v.y
  z : QB k v.z

theorem VB.add {k m : Nat} {a b : V3} (h : VB k a) (h2 : VB m b) : VB (k + m + 1) (vadd a b) := ⟨h.x.add h2.x, h.y.add h2.y, h.z.add h2.z⟩
theorem VB.sub {k m : Nat} {a b : V3} (h : VB k a) (h2 : VB m b) : VB (k + m + 1) (vsub a b) := ⟨h.x.sub h2.x, h.y.sub h2.y, h.z.sub h2.z⟩
theorem VB.dot {k m : Nat} {a b : V3} (h : VB k a) (h2 : VB m b) : QB (k + m + (k + m + (k + m) + 1) + 1) (vdot a b) := (h.x.mul h2.x).add ((h.y.mul h2.y).add (h.z.mul h2.z))
theorem VB.cross {k m : Nat} {a b : V3} (h : VB k a) (h2 : VB m b) : VB (k + m + (k + m) + 1) (vcross a b) := ⟨(h.y.mul h2.z).sub (h.z.mul h2.y), (h.z.mul h2.x).sub (h.x.mul h2.z), (h.x.mul h2.y).sub (h.y.mul h2.x)⟩

theorem keepsH6 {w w' : World} (e : Ext w w') {b0 o0 b1 o1 b2 o2 b3 o3 b4 o4 b5 o5 : Nat} {x0 x1 x2 x3 x4 x5 : Value} (h : w.cell? ⟨b0, o0, none⟩ = some x0 ∧ w.cell? ⟨b1, o1, none⟩ = some x1 ∧ w.cell? ⟨b2, o2, none⟩ = some x2 ∧ w.cell? ⟨b3, o3, none⟩ = some x3 ∧ w.cell? ⟨b4, o4, none⟩ = some x4 ∧ w.cell? ⟨b5, o5, none⟩ = some x5) : w'.cell? ⟨b0, o0, none⟩ = some x0 ∧ w'.cell? ⟨b1, o1, none⟩ = some x1 ∧ w'.cell? ⟨b2, o2, none⟩ = some x2 ∧ w'.cell? ⟨b3, o3, none⟩ = some x3 ∧ w'.cell? ⟨b4, o4, none⟩ = some x4 ∧ w'.cell? ⟨b5, o5, none⟩ = some x5 :=
  ⟨e.keeps h.1, e.keeps h.2.1, e.keeps h.2.2.1, e.keeps h.2.2.2.1, e.keeps h.2.2.2.2.1, e.keeps h.2.2.2.2.2⟩

end Go.Proofs.YtplimbgaoengfaaGreatDoor

namespace Go.Proofs.YtplimbgaoengfaaGreatDoor
open Go Go.RowKit
open Classical in
noncomputable def rq (s : ByteArray) : Bool := decide (RightQ s.data.toList)

open Classical in
theorem rq_true {s : ByteArray} : rq s = true ↔ RightQ s.data.toList := by unfold rq; exact decide_eq_true_iff
open Classical in
theorem rq_false {s : ByteArray} : rq s = false ↔ ¬ RightQ s.data.toList := by unfold rq; exact decide_eq_false_iff_not

theorem rcheck_yes (s : ByteArray) (w : World) (g : Gd w) (hl : s.size ≤ 1000000) (h : rq s = true) : Calls Tryz.prog 53 #[.string s] w (Ret w (.int .i64 0)) :=
  rcheck_c s w g 0 hl ⟨fun _ => rfl, fun e => absurd (rq_true.1 h) e⟩
theorem rcheck_not (s : ByteArray) (w : World) (g : Gd w) (hl : s.size ≤ 1000000) (h : rq s = false) : Calls Tryz.prog 53 #[.string s] w (Ret w (.int .i64 2)) :=
  rcheck_c s w g 2 hl ⟨fun e => absurd e (rq_false.1 h), fun _ => rfl⟩

noncomputable def terr (l : List ByteArray) : Int := if l.all rq then 0 else 2

theorem all_true {l : List ByteArray} (h : ∀ (i : Nat) (hi : i < l.length), rq l[i] = true) : l.all rq = true := by
  rw [List.all_eq_true]; intro x hx
  obtain ⟨i, hi, rfl⟩ := List.getElem_of_mem hx
  exact h i hi
theorem all_false {l : List ByteArray} {i : Nat} (hi : i < l.length) (h : rq l[i] = false) : l.all rq = false := by
  rw [List.all_eq_false]; exact ⟨_, List.getElem_mem hi, by simp [h]⟩

theorem Tryz.sizeRat (w : World) : (sizeOf 22).run Tryz.prog w = .ok 1 w := by kernel_rfl

set_option maxRecDepth 100000 in
set_option maxHeartbeats 1000000 in
theorem numbers_c (ss : List ByteArray) (b n cap : Nat) (w : World) (g : Gd w) (hn : ss.length = n) (hn9 : n ≤ 100) (hl : ∀ (i : Nat) (hi : i < ss.length), (ss[i]).size ≤ 1000000) (hb : b < w.heap.size)
    (hc : ∀ (i : Nat) (hi : i < ss.length), w.cell? ⟨b, i, none⟩ = some (.string ss[i])) :
    Calls Tryz.prog 86 #[.slice (some ⟨b, 0, none⟩) n cap] w (Ret w (.int .i64 (terr ss))) := by
  have HG := Lib.hid g; have HL := Lib.hid hl; have HC := Lib.hid hc; have HN := Lib.hid hn; have HBB := Lib.hid hb
  clear g hl hc hn hb
  go_enter Tryz.func86, Tryz.ntmps86
  go_wp2
  go_loopw [8] (fun x W => ∃ k : Nat, x = .int .i64 k ∧ k ≤ n ∧ Ext w W ∧ Hid (∀ (i : Nat) (_ : i < k) (hi : i < ss.length), rq ss[i] = true)) (fun x _ => n - (intOf x).toNat)
  case atStart => exact ⟨0, rfl, by omega, Ext.refl _, Lib.hid (fun i h => by omega)⟩
  case round =>
    obtain ⟨k, rfl, hk, hx, HR⟩ := hrel
    by_cases hkn : k < n
    · have hks : k < ss.length := by have := HN.out; omega
      obtain ⟨s, hs⟩ : ∃ s, s = ss[k] := ⟨_, rfl⟩
      have hsl : s.size ≤ 1000000 := by rw [hs]; exact HL.out k hks
      have hcell : ∀ W, Ext w W → W.cell? ⟨b, k, none⟩ = some (.string s) := fun W e => by rw [e.cell HBB.out, hs]; exact HC.out k hks
      have c1 := hcell _ hx
      have hix := run_index 75 22 rfl Tryz.sizeRat (ad := some ⟨b, 0, none⟩) (n := n) (cap := cap) (fun _ => rfl) k hkn
      have HS := Lib.hid hs
      clear hs hcell
      cases hq : rq s with
      | true =>
        have HQ := Lib.hid hq
        clear hq
        go_wp2_with (go_at_call 53; refine (rcheck_yes s _ (HG.out.ext hx) hsl HQ.out).mono ?_; rintro e w2 ⟨rfl, e2⟩)
        go_roundw
        case rel => exact ⟨k + 1, by go_num, by omega, hx.trans e2, Lib.hid (fun i h hi => by
          by_cases e : i = k
          · subst e; rw [← HS.out]; exact HQ.out
          · exact HR.out i (by omega) hi)⟩
        case measure => simp [intOf]; omega
      | false =>
        have HQ := Lib.hid hq
        clear hq
        go_wp2_with (go_at_call 53; refine (rcheck_not s _ (HG.out.ext hx) hsl HQ.out).mono ?_; rintro e w2 ⟨rfl, e2⟩)
        go_ret
        exact ⟨by unfold terr; rw [all_false hks (by rw [← HS.out]; exact HQ.out)]; rfl, hx.trans e2⟩
    · obtain rfl : k = n := by omega
      go_wp2
      go_ret
      exact ⟨by unfold terr; rw [all_true (fun i hi => HR.out i (by have := HN.out; omega) hi)]; rfl, hx⟩
end Go.Proofs.YtplimbgaoengfaaGreatDoor

namespace Go.Proofs.YtplimbgaoengfaaGreatDoor
open Go Go.RowKit
structure T3 where
  x : ByteArray
  y : ByteArray
  z : ByteArray
abbrev tv (t : T3) : Value := .agg #[.string t.x, .string t.y, .string t.z]
def T3.l (t : T3) : List ByteArray := [t.x, t.y, t.z]
structure TS (t : T3) : Prop where
  x : t.x.size ≤ 1000000
  y : t.y.size ≤ 1000000
  z : t.z.size ≤ 1000000
structure T2 where
  x : ByteArray
  y : ByteArray
abbrev tp (t : T2) : Value := .agg #[.string t.x, .string t.y]
def T2.l (t : T2) : List ByteArray := [t.x, t.y]
structure TS2 (t : T2) : Prop where
  x : t.x.size ≤ 1000000
  y : t.y.size ≤ 1000000

theorem rq_qs {q : Rat} (h : QB 200 q) : rq (qs q) = true :=
  rq_true.2 ⟨q, qs_list q, dec_len_le (by decide) h.num, dec_len_le (by decide) h.den⟩

theorem cells3 {w : World} {b : Nat} {x y z : ByteArray} {t : TypeId} (h : Blk w b #[.string x, .string y, .string z] t) : ∀ (i : Nat) (hi : i < [x, y, z].length), w.cell? ⟨b, i, none⟩ = some (.string [x, y, z][i])
  | 0, _ => h.cell 0 rfl
  | 1, _ => h.cell 1 rfl
  | 2, _ => h.cell 2 rfl
theorem cells2 {w : World} {b : Nat} {x y : ByteArray} {t : TypeId} (h : Blk w b #[.string x, .string y] t) : ∀ (i : Nat) (hi : i < [x, y].length), w.cell? ⟨b, i, none⟩ = some (.string [x, y][i])
  | 0, _ => h.cell 0 rfl
  | 1, _ => h.cell 1 rfl
theorem cells4 {w : World} {b : Nat} {x y z u : ByteArray} {t : TypeId} (h : Blk w b #[.string x, .string y, .string z, .string u] t) : ∀ (i : Nat) (hi : i < [x, y, z, u].length), w.cell? ⟨b, i, none⟩ = some (.string [x, y, z, u][i])
  | 0, _ => h.cell 0 rfl
  | 1, _ => h.cell 1 rfl
  | 2, _ => h.cell 2 rfl
  | 3, _ => h.cell 3 rfl
theorem sizes3 {x y z : ByteArray} (h1 : x.size ≤ 1000000) (h2 : y.size ≤ 1000000) (h3 : z.size ≤ 1000000) : ∀ (i : Nat) (hi : i < [x, y, z].length), ([x, y, z][i]).size ≤ 1000000
  | 0, _ => h1
  | 1, _ => h2
  | 2, _ => h3
theorem sizes2 {x y : ByteArray} (h1 : x.size ≤ 1000000) (h2 : y.size ≤ 1000000) : ∀ (i : Nat) (hi : i < [x, y].length), ([x, y][i]).size ≤ 1000000
  | 0, _ => h1
  | 1, _ => h2
set_option maxRecDepth 100000 in
theorem vcheck_c (t : T3) (w : World) (g : Gd w) (hs : TS t) : Calls Tryz.prog 69 #[tv t] w (Ret w (.int .i64 (terr t.l))) := by
  have HG := Lib.hid g; have HS := Lib.hid hs
  clear g hs
  go_enter Tryz.func69, Tryz.ntmps69
  go_wp2_with (go_at_call 86; refine (numbers_c [t.x, t.y, t.z] (w.heap.size + 1) 3 3 _ (HG.out.ext (((Ext.refl _).alloc _).alloc _)) rfl (by decide) (sizes3 HS.out.x HS.out.y HS.out.z) (by simp) (cells3 (by have := Blk.new (w.alloc (.cells #[.string t.x, .string t.y, .string t.z] 37)) #[.string t.x, .string t.y, .string t.z] 22; simpa using this))).mono ?_; rintro e w1 ⟨rfl, e1⟩)
  go_ret
  exact ⟨rfl, (((Ext.refl _).alloc _).alloc _).trans e1⟩

set_option maxRecDepth 100000 in
theorem vcheckp_c (t : T2) (w : World) (g : Gd w) (hs : TS2 t) : Calls Tryz.prog 54 #[tp t] w (Ret w (.int .i64 (terr t.l))) := by
  have HG := Lib.hid g; have HS := Lib.hid hs
  clear g hs
  go_enter Tryz.func54, Tryz.ntmps54
  go_wp2_with (go_at_call 86; refine (numbers_c [t.x, t.y] (w.heap.size + 1) 2 2 _ (HG.out.ext (((Ext.refl _).alloc _).alloc _)) rfl (by decide) (sizes2 HS.out.x HS.out.y) (by simp) (cells2 (by have := Blk.new (w.alloc (.cells #[.string t.x, .string t.y] 24)) #[.string t.x, .string t.y] 22; simpa using this))).mono ?_; rintro e w1 ⟨rfl, e1⟩)
  go_ret
  exact ⟨rfl, (((Ext.refl _).alloc _).alloc _).trans e1⟩

theorem run_indexK (t e : TypeId) (K : Nat) (hu : Tryz.prog.underlying t = some (.slice e)) (hs : ∀ w, (sizeOf e).run Tryz.prog w = .ok K w) {ad : Option Addr} {n cap b off : Nat} (h : 0 < n → ad = some ⟨b, off, none⟩) (i : Nat) (hi : i < n) (w : World) :
    (Instr.indexAt t (.slice ad n cap) (.int .i64 (i : Int))).run Tryz.prog w = .ok (.pointer (some ⟨b, off + i * K, none⟩)) w := by
  rw [h (by omega)]
  simp [Instr.indexAt, asIntOf, run_underlying hu, hs, go_sem, hi, Addr.add]

theorem Tryz.sizeVec (w : World) : (sizeOf 37).run Tryz.prog w = .ok 3 w := by kernel_rfl
noncomputable def verr (l : List T3) : Int := if l.all (fun t => t.l.all rq) then 0 else 2
theorem terr_0 {l : List ByteArray} (h : l.all rq = true) : terr l = 0 := by unfold terr; rw [h]; rfl
theorem terr_2 {l : List ByteArray} (h : l.all rq = false) : terr l = 2 := by unfold terr; rw [h]; rfl
theorem gall_true {α : Type} {f : α → Bool} {l : List α} (h : ∀ (i : Nat) (hi : i < l.length), f l[i] = true) : l.all f = true := by
  rw [List.all_eq_true]; intro x hx
  obtain ⟨i, hi, rfl⟩ := List.getElem_of_mem hx
  exact h i hi
theorem gall_false {α : Type} {f : α → Bool} {l : List α} {i : Nat} (hi : i < l.length) (h : f l[i] = false) : l.all f = false := by
  rw [List.all_eq_false]; exact ⟨_, List.getElem_mem hi, by simp [h]⟩

set_option maxRecDepth 100000 in
set_option maxHeartbeats 1000000 in
theorem vectors_c (ts : List T3) (b n cap : Nat) (w : World) (g : Gd w) (hn : ts.length = n) (hn9 : n ≤ 100) (hl : ∀ (i : Nat) (hi : i < ts.length), TS ts[i]) (hb : b < w.heap.size)
    (hc : ∀ (i : Nat) (hi : i < ts.length), w.cell? ⟨b, i * 3, none⟩ = some (.string (ts[i]).x) ∧ w.cell? ⟨b, i * 3 + 1, none⟩ = some (.string (ts[i]).y) ∧ w.cell? ⟨b, i * 3 + 2, none⟩ = some (.string (ts[i]).z)) :
    Calls Tryz.prog 93 #[.slice (some ⟨b, 0, none⟩) n cap] w (Ret w (.int .i64 (verr ts))) := by
  have HG := Lib.hid g; have HL := Lib.hid hl; have HC := Lib.hid hc; have HN := Lib.hid hn; have HBB := Lib.hid hb
  clear g hl hc hn hb
  go_enter Tryz.func93, Tryz.ntmps93
  go_wp2
  go_loopw [8] (fun x W => ∃ k : Nat, x = .int .i64 k ∧ k ≤ n ∧ Ext w W ∧ Hid (∀ (i : Nat) (_ : i < k) (hi : i < ts.length), ts[i].l.all rq = true)) (fun x _ => n - (intOf x).toNat)
  case atStart => exact ⟨0, rfl, by omega, Ext.refl _, Lib.hid (fun i h => by omega)⟩
  case round =>
    obtain ⟨k, rfl, hk, hx, HR⟩ := hrel
    by_cases hkn : k < n
    · have hks : k < ts.length := by have := HN.out; omega
      obtain ⟨s, hs⟩ : ∃ s, s = ts[k] := ⟨_, rfl⟩
      have hsl : TS s := by rw [hs]; exact HL.out k hks
      obtain ⟨d1, d2, d3⟩ := HC.out k hks
      rw [← hs] at d1 d2 d3
      have c1 := (hx.cell (p := ⟨b, k * 3, none⟩) HBB.out).trans d1
      have c2 := (hx.cell (p := ⟨b, k * 3 + 1, none⟩) HBB.out).trans d2
      have c3 := (hx.cell (p := ⟨b, k * 3 + 2, none⟩) HBB.out).trans d3
      have hix := run_indexK 158 37 3 rfl Tryz.sizeVec (ad := some ⟨b, 0, none⟩) (n := n) (cap := cap) (fun _ => rfl) k hkn
      have HS := Lib.hid hs; have HSL := Lib.hid hsl
      clear hs d1 d2 d3 hsl
      cases hq : s.l.all rq with
      | true =>
        have HQ := Lib.hid hq; have HT := Lib.hid (terr_0 hq)
        clear hq
        go_wp2_with (go_at_call 69; refine (vcheck_c s _ (HG.out.ext (by repeat (first | assumption | apply Ext.alloc | (refine Ext.setCell ?_ (by have := hx.size; simp; omega) _)))) HSL.out).mono ?_; rw [HT.out]; rintro e w2 ⟨rfl, e2⟩)
        go_roundw
        case rel => exact ⟨k + 1, by go_num, by omega, (hx.alloc _).trans e2, Lib.hid (fun i h hi => by
          by_cases e : i = k
          · subst e; rw [← HS.out]; exact HQ.out
          · exact HR.out i (by omega) hi)⟩
        case measure => simp [intOf]; omega
      | false =>
        have HQ := Lib.hid hq; have HT := Lib.hid (terr_2 hq)
        clear hq
        go_wp2_with (go_at_call 69; refine (vcheck_c s _ (HG.out.ext (by repeat (first | assumption | apply Ext.alloc | (refine Ext.setCell ?_ (by have := hx.size; simp; omega) _)))) HSL.out).mono ?_; rw [HT.out]; rintro e w2 ⟨rfl, e2⟩)
        go_ret
        exact ⟨by unfold verr; rw [gall_false hks (by rw [← HS.out]; exact HQ.out)]; rfl, (hx.alloc _).trans e2⟩
    · obtain rfl : k = n := by omega
      go_wp2
      go_ret
      exact ⟨by unfold verr; rw [gall_true (fun i hi => HR.out i (by have := HN.out; omega) hi)]; rfl, hx⟩

end Go.Proofs.YtplimbgaoengfaaGreatDoor

namespace Go.Proofs.YtplimbgaoengfaaGreatDoor
open Go Go.RowKit
theorem fright_yes (s : ByteArray) (w : World) (g : Gd w) (hl : s.size ≤ 1000000) (h : rq s = true) : Calls Tryz.prog 87 #[.string s] w (Ret w (.bool true)) :=
  fqright_c s w g true hl ⟨fun _ => rfl, fun e => absurd (rq_true.1 h) e⟩
theorem fright_no (s : ByteArray) (w : World) (g : Gd w) (hl : s.size ≤ 1000000) (h : rq s = false) : Calls Tryz.prog 87 #[.string s] w (Ret w (.bool false)) :=
  fqright_c s w g false hl ⟨fun e => absurd e (rq_false.1 h), fun _ => rfl⟩

end Go.Proofs.YtplimbgaoengfaaGreatDoor

namespace Go.Proofs.YtplimbgaoengfaaGreatDoor
open Go Go.RowKit
theorem abs_len (n : Int) : (zs (n.natAbs : Int)).size = (Lib.decDigits n.natAbs).length := by rw [zs_size, zl_nat]
theorem QB.iff200 (q : Rat) : QB 200 q ↔ (Lib.decDigits q.num.natAbs).length ≤ 200 ∧ (Lib.decDigits q.den).length ≤ 200 :=
  ⟨fun h => ⟨dec_len_le (by decide) h.num, dec_len_le (by decide) h.den⟩, fun h => ⟨lt_of_dec_len h.1, lt_of_dec_len h.2⟩⟩

set_option maxRecDepth 100000 in
theorem long_no (q : Rat) (w : World) (hq : QB 200 q) : Calls Tryz.prog 125 #[.string (qs q)] w (Ret w (.bool false)) := by
  have h := (QB.iff200 q).1 hq
  have h1 : ¬ (200 : Int) < ((zs (q.num.natAbs : Int)).size : Int) := by rw [abs_len]; omega
  have h2 : ¬ (200 : Int) < ((zs (q.den : Int)).size : Int) := by rw [zs_size, zl_nat]; omega
  have HQ := Lib.hid hq
  clear h hq
  go_enter Tryz.func125, Tryz.ntmps125
  go_wp2_with (first
    | (go_at_call 49; refine (parts_c q w HQ.out (by decide)).mono ?_; rintro e w1 ⟨rfl, e1⟩)
    | (go_at_call 100; refine (abs_c q.num _).mono ?_; rintro e w2 ⟨rfl, rfl⟩))
  go_ret
  exact ⟨by show Ending.returned (.bool (_ || _)) = _; rw [decide_eq_false (show ¬ (200 : Int) < ((zs (q.num.natAbs : Int)).size : Int) by omega), decide_eq_false (show ¬ (200 : Int) < ((zs (q.den : Int)).size : Int) by omega)]; rfl, e1⟩

set_option maxRecDepth 100000 in
theorem list_c (x : T3) (w : World) : Calls Tryz.prog 95 #[tv x] w (Ret w (tv x)) := by
  go_enter Tryz.func95, Tryz.ntmps95
  go_wp2
  refine bodyPost_ret (v := tv x) (by simp [results, Tryz.results95, go_sem]) rfl ⟨rfl, ((Ext.refl _).alloc _).alloc _⟩

set_option maxRecDepth 100000 in
theorem vector_c (x : T3) (w : World) : Calls Tryz.prog 99 #[tv x] w (Ret w (tv x)) := by
  go_enter Tryz.func99, Tryz.ntmps99
  go_wp2
  refine bodyPost_ret (v := tv x) (by simp [results, Tryz.results99, go_sem]) rfl ⟨rfl, ((Ext.refl _).alloc _).alloc _⟩

theorem idx3_0 (x y z : ByteArray) (w : World) : (Instr.index 125 (.agg #[.string x, .string y, .string z]) (.int .i64 0)).run Tryz.prog w = .ok (.string x) w := by kernel_rfl
theorem idx3_1 (x y z : ByteArray) (w : World) : (Instr.index 125 (.agg #[.string x, .string y, .string z]) (.int .i64 1)).run Tryz.prog w = .ok (.string y) w := by kernel_rfl
theorem idx3_2 (x y z : ByteArray) (w : World) : (Instr.index 125 (.agg #[.string x, .string y, .string z]) (.int .i64 2)).run Tryz.prog w = .ok (.string z) w := by kernel_rfl

set_option maxRecDepth 100000 in
set_option maxHeartbeats 1000000 in
theorem result_3 (x y z : Rat) (w : World) (h0 : QB 200 x) (h1 : QB 200 y) (h2 : QB 200 z) : Calls Tryz.prog 98 #[.agg #[.string (qs x), .string (qs y), .string (qs z)]] w (Ret w (.tuple #[.agg #[.string (qs x), .string (qs y), .string (qs z)], .int .i64 0])) := by
  have Hh0 := Lib.hid h0; have Hh1 := Lib.hid h1; have Hh2 := Lib.hid h2
  clear h0 h1 h2
  have ix0 := idx3_0 (qs x) (qs y) (qs z); have ix1 := idx3_1 (qs x) (qs y) (qs z); have ix2 := idx3_2 (qs x) (qs y) (qs z)
  go_enter Tryz.func98, Tryz.ntmps98
  go_wp2
  refine wp_loop_rounds 4 ?_
  rw [rounds_succ]
  go_wp2_with (go_at_call 125; refine (long_no x _ Hh0.out).mono ?_; rintro e w1 ⟨rfl, e1⟩)
  rw [rounds_succ]
  go_wp2_with (go_at_call 125; refine (long_no y _ Hh1.out).mono ?_; rintro e w2 ⟨rfl, e2⟩)
  rw [rounds_succ]
  go_wp2_with (go_at_call 125; refine (long_no z _ Hh2.out).mono ?_; rintro e w3 ⟨rfl, e3⟩; have B : Blk w3 w.heap.size #[.string (qs x), .string (qs y), .string (qs z)] 125 := ((Blk.new w #[.string (qs x), .string (qs y), .string (qs z)] 125).alloc (.cells #[.string ⟨#[]⟩, .string ⟨#[]⟩, .string ⟨#[]⟩] 37)).ext (by repeat (first | assumption | exact Ext.refl _ | apply Ext.drew | apply Ext.alloc | (refine Ext.setCell ?_ (by simp only []; omega) _) | (refine Ext.trans ?_ (by assumption)))); have d0 := B.cell 0 rfl; have d1 := B.cell 1 rfl; have d2 := B.cell 2 rfl; clear B)
  rw [rounds_succ]
  go_wp2_with (go_at_call 99; refine (vector_c ⟨qs x, qs y, qs z⟩ _).mono ?_; rintro e w4 ⟨rfl, e4⟩; have R : Blk w4 (w.heap.size + 1) #[.string ⟨#[]⟩, .string ⟨#[]⟩, .string ⟨#[]⟩] 37 := (by have := Blk.new (w.alloc (.cells #[.string (qs x), .string (qs y), .string (qs z)] 125)) #[.string ⟨#[]⟩, .string ⟨#[]⟩, .string ⟨#[]⟩] 37; simpa using this : Blk ((w.alloc (.cells #[.string (qs x), .string (qs y), .string (qs z)] 125)).alloc (.cells #[.string ⟨#[]⟩, .string ⟨#[]⟩, .string ⟨#[]⟩] 37)) (w.heap.size + 1) #[.string ⟨#[]⟩, .string ⟨#[]⟩, .string ⟨#[]⟩] 37).ext (by repeat (first | assumption | exact Ext.refl _ | apply Ext.drew | apply Ext.alloc | (refine Ext.setCell ?_ (by simp only []; omega) _) | (refine Ext.trans ?_ (by assumption)))); have c0 := R.cell 0 rfl; have c1 := R.cell 1 rfl; have c2 := R.cell 2 rfl; have f0 := R.free 0; have f1 := R.free 1; have f2 := R.free 2; have HR := Lib.hid R; clear R)
  clear c0 c1 c2 f0 f1 f2
  have R3 := (((HR.out.set 0 (.string (qs x))).set 1 (.string (qs y))).set 2 (.string (qs z)))
  have ex : Ext w (((w4.setCell ⟨w.heap.size + 1, 0, none⟩ (.string (qs x))).setCell ⟨w.heap.size + 1, 1, none⟩ (.string (qs y))).setCell ⟨w.heap.size + 1, 2, none⟩ (.string (qs z))) := ((((((((((Ext.refl _).alloc _).alloc _).trans e1).trans e2).trans e3).trans e4).setCell (by simp) _).setCell (by simp) _).setCell (by simp) _)
  have g0 := R3.cell 0 rfl; have g1 := R3.cell 1 rfl; have g2 := R3.cell 2 rfl
  clear R3
  generalize (((w4.setCell ⟨w.heap.size + 1, 0, none⟩ (.string (qs x))).setCell ⟨w.heap.size + 1, 1, none⟩ (.string (qs y))).setCell ⟨w.heap.size + 1, 2, none⟩ (.string (qs z))) = W' at *
  refine bodyPost_ret (v := .tuple #[.agg #[.string (qs x), .string (qs y), .string (qs z)], .int .i64 0]) (by simp [results, Tryz.results98, go_sem, g0, g1, g2]) rfl ⟨rfl, ex⟩
end Go.Proofs.YtplimbgaoengfaaGreatDoor

namespace Go.Proofs.YtplimbgaoengfaaGreatDoor
open Go Go.RowKit
theorem Blk.new' {w : World} {k : Nat} {cs : Array Value} {t : TypeId} (hk : k = w.heap.size) : Blk (w.alloc (.cells cs t)) k cs t := by subst hk; exact Blk.new w cs t
theorem wp_name {P : World → Prop} {w0 : World} (I : World → Prop) (h : I w0) (k : ∀ W, I W → P W) : P w0 := k w0 h
theorem QB.min {k m : Nat} {a b : Rat} (ha : QB k a) (hb : QB m b) : QB (max k m) (qmin a b) := by
  unfold qmin; split
  · exact hb.mono (Nat.le_max_right _ _)
  · exact ha.mono (Nat.le_max_left _ _)
theorem QB.max {k m : Nat} {a b : Rat} (ha : QB k a) (hb : QB m b) : QB (Nat.max k m) (qmax a b) := by
  unfold qmax; split
  · exact hb.mono (Nat.le_max_right _ _)
  · exact ha.mono (Nat.le_max_left _ _)
theorem keepsH1 {w w' : World} (e : Ext w w') {b0 o0 : Nat} {x0 : Value} (h : w.cell? ⟨b0, o0, none⟩ = some x0) : w'.cell? ⟨b0, o0, none⟩ = some x0 :=
  e.keeps h
end Go.Proofs.YtplimbgaoengfaaGreatDoor

namespace Go.Proofs.YtplimbgaoengfaaGreatDoor
open Go Go.RowKit
def v3at (v : V3) (k : Nat) : Rat := if k = 0 then v.x else if k = 1 then v.y else v.z
def v3mix (r v : V3) (k : Nat) : Array Value := #[.string (qs (if 0 < k then r.x else v.x)), .string (qs (if 1 < k then r.y else v.y)), .string (qs (if 2 < k then r.z else v.z))]
theorem v3mix_0 (r v : V3) : v3mix r v 0 = #[.string (qs v.x), .string (qs v.y), .string (qs v.z)] := rfl
theorem v3mix_3 (r v : V3) : v3mix r v 3 = #[.string (qs r.x), .string (qs r.y), .string (qs r.z)] := rfl
theorem v3mix_at {r v : V3} {k : Nat} (h : k < 3) : (v3mix r v k)[k]? = some (.string (qs (v3at v k))) := by
  match k, h with
  | 0, _ => rfl
  | 1, _ => rfl
  | 2, _ => rfl
theorem v3mix_set {r v : V3} {k : Nat} (h : k < 3) {q : Rat} (hq : q = v3at r k) : (v3mix r v k).setIfInBounds k (.string (qs q)) = v3mix r v (k + 1) := by
  subst hq
  match k, h with
  | 0, _ => rfl
  | 1, _ => rfl
  | 2, _ => rfl
theorem v3cells_at {v : V3} {k : Nat} (h : k < 3) : (#[.string (qs v.x), .string (qs v.y), .string (qs v.z)] : Array Value)[k]? = some (.string (qs (v3at v k))) := by
  match k, h with
  | 0, _ => rfl
  | 1, _ => rfl
  | 2, _ => rfl
theorem VB.at {n : Nat} {v : V3} (h : VB n v) (k : Nat) : QB n (v3at v k) := by
  unfold v3at; split
  · exact h.x
  · split
    · exact h.y
    · exact h.z
theorem tri_index0 (w : World) (b : Nat) : (Instr.indexAt 125 (.pointer (some ⟨b, 0, none⟩)) (.int .i64 0)).run Tryz.prog w = .ok (.pointer (some ⟨b, 0, none⟩)) w := by kernel_rfl
theorem tri_index1 (w : World) (b : Nat) : (Instr.indexAt 125 (.pointer (some ⟨b, 0, none⟩)) (.int .i64 1)).run Tryz.prog w = .ok (.pointer (some ⟨b, 1, none⟩)) w := by kernel_rfl
theorem tri_index2 (w : World) (b : Nat) : (Instr.indexAt 125 (.pointer (some ⟨b, 0, none⟩)) (.int .i64 2)).run Tryz.prog w = .ok (.pointer (some ⟨b, 2, none⟩)) w := by kernel_rfl
theorem tri_index (w : World) (b k : Nat) (h : k < 3) : (Instr.indexAt 125 (.pointer (some ⟨b, 0, none⟩)) (.int .i64 (k : Int))).run Tryz.prog w = .ok (.pointer (some ⟨b, k, none⟩)) w := by
  have e : k = 0 ∨ k = 1 ∨ k = 2 := by omega
  rcases e with rfl | rfl | rfl
  · exact tri_index0 w b
  · exact tri_index1 w b
  · exact tri_index2 w b

set_option maxRecDepth 100000 in
theorem list_e (x : T3) (w : World) : Calls Tryz.prog 95 #[tv x] w fun e w' => e = .returned (tv x) ∧ w' = (w.alloc (.cells #[.string x.x, .string x.y, .string x.z] 37)).alloc (.cells #[.string x.x, .string x.y, .string x.z] 125) := by
  go_enter Tryz.func95, Tryz.ntmps95
  go_wp2
  refine bodyPost_ret (v := tv x) (by simp [results, Tryz.results95, go_sem]) rfl ⟨rfl, rfl⟩

end Go.Proofs.YtplimbgaoengfaaGreatDoor

namespace Go.Proofs.YtplimbgaoengfaaGreatDoor
open Go Go.RowKit
set_option maxRecDepth 100000 in
theorem vzero_c (v : V3) (w : World) : Calls Tryz.prog 94 #[vv v] w (Ret w (.bool (decide (v.x = 0 ∧ v.y = 0 ∧ v.z = 0)))) := by
  by_cases hx : v.x = 0
  · by_cases hy : v.y = 0
    · by_cases hz : v.z = 0
      · have h1 := qs_is0 hx; have h2 := qs_is0 hy; have h3 := qs_is0 hz
        have H : Hid (decide (v.x = 0 ∧ v.y = 0 ∧ v.z = 0) = true) := Lib.hid (by simp [hx, hy, hz])
        clear hx hy hz
        go_enter Tryz.func94, Tryz.ntmps94
        go_wp2
        go_ret
        exact ⟨by rw [H.out]; rfl, (Ext.refl _).alloc _⟩
      · have h1 := qs_is0 hx; have h2 := qs_is0 hy; have h3 := qs_not0 hz
        have H : Hid (decide (v.x = 0 ∧ v.y = 0 ∧ v.z = 0) = false) := Lib.hid (by simp [hz])
        clear hx hy hz
        go_enter Tryz.func94, Tryz.ntmps94
        go_wp2
        go_ret
        exact ⟨by rw [H.out]; rfl, (Ext.refl _).alloc _⟩
    · have h1 := qs_is0 hx; have h2 := qs_not0 hy
      have H : Hid (decide (v.x = 0 ∧ v.y = 0 ∧ v.z = 0) = false) := Lib.hid (by simp [hy])
      clear hx hy
      go_enter Tryz.func94, Tryz.ntmps94
      go_wp2
      go_ret
      exact ⟨by rw [H.out]; rfl, (Ext.refl _).alloc _⟩
  · have h1 := qs_not0 hx
    have H : Hid (decide (v.x = 0 ∧ v.y = 0 ∧ v.z = 0) = false) := Lib.hid (by simp [hx])
    clear hx
    go_enter Tryz.func94, Tryz.ntmps94
    go_wp2
    go_ret
    exact ⟨by rw [H.out]; rfl, (Ext.refl _).alloc _⟩

theorem VB.mono {k m : Nat} {v : V3} (h : VB k v) (hk : k ≤ m) : VB m v := ⟨h.x.mono hk, h.y.mono hk, h.z.mono hk⟩
theorem PB.mono {k m : Nat} {v : P2} (h : PB k v) (hk : k ≤ m) : PB m v := ⟨h.x.mono hk, h.y.mono hk⟩
theorem VB.ts {v : V3} (h : VB 200 v) : TS ⟨qs v.x, qs v.y, qs v.z⟩ := ⟨h.x.len (by decide), h.y.len (by decide), h.z.len (by decide)⟩
theorem PB.ts {p : P2} (h : PB 200 p) : TS2 ⟨qs p.x, qs p.y⟩ := ⟨h.x.len (by decide), h.y.len (by decide)⟩
theorem VB.all {v : V3} (h : VB 200 v) : (T3.l ⟨qs v.x, qs v.y, qs v.z⟩).all rq = true := by simp [T3.l, rq_qs h.x, rq_qs h.y, rq_qs h.z]
theorem PB.all {p : P2} (h : PB 200 p) : (T2.l ⟨qs p.x, qs p.y⟩).all rq = true := by simp [T2.l, rq_qs h.x, rq_qs h.y]

theorem vectors1_c (a : T3) (kb : Nat) (w : World) (g : Gd w) (ha : TS a) (hB : Blk w kb #[.string a.x, .string a.y, .string a.z] 37) : Calls Tryz.prog 93 #[.slice (some ⟨kb, 0, none⟩) 1 1] w (Ret w (.int .i64 (verr [a]))) :=
  vectors_c [a] kb 1 1 w g rfl (by decide) (fun i hi => match i, hi with | 0, _ => ha) hB.lt (fun i hi => match i, hi with | 0, _ => ⟨hB.cell 0 rfl, hB.cell 1 rfl, hB.cell 2 rfl⟩)
theorem vectors1_ok (a : V3) (kb : Nat) (w : World) (g : Gd w) (ha : VB 200 a) (hB : Blk w kb #[.string (qs a.x), .string (qs a.y), .string (qs a.z)] 37) : Calls Tryz.prog 93 #[.slice (some ⟨kb, 0, none⟩) 1 1] w (Ret w (.int .i64 0)) := by
  have := vectors1_c ⟨qs a.x, qs a.y, qs a.z⟩ kb w g ha.ts hB
  rwa [show verr [⟨qs a.x, qs a.y, qs a.z⟩] = 0 by unfold verr; simp only [List.all_cons, List.all_nil, ha.all]; rfl] at this

theorem radd_0 (b : Rat) {k : Nat} (w : World) (g : Gd w) (hb : QB k b) (hk : k ≤ 3000) : Calls Tryz.prog 21 #[.string ⟨#[48]⟩, .string (qs b)] w (Ret w (.string (qs b))) := by
  have := radd_c 0 b w g (⟨by decide, by decide⟩ : QB 1 0) hb (by decide) hk
  rwa [qs_zero, Rat.zero_add] at this

set_option maxRecDepth 100000 in
set_option maxHeartbeats 2000000 in
theorem sum3_c (x y z : Rat) (cb : Nat) {k : Nat} {ty : TypeId} (w : World) (g : Gd w) (hx : QB k x) (hy : QB k y) (hz : QB k z) (hcb : Blk w cb #[.string (qs x), .string (qs y), .string (qs z)] ty) (hk : k ≤ 1490) : Calls Tryz.prog 72 #[.slice (some ⟨cb, 0, none⟩) 3 3] w (Ret w (.string (qs (x + y + z)))) := by
  have HG := Lib.hid g
  have HX0 := Lib.hid hx
  have HY0 := Lib.hid hy
  have HZ0 := Lib.hid hz
  have HCB := Lib.hid hcb
  clear g hx hy hz hcb
  go_enter Tryz.func72, Tryz.ntmps72
  go_wp2_with fail
  refine wp_loop_rounds 4 ?_
  rw [rounds_succ]
  have cP_0 := HCB.out.cell 0 rfl
  go_wp2_with fail
  refine (radd_0 x _ (HG.out.ext (Ext.refl w)) HX0.out (by omega)).mono ?_; rintro e w1 ⟨rfl, e1⟩
  have HX1 : Hid (Ext w w1) := Lib.hid ((Ext.refl w).trans e1)
  have HBP_1 := Lib.hid (Blk.ext HCB.out e1)
  clear e1 cP_0
  go_wp2_with fail
  rw [rounds_succ]
  have cP_1 := HBP_1.out.cell 1 rfl
  go_wp2_with fail
  refine (radd_c x y _ (HG.out.ext HX1.out) HX0.out HY0.out (by omega) (by omega)).mono ?_; rintro e w2 ⟨rfl, e2⟩
  have HX2 : Hid (Ext w w2) := Lib.hid (HX1.out.trans e2)
  have HBP_2 := Lib.hid (Blk.ext HBP_1.out e2)
  clear e2 cP_1
  go_wp2_with fail
  rw [rounds_succ]
  have cP_2 := HBP_2.out.cell 2 rfl
  go_wp2_with fail
  refine (radd_c (x + y) z _ (HG.out.ext HX2.out) (HX0.out.add HY0.out) HZ0.out (by omega) (by omega)).mono ?_; rintro e w3 ⟨rfl, e3⟩
  have HX3 : Hid (Ext w w3) := Lib.hid (HX2.out.trans e3)
  clear e3 cP_2
  go_wp2_with fail
  rw [rounds_succ]
  go_wp2
  go_ret
  exact ⟨rfl, HX3.out⟩
end Go.Proofs.YtplimbgaoengfaaGreatDoor

namespace Go.Proofs.YtplimbgaoengfaaGreatDoor
open Go Go.RowKit
set_option maxRecDepth 100000 in
set_option maxHeartbeats 2000000 in
theorem scale1_c (x y q : Rat) (cb : Nat) {k m : Nat} (w : World) (g : Gd w) (hx : QB k x) (hq : QB m q) (hcb : Blk w cb #[.string (qs q)] 22) (hk : k ≤ 3000) (hm : m ≤ 3000) : Calls Tryz.prog 124 #[.string (qs x), .string (qs y), .pointer (some ⟨cb, 0, none⟩)] w (Ret w (.string (qs (x * q)))) := by
  have HG := Lib.hid g
  have HX0 := Lib.hid hx
  have HQ := Lib.hid hq
  have HCB := Lib.hid hcb
  clear g hx hq hcb
  go_enter Tryz.func124, Tryz.ntmps124
  have cP_0 := HCB.out.cell 0 rfl
  go_wp2_with fail
  refine (rmul_c x q _ (HG.out.ext (Ext.refl w)) HX0.out HQ.out (by omega) (by omega)).mono ?_; rintro e w1 ⟨rfl, e1⟩
  have HX1 : Hid (Ext w w1) := Lib.hid ((Ext.refl w).trans e1)
  clear e1 cP_0
  go_wp2
  go_ret
  exact ⟨rfl, HX1.out⟩

set_option maxRecDepth 100000 in
set_option maxHeartbeats 4000000 in
theorem each_scale (a b : V3) (q : Rat) (cb : Nat) {k m n : Nat} (w : World) (g : Gd w) (ha : VB k a) (hb : VB m b) (hq : QB n q) (hcb : Blk w cb #[.string (qs q)] 22) (hk : k ≤ 3000) (hn : n ≤ 3000) : Calls Tryz.prog 123 #[vv a, vv b, .func (.func 124) #[] #[.pointer (some ⟨cb, 0, none⟩)]] w (Ret w (vv ⟨a.x * q, a.y * q, a.z * q⟩)) := by
  have HG := Lib.hid g
  have HA := Lib.hid ha
  have HB := Lib.hid hb
  have HQ := Lib.hid hq
  have HCB := Lib.hid hcb
  clear g ha hb hq hcb
  obtain ⟨r, hr⟩ : ∃ r : V3, r = ⟨a.x * q, a.y * q, a.z * q⟩ := ⟨_, rfl⟩
  have hat : ∀ k : Nat, (v3at a k) * q = v3at r k := by intro k; rw [hr]; unfold v3at; split <;> (try split) <;> rfl
  have HAT := Lib.hid hat; have HR0 := Lib.hid hr
  rw [show (⟨a.x * q, a.y * q, a.z * q⟩ : V3) = r from hr.symm]
  clear hat hr
  go_enter Tryz.func123, Tryz.ntmps123
  go_wp2_with fail
  refine wp_name (fun W => Ext w W ∧ Blk W w.heap.size #[.string (qs a.x), .string (qs a.y), .string (qs a.z)] 37 ∧ Blk W (w.heap.size + 1) #[.string (qs b.x), .string (qs b.y), .string (qs b.z)] 37 ∧ Blk W (w.heap.size + 1 + 1) #[.string ⟨#[]⟩, .string ⟨#[]⟩, .string ⟨#[]⟩] 125) ⟨(((Ext.refl _).alloc _).alloc _).alloc _, ((Blk.new' rfl).alloc _).alloc _, (Blk.new' (by first | rfl | simp)).alloc _, Blk.new' (by first | rfl | simp)⟩ ?_
  rintro W ⟨ew, b0, b1, b2⟩
  have HC := Lib.hid (And.intro (b0.cell 0 rfl) (And.intro (b0.cell 1 rfl) (And.intro (b0.cell 2 rfl) (And.intro (b1.cell 0 rfl) (And.intro (b1.cell 1 rfl) (b1.cell 2 rfl))))))
  have HEW := Lib.hid ew; have HB2 := Lib.hid b2
  clear b0 b1 b2 ew
  go_cut [7, 8] from 10 to 13 (fun p q wx => ∃ i j : Nat, p = .pointer (some ⟨i, 0, none⟩) ∧ q = .pointer (some ⟨j, 0, none⟩) ∧ i ≠ j ∧ W.heap.size ≤ i ∧ W.heap.size ≤ j ∧ Ext W wx ∧ Blk wx i #[.string (qs a.x), .string (qs a.y), .string (qs a.z)] 125 ∧ Blk wx j #[.string (qs b.x), .string (qs b.y), .string (qs b.z)] 125)
  case first =>
    go_region_held3 (fun w' => w'.cell? ⟨w.heap.size, 0, none⟩ = some (.string (qs a.x)) ∧ w'.cell? ⟨w.heap.size, 1, none⟩ = some (.string (qs a.y)) ∧ w'.cell? ⟨w.heap.size, 2, none⟩ = some (.string (qs a.z)) ∧ w'.cell? ⟨w.heap.size + 1, 0, none⟩ = some (.string (qs b.x)) ∧ w'.cell? ⟨w.heap.size + 1, 1, none⟩ = some (.string (qs b.y)) ∧ w'.cell? ⟨w.heap.size + 1, 2, none⟩ = some (.string (qs b.z)))
      (exact keepsH6 (by repeat (first | exact Ext.refl _ | apply Ext.drew | apply Ext.alloc | (refine Ext.setCell ?_ (by simp) _))) HC.out) (first
      | (go_at_call 95; ((with_reducible refine (list_e ⟨qs a.x, qs a.y, qs a.z⟩ _).mono ?_); rintro e w' ⟨rfl, rfl⟩))
      | (go_at_call 95; refine (list_e ⟨qs b.x, qs b.y, qs b.z⟩ _).mono ?_; rintro e w' ⟨rfl, rfl⟩))
    all_goals (go_wp2; go_meet)
    all_goals (refine ⟨_, _, rfl, rfl, by omega, by omega, by omega, by (repeat (first | exact Ext.refl _ | apply Ext.drew | apply Ext.alloc | (refine Ext.setCell ?_ (by simp) _))), ?_, ?_⟩)
    all_goals (repeat (first | (refine Blk.new' ?_; first | rfl | (simp only [World.size_alloc]; done) | (simp only [World.size_alloc]; omega)) | apply Blk.alloc | apply Blk.drew))
  case rest =>
    obtain ⟨i, j, rfl, rfl, hij, hi, hj, hx, B1, B2⟩ := hcut
    have HIJ := Lib.hid hij; have HI := Lib.hid hi; have HJ := Lib.hid hj
    have H1 := Lib.hid B1; have H2 := Lib.hid B2; have HX := Lib.hid hx
    clear B1 B2 hx hij hi hj
    go_wp2_with fail
    go_loopw [14] (fun x wx => ∃ k : Nat, x = .int .i64 k ∧ k ≤ 3 ∧ Hid (Ext W wx ∧ Blk wx i (v3mix r a k) 125 ∧ Blk wx j #[.string (qs b.x), .string (qs b.y), .string (qs b.z)] 125)) (fun x _ => 3 - (intOf x).toNat)
    case atStart => exact ⟨0, rfl, by omega, Lib.hid ⟨HX.out, by rw [v3mix_0]; exact H1.out, H2.out⟩⟩
    case round =>
      rename_i wx
      obtain ⟨k, rfl, hk, HH⟩ := hrel
      by_cases hk3 : k < 3
      · have hix : ∀ (w : World) (b : Nat), (Instr.indexAt 125 (.pointer (some ⟨b, 0, none⟩)) (.int .i64 (k : Int))).run Tryz.prog w = .ok (.pointer (some ⟨b, k, none⟩)) w := fun w b => tri_index w b k hk3
        have c0 := HH.out.2.1.drew.cell k (v3mix_at hk3); have k0 := HH.out.2.2.drew.cell k (v3cells_at hk3)
        go_upto_region 5 with fail
        go_region_with (first
          | (go_at_call 124; refine (scale1_c (v3at a k) (v3at b k) q cb _ (HG.out.ext (HEW.out.trans HH.out.1.drew)) (HA.out.at k) HQ.out (HCB.out.ext (HEW.out.trans HH.out.1.drew)) (by omega) (by omega)).mono ?_; rintro e w1 ⟨rfl, e0⟩; have R := HH.out.2.1.drew.ext e0; have d0 := R.cell k (v3mix_at hk3); have f0 := R.free k; have HR := Lib.hid R; clear R))
        all_goals
          have HN : Hid (Ext W (w1.setCell ⟨i, k, none⟩ (.string (qs ((v3at a k) * q)))) ∧ Blk (w1.setCell ⟨i, k, none⟩ (.string (qs ((v3at a k) * q)))) i (v3mix r a (k + 1)) 125 ∧ Blk (w1.setCell ⟨i, k, none⟩ (.string (qs ((v3at a k) * q)))) j #[.string (qs b.x), .string (qs b.y), .string (qs b.z)] 125) :=
            Lib.hid ⟨(HH.out.1.drew.trans e0).setCell (p := ⟨i, k, none⟩) HI.out _, by rw [← v3mix_set hk3 (HAT.out k)]; exact HR.out.set k _, (HH.out.2.2.drew.ext e0).other (a := ⟨i, k, none⟩) _ (fun h => HIJ.out h.symm)⟩
          clear c0 d0 f0 k0 HR
          go_wp2_with fail
          go_roundw
          case rel => exact ⟨k + 1, by go_num, by omega, HN⟩
          case measure => simp [intOf]; omega
      · obtain rfl : k = 3 := by omega
        have h3 := HH.out.2.1
        rw [v3mix_3] at h3
        have c0 := h3.cell 0 rfl; have c1 := h3.cell 1 rfl; have c2 := h3.cell 2 rfl
        have RR := HB2.out.ext HH.out.1
        have r0 := RR.cell 0 rfl; have r1 := RR.cell 1 rfl; have r2 := RR.cell 2 rfl; have q0 := RR.free 0; have q1 := RR.free 1; have q2 := RR.free 2
        have HRR := Lib.hid RR
        clear RR h3 hk3
        go_wp2
        refine wp_name (fun W' => Ext w W' ∧ Blk W' (w.heap.size + 1 + 1) #[.string (qs r.x), .string (qs r.y), .string (qs r.z)] 125) ⟨((((HEW.out.trans HH.out.1).setCell (by simp only []; omega) _).setCell (by simp only []; omega) _).setCell (by simp only []; omega) _), ((HRR.out.set 0 _).set 1 _).set 2 _⟩ ?_
        clear c0 c1 c2 r0 r1 r2 q0 q1 q2
        rintro W' ⟨ex, R3⟩
        have g0 := R3.cell 0 rfl; have g1 := R3.cell 1 rfl; have g2 := R3.cell 2 rfl
        refine bodyPost_ret (v := .agg #[.string (qs r.x), .string (qs r.y), .string (qs r.z)]) (by simp [results, Tryz.results123, go_sem, g0, g1, g2]) rfl ⟨rfl, ex⟩
end Go.Proofs.YtplimbgaoengfaaGreatDoor

namespace Go.Proofs.YtplimbgaoengfaaGreatDoor
open Go Go.RowKit
theorem vzero_t (v : V3) (w : World) (h : v.x = 0 ∧ v.y = 0 ∧ v.z = 0) : Calls Tryz.prog 94 #[vv v] w (Ret w (.bool true)) := by
  have := vzero_c v w; rwa [decide_eq_true h] at this
theorem vzero_f (v : V3) (w : World) (h : ¬ (v.x = 0 ∧ v.y = 0 ∧ v.z = 0)) : Calls Tryz.prog 94 #[vv v] w (Ret w (.bool false)) := by
  have := vzero_c v w; rwa [decide_eq_false h] at this
def z3 (x y z : Rat) : Bool := decide (x = 0 ∧ y = 0 ∧ z = 0)
set_option maxRecDepth 100000 in
set_option maxHeartbeats 2000000 in
theorem vscale0_c (a : V3) (q : Rat) {k m : Nat} (w : World) (g : Gd w) (ha : VB k a) (hq : QB m q) (hk : k ≤ 3000) (hm : m ≤ 3000) : Calls Tryz.prog 96 #[.agg #[.string (qs a.x), .string (qs a.y), .string (qs a.z)], .string (qs q)] w (Ret w (.agg #[.string (qs (a.x * q)), .string (qs (a.y * q)), .string (qs (a.z * q))])) := by
  have HA := Lib.hid ha
  have HQ := Lib.hid hq
  have HG := Lib.hid g
  clear ha hq g
  go_enter Tryz.func96, Tryz.ntmps96
  go_wp2_with fail
  refine (each_scale a a q (w.heap.size + 1) _ (HG.out.ext ((((Ext.refl w).alloc _).alloc _).alloc _)) HA.out HA.out HQ.out ((Blk.new' (w := _) (cs := #[.string (qs q)]) (t := 22) (by first | rfl | (simp only [World.size_alloc]; done) | (simp only [World.size_alloc]; omega) | simp)).alloc _) (by omega) (by omega)).mono ?_; rintro e w1 ⟨rfl, e1⟩
  have HX1 : Hid (Ext w w1) := Lib.hid (((((Ext.refl w).alloc _).alloc _).alloc _).trans e1)
  have HB1_1 : Hid (Blk w1 (w.heap.size + 1) #[.string (qs q)] 22) := Lib.hid (Blk.ext ((Blk.new' (w := _) (cs := #[.string (qs q)]) (t := 22) (by first | rfl | (simp only [World.size_alloc]; done) | (simp only [World.size_alloc]; omega) | simp)).alloc _) e1)
  have HB2_1 : Hid (Blk w1 (w.heap.size + 1 + 1) #[.string ⟨#[]⟩, .string ⟨#[]⟩, .string ⟨#[]⟩] 125) := Lib.hid (Blk.ext (Blk.new' (w := _) (cs := #[.string ⟨#[]⟩, .string ⟨#[]⟩, .string ⟨#[]⟩]) (t := 125) (by first | rfl | (simp only [World.size_alloc]; done) | (simp only [World.size_alloc]; omega) | simp)) e1)
  have HGEB1 : Hid (w.heap.size ≤ w.heap.size + 1) := Lib.hid (by first | omega | (simp only []; omega) | (simp; omega))
  have HGEB2 : Hid (w.heap.size ≤ w.heap.size + 1 + 1) := Lib.hid (by first | omega | (simp only []; omega) | (simp; omega))
  clear e1
  have c2_0 := HB2_1.out.cell 0 rfl
  have f2_0 := HB2_1.out.free 0
  have c2_1 := HB2_1.out.cell 1 rfl
  have f2_1 := HB2_1.out.free 1
  have c2_2 := HB2_1.out.cell 2 rfl
  have f2_2 := HB2_1.out.free 2
  go_wp2_with fail
  refine wp_name (fun W => Ext w W ∧ Blk W (w.heap.size + 1 + 1) #[.string (qs (a.x * q)), .string (qs (a.y * q)), .string (qs (a.z * q))] 125) ⟨(((HX1.out.setCell (by have := HGEB2.out; first | omega | (simp only []; omega) | (simp; omega)) _).setCell (by have := HGEB2.out; first | omega | (simp only []; omega) | (simp; omega)) _).setCell (by have := HGEB2.out; first | omega | (simp only []; omega) | (simp; omega)) _), (((HB2_1.out.set 0 (.string (qs (a.x * q)))).set 1 (.string (qs (a.y * q)))).set 2 (.string (qs (a.z * q))))⟩ ?_
  rintro w2 ⟨e2, bB2_2⟩
  have HX2 := Lib.hid e2; have HB2_2 := Lib.hid bB2_2
  clear e2 bB2_2 c2_0 f2_0 c2_1 f2_1 c2_2 f2_2
  have gB2_0 := HB2_2.out.cell 0 rfl
  have gB2_1 := HB2_2.out.cell 1 rfl
  have gB2_2 := HB2_2.out.cell 2 rfl
  refine bodyPost_ret (v := .agg #[.string (qs (a.x * q)), .string (qs (a.y * q)), .string (qs (a.z * q))]) (by simp [results, Tryz.results96, go_sem, gB2_0, gB2_1, gB2_2]) rfl ⟨rfl, HX2.out⟩

end Go.Proofs.YtplimbgaoengfaaGreatDoor

namespace Go.Proofs.YtplimbgaoengfaaGreatDoor
open Go Go.RowKit
theorem vCheck_ok (v : V3) (w : World) (g : Gd w) (hv : VB 200 v) : Calls Tryz.prog 69 #[vv v] w (Ret w (.int .i64 0)) := by
  have := vcheck_c ⟨qs v.x, qs v.y, qs v.z⟩ w g hv.ts
  rwa [show terr (T3.l ⟨qs v.x, qs v.y, qs v.z⟩) = 0 from terr_0 hv.all] at this
theorem vCheckPoint_ok (v : P2) (w : World) (g : Gd w) (hv : PB 200 v) : Calls Tryz.prog 54 #[pv v] w (Ret w (.int .i64 0)) := by
  have := vcheckp_c ⟨qs v.x, qs v.y⟩ w g hv.ts
  rwa [show terr (T2.l ⟨qs v.x, qs v.y⟩) = 0 from terr_0 hv.all] at this

end Go.Proofs.YtplimbgaoengfaaGreatDoor

namespace Go.Proofs.YtplimbgaoengfaaGreatDoor
open Go Go.RowKit
theorem QB.inum {k : Nat} {q : Rat} (h : QB k q) : IB k q.num := ⟨h.num⟩
theorem QB.iden {k : Nat} {q : Rat} (h : QB k q) : IB k (q.den : Int) := ⟨by simpa using h.den⟩
theorem IB.zero : IB 1 0 := ⟨by decide⟩
theorem IB.one : IB 1 1 := ⟨by decide⟩
theorem IB.gcd {k m : Nat} {a b : Int} (ha : IB k a) (hb : IB m b) : IB (max k m) (Int.gcd a b : Int) := by
  by_cases h : b = 0
  · subst h; have := ha.mono (Nat.le_max_left k m); exact this.of_le (by simp)
  · exact (hb.mono (Nat.le_max_right k m)).of_le (by rw [Int.natAbs_natCast]; exact Nat.le_of_dvd (by omega) (Int.gcd_dvd_natAbs_right a b))
theorem IB.div {k : Nat} {a : Int} (ha : IB k a) (b : Int) : IB k (a / b) := ha.of_le (Int.natAbs_ediv_le_natAbs a b)
theorem gcd_1 (b : Int) {m : Nat} (w : World) (g : Gd w) (hb : IB m b) (hm : m ≤ 9000) : Calls Tryz.prog 77 #[.string ⟨#[49]⟩, .string (zs b)] w (Ret w (.string (zs (Int.gcd 1 b : Int)))) := by
  have := gcd_c 1 b w g IB.one hb (by decide) hm; rwa [zs_one] at this
theorem gcd_0 (b : Int) {m : Nat} (w : World) (g : Gd w) (hb : IB m b) (hm : m ≤ 9000) : Calls Tryz.prog 77 #[.string ⟨#[48]⟩, .string (zs b)] w (Ret w (.string (zs (Int.gcd 0 b : Int)))) := by
  have := gcd_c 0 b w g IB.zero hb (by decide) hm; rwa [zs_zero] at this
theorem imul_1 (b : Int) {m : Nat} (w : World) (g : Gd w) (hb : IB m b) (hm : m ≤ 9000) : Calls Tryz.prog 51 #[.string ⟨#[49]⟩, .string (zs b)] w (Ret w (.string (zs (1 * b)))) := by
  have := mul_c 1 b w g IB.one hb (by decide) hm; rwa [zs_one] at this
theorem vscale0_z (a : V3) (n : Int) {k m : Nat} (w : World) (g : Gd w) (ha : VB k a) (hn : IB m n) (hk : k ≤ 3000) (hm : m ≤ 3000) (h1 : 1 ≤ m) : Calls Tryz.prog 96 #[vv a, .string (zs n)] w (Ret w (.agg #[.string (qs (a.x * (n : Rat))), .string (qs (a.y * (n : Rat))), .string (qs (a.z * (n : Rat)))])) := by
  have := vscale0_c a (n : Rat) w g ha (QB.int hn h1) hk hm; rwa [qs_int] at this
theorem new_1 (d : Nat) (hd : d ≠ 0) {m : Nat} (w : World) (g : Gd w) (hdb : IB m (d : Int)) (hm : m ≤ 8000) :
    Calls Tryz.prog 97 #[.string ⟨#[49]⟩, .string (zs (d : Int))] w (Ret w (.tuple #[.string (qs (mkRat 1 d)), .int .i64 0])) := by
  have := new_c 1 d hd w g IB.one hdb (by decide) hm; rwa [zs_one] at this
theorem QB.mk1 {m : Nat} {d : Nat} (hd : d ≠ 0) (h : IB m (d : Int)) (hm : 1 ≤ m) : QB m (mkRat 1 d) := QB.mk' hd (Nat.one_lt_pow (by omega) (by decide)) (by simpa using h.out)
theorem gcd_ne {a b : Int} (h : b ≠ 0) : (Int.gcd a b : Int) ≠ 0 := by
  intro e; have e' : Int.gcd a b = 0 := by omega
  exact h (Int.gcd_eq_zero_iff.1 e').2
theorem den_ne (q : Rat) : (q.den : Int) ≠ 0 := by have := q.den_nz; omega

def pd0 (v : V3) : Int := (Int.gcd 1 (v.x.den : Int) : Int)
def pd1 (v : V3) : Int := 1 * ((v.x.den : Int) / pd0 v)
def pd2 (v : V3) : Int := pd1 v * ((v.y.den : Int) / (Int.gcd (pd1 v) (v.y.den : Int) : Int))
def pden (v : V3) : Int := pd2 v * ((v.z.den : Int) / (Int.gcd (pd2 v) (v.z.den : Int) : Int))
def pn1 (v : V3) : Int := (Int.gcd 0 v.x.num : Int)
def pn2 (v : V3) : Int := (Int.gcd (pn1 v) v.y.num : Int)
def pnum (v : V3) : Nat := Int.gcd (pn2 v) v.z.num
def vwhole (v : V3) : V3 := ⟨v.x * (pden v : Rat), v.y * (pden v : Rat), v.z * (pden v : Rat)⟩
def vprim (v : V3) : V3 := ⟨(vwhole v).x * mkRat 1 (pnum (vwhole v)), (vwhole v).y * mkRat 1 (pnum (vwhole v)), (vwhole v).z * mkRat 1 (pnum (vwhole v))⟩

theorem pg0 (v : V3) {m : Nat} (w : World) (g : Gd w) (hb : IB m (v.x.den : Int)) (hm : m ≤ 9000) : Calls Tryz.prog 77 #[.string ⟨#[49]⟩, .string (zs (v.x.den : Int))] w (Ret w (.string (zs (pd0 v)))) := gcd_1 _ w g hb hm
theorem pd0_ne (v : V3) : pd0 v ≠ 0 := gcd_ne (den_ne _)
theorem IB.pd0 {k : Nat} {v : V3} (h : VB k v) : IB (max 1 k) (pd0 v) := IB.one.gcd (QB.iden h.x)
theorem pm1 (v : V3) {m : Nat} (w : World) (g : Gd w) (hb : IB m ((v.x.den : Int) / pd0 v)) (hm : m ≤ 9000) : Calls Tryz.prog 51 #[.string ⟨#[49]⟩, .string (zs ((v.x.den : Int) / pd0 v))] w (Ret w (.string (zs (pd1 v)))) := imul_1 _ w g hb hm
theorem pm2 (v : V3) {k m : Nat} (w : World) (g : Gd w) (ha : IB k (pd1 v)) (hb : IB m ((v.y.den : Int) / (Int.gcd (pd1 v) (v.y.den : Int) : Int))) (hk : k ≤ 9000) (hm : m ≤ 9000) : Calls Tryz.prog 51 #[.string (zs (pd1 v)), .string (zs ((v.y.den : Int) / (Int.gcd (pd1 v) (v.y.den : Int) : Int)))] w (Ret w (.string (zs (pd2 v)))) := mul_c _ _ w g ha hb hk hm
theorem pm3 (v : V3) {k m : Nat} (w : World) (g : Gd w) (ha : IB k (pd2 v)) (hb : IB m ((v.z.den : Int) / (Int.gcd (pd2 v) (v.z.den : Int) : Int))) (hk : k ≤ 9000) (hm : m ≤ 9000) : Calls Tryz.prog 51 #[.string (zs (pd2 v)), .string (zs ((v.z.den : Int) / (Int.gcd (pd2 v) (v.z.den : Int) : Int)))] w (Ret w (.string (zs (pden v)))) := mul_c _ _ w g ha hb hk hm
theorem pg1 (v : V3) {m : Nat} (w : World) (g : Gd w) (hb : IB m v.x.num) (hm : m ≤ 9000) : Calls Tryz.prog 77 #[.string ⟨#[48]⟩, .string (zs v.x.num)] w (Ret w (.string (zs (pn1 v)))) := gcd_0 _ w g hb hm
theorem pg2 (v : V3) {k m : Nat} (w : World) (g : Gd w) (ha : IB k (pn1 v)) (hb : IB m v.y.num) (hk : k ≤ 9000) (hm : m ≤ 9000) : Calls Tryz.prog 77 #[.string (zs (pn1 v)), .string (zs v.y.num)] w (Ret w (.string (zs (pn2 v)))) := gcd_c _ _ w g ha hb hk hm
theorem pg3 (v : V3) {k m : Nat} (w : World) (g : Gd w) (ha : IB k (pn2 v)) (hb : IB m v.z.num) (hk : k ≤ 9000) (hm : m ≤ 9000) : Calls Tryz.prog 77 #[.string (zs (pn2 v)), .string (zs v.z.num)] w (Ret w (.string (zs (pnum v : Int)))) := gcd_c _ _ w g ha hb hk hm
theorem IB.pd1 {k : Nat} {v : V3} (h : VB k v) : IB (1 + k) (pd1 v) := IB.one.mul ((QB.iden h.x).div _)
theorem IB.pd2 {k : Nat} {v : V3} (h : VB k v) : IB (1 + k + k) (pd2 v) := (IB.pd1 h).mul ((QB.iden h.y).div _)
theorem IB.pden {k : Nat} {v : V3} (h : VB k v) : IB (1 + k + k + k) (pden v) := (IB.pd2 h).mul ((QB.iden h.z).div _)
theorem IB.pn1 {k : Nat} {v : V3} (h : VB k v) : IB (max 1 k) (pn1 v) := IB.zero.gcd (QB.inum h.x)
theorem IB.pn2 {k : Nat} {v : V3} (h : VB k v) : IB (max (max 1 k) k) (pn2 v) := (IB.pn1 h).gcd (QB.inum h.y)
theorem IB.pnum {k : Nat} {v : V3} (h : VB k v) : IB (max (max (max 1 k) k) k) (pnum v : Int) := (IB.pn2 h).gcd (QB.inum h.z)
theorem vscaleW (a : V3) {k : Nat} (w : World) (g : Gd w) (ha : VB k a) (hk : k ≤ 900) : Calls Tryz.prog 96 #[vv a, .string (zs (pden a))] w (Ret w (vv (vwhole a))) :=
  vscale0_z a (pden a) w g ha (IB.pden ha) (by omega) (by omega) (by omega)
theorem vscaleP (a : V3) {k m : Nat} (w : World) (g : Gd w) (ha : VB k (vwhole a)) (hq : QB m (mkRat 1 (pnum (vwhole a)))) (hk : k ≤ 3000) (hm : m ≤ 3000) : Calls Tryz.prog 96 #[vv (vwhole a), .string (qs (mkRat 1 (pnum (vwhole a))))] w (Ret w (vv (vprim a))) :=
  vscale0_c (vwhole a) (mkRat 1 (pnum (vwhole a))) w g ha hq hk hm

set_option maxRecDepth 100000 in
set_option maxHeartbeats 16000000 in
theorem vPrim_ok (a : V3) (w : World) (g : Gd w) (ha : VB 24 a) (hz : ¬ (a.x = 0 ∧ a.y = 0 ∧ a.z = 0)) (hw : VB 97 (vwhole a)) (hg0 : pnum (vwhole a) ≠ 0) (hr : VB 200 (vprim a)) : Calls Tryz.prog 63 #[.agg #[.string (qs a.x), .string (qs a.y), .string (qs a.z)]] w (Ret w (.tuple #[.agg #[.string (qs ((vprim a).x)), .string (qs ((vprim a).y)), .string (qs ((vprim a).z))], .int .i64 0])) := by
  have HA := Lib.hid ha
  have HZ := Lib.hid hz
  have HW := Lib.hid hw
  have HG0 := Lib.hid hg0
  have HR := Lib.hid hr
  have HG := Lib.hid g
  clear ha hz hw hg0 hr g
  have HQG : Hid (QB 97 (mkRat 1 (pnum (vwhole a)))) := Lib.hid (QB.mk1 HG0.out ((IB.pnum HW.out).mono (by decide)) (by decide))
  have ix0 : ∀ W, (Instr.index 125 (.agg #[.string (qs a.x), .string (qs a.y), .string (qs a.z)]) (.int .i64 0)).run Tryz.prog W = .ok (.string (qs a.x)) W := fun W => by kernel_rfl
  have ix1 : ∀ W, (Instr.index 125 (.agg #[.string (qs a.x), .string (qs a.y), .string (qs a.z)]) (.int .i64 1)).run Tryz.prog W = .ok (.string (qs a.y)) W := fun W => by kernel_rfl
  have ix2 : ∀ W, (Instr.index 125 (.agg #[.string (qs a.x), .string (qs a.y), .string (qs a.z)]) (.int .i64 2)).run Tryz.prog W = .ok (.string (qs a.z)) W := fun W => by kernel_rfl
  have ix3 : ∀ W, (Instr.index 125 (.agg #[.string (qs ((vwhole a).x)), .string (qs ((vwhole a).y)), .string (qs ((vwhole a).z))]) (.int .i64 0)).run Tryz.prog W = .ok (.string (qs ((vwhole a).x))) W := fun W => by kernel_rfl
  have ix4 : ∀ W, (Instr.index 125 (.agg #[.string (qs ((vwhole a).x)), .string (qs ((vwhole a).y)), .string (qs ((vwhole a).z))]) (.int .i64 1)).run Tryz.prog W = .ok (.string (qs ((vwhole a).y))) W := fun W => by kernel_rfl
  have ix5 : ∀ W, (Instr.index 125 (.agg #[.string (qs ((vwhole a).x)), .string (qs ((vwhole a).y)), .string (qs ((vwhole a).z))]) (.int .i64 2)).run Tryz.prog W = .ok (.string (qs ((vwhole a).z))) W := fun W => by kernel_rfl
  go_enter Tryz.func63, Tryz.ntmps63
  go_wp2_with fail
  refine (vectors1_ok a (w.heap.size + 1 + 1) _ (HG.out.ext ((((Ext.refl w).alloc _).alloc _).alloc _)) (HA.out.mono (by omega)) (Blk.new' (w := _) (cs := #[.string (qs a.x), .string (qs a.y), .string (qs a.z)]) (t := 37) (by first | rfl | (simp only [World.size_alloc]; done) | (simp only [World.size_alloc]; omega) | simp))).mono ?_; rintro e w1 ⟨rfl, e1⟩
  have HX1 : Hid (Ext w w1) := Lib.hid (((((Ext.refl w).alloc _).alloc _).alloc _).trans e1)
  have HB0_1 : Hid (Blk w1 (w.heap.size) #[.string (qs a.x), .string (qs a.y), .string (qs a.z)] 37) := Lib.hid (Blk.ext (((Blk.new' (w := _) (cs := #[.string (qs a.x), .string (qs a.y), .string (qs a.z)]) (t := 37) (by first | rfl | (simp only [World.size_alloc]; done) | (simp only [World.size_alloc]; omega) | simp)).alloc _).alloc _) e1)
  have HB1_1 : Hid (Blk w1 (w.heap.size + 1) #[.string ⟨#[]⟩, .string ⟨#[]⟩, .string ⟨#[]⟩] 37) := Lib.hid (Blk.ext ((Blk.new' (w := _) (cs := #[.string ⟨#[]⟩, .string ⟨#[]⟩, .string ⟨#[]⟩]) (t := 37) (by first | rfl | (simp only [World.size_alloc]; done) | (simp only [World.size_alloc]; omega) | simp)).alloc _) e1)
  have HB2_1 : Hid (Blk w1 (w.heap.size + 1 + 1) #[.string (qs a.x), .string (qs a.y), .string (qs a.z)] 37) := Lib.hid (Blk.ext (Blk.new' (w := _) (cs := #[.string (qs a.x), .string (qs a.y), .string (qs a.z)]) (t := 37) (by first | rfl | (simp only [World.size_alloc]; done) | (simp only [World.size_alloc]; omega) | simp)) e1)
  have HGEB0 : Hid (w.heap.size ≤ w.heap.size) := Lib.hid (by first | omega | (simp only []; omega) | (simp; omega))
  have HGEB1 : Hid (w.heap.size ≤ w.heap.size + 1) := Lib.hid (by first | omega | (simp only []; omega) | (simp; omega))
  have HGEB2 : Hid (w.heap.size ≤ w.heap.size + 1 + 1) := Lib.hid (by first | omega | (simp only []; omega) | (simp; omega))
  clear e1
  have c0_0 := HB0_1.out.cell 0 rfl
  have c0_1 := HB0_1.out.cell 1 rfl
  have c0_2 := HB0_1.out.cell 2 rfl
  go_wp2_with fail
  refine (vzero_f a _ HZ.out).mono ?_; rintro e w2 ⟨rfl, e2⟩
  have HX2 : Hid (Ext w w2) := Lib.hid (HX1.out.trans e2)
  have HB0_2 := Lib.hid (Blk.ext HB0_1.out e2)
  have HB1_2 := Lib.hid (Blk.ext HB1_1.out e2)
  clear e2 c0_0 c0_1 c0_2
  have c0_0 := HB0_2.out.cell 0 rfl
  have c0_1 := HB0_2.out.cell 1 rfl
  have c0_2 := HB0_2.out.cell 2 rfl
  go_wp2_with fail
  refine (list_c ⟨qs a.x, qs a.y, qs a.z⟩ _).mono ?_; rintro e w3 ⟨rfl, e3⟩
  have HX3 : Hid (Ext w w3) := Lib.hid (HX2.out.trans e3)
  have HB0_3 := Lib.hid (Blk.ext HB0_2.out e3)
  have HB1_3 := Lib.hid (Blk.ext HB1_2.out e3)
  clear e3 c0_0 c0_1 c0_2
  go_wp2_with fail
  refine wp_loop_rounds 4 ?_
  rw [rounds_succ]
  go_wp2_with fail
  refine (parts_c a.x _ HA.out.x (by omega)).mono ?_; rintro e w4 ⟨rfl, e4⟩
  have HX4 : Hid (Ext w w4) := Lib.hid (HX3.out.trans e4)
  have HB0_4 := Lib.hid (Blk.ext HB0_3.out e4)
  have HB1_4 := Lib.hid (Blk.ext HB1_3.out e4)
  clear e4
  go_wp2_with fail
  refine (pg0 a _ (HG.out.ext HX4.out) (QB.iden HA.out.x) (by omega)).mono ?_; rintro e w5 ⟨rfl, e5⟩
  have HX5 : Hid (Ext w w5) := Lib.hid (HX4.out.trans e5)
  have HB0_5 := Lib.hid (Blk.ext HB0_4.out e5)
  have HB1_5 := Lib.hid (Blk.ext HB1_4.out e5)
  clear e5
  go_wp2_with fail
  refine (divmod_c (a.x.den : Int) (pd0 a) _ (HG.out.ext HX5.out) (QB.iden HA.out.x) (IB.pd0 HA.out) (by omega) (by omega) (pd0_ne a)).mono ?_; rintro e w6 ⟨rfl, e6⟩
  have HX6 : Hid (Ext w w6) := Lib.hid (HX5.out.trans e6)
  have HB0_6 := Lib.hid (Blk.ext HB0_5.out e6)
  have HB1_6 := Lib.hid (Blk.ext HB1_5.out e6)
  clear e6
  go_wp2_with fail
  refine (pm1 a _ (HG.out.ext HX6.out) (IB.div (QB.iden HA.out.x) (pd0 a)) (by omega)).mono ?_; rintro e w7 ⟨rfl, e7⟩
  have HX7 : Hid (Ext w w7) := Lib.hid (HX6.out.trans e7)
  have HB0_7 := Lib.hid (Blk.ext HB0_6.out e7)
  have HB1_7 := Lib.hid (Blk.ext HB1_6.out e7)
  clear e7
  go_wp2_with fail
  rw [rounds_succ]
  go_wp2_with fail
  refine (parts_c a.y _ HA.out.y (by omega)).mono ?_; rintro e w8 ⟨rfl, e8⟩
  have HX8 : Hid (Ext w w8) := Lib.hid (HX7.out.trans e8)
  have HB0_8 := Lib.hid (Blk.ext HB0_7.out e8)
  have HB1_8 := Lib.hid (Blk.ext HB1_7.out e8)
  clear e8
  go_wp2_with fail
  refine (gcd_c (pd1 a) (a.y.den : Int) _ (HG.out.ext HX8.out) (IB.pd1 HA.out) (QB.iden HA.out.y) (by omega) (by omega)).mono ?_; rintro e w9 ⟨rfl, e9⟩
  have HX9 : Hid (Ext w w9) := Lib.hid (HX8.out.trans e9)
  have HB0_9 := Lib.hid (Blk.ext HB0_8.out e9)
  have HB1_9 := Lib.hid (Blk.ext HB1_8.out e9)
  clear e9
  go_wp2_with fail
  refine (divmod_c (a.y.den : Int) (Int.gcd (pd1 a) (a.y.den : Int) : Int) _ (HG.out.ext HX9.out) (QB.iden HA.out.y) (IB.gcd (IB.pd1 HA.out) (QB.iden HA.out.y)) (by omega) (by omega) (gcd_ne (den_ne _))).mono ?_; rintro e w10 ⟨rfl, e10⟩
  have HX10 : Hid (Ext w w10) := Lib.hid (HX9.out.trans e10)
  have HB0_10 := Lib.hid (Blk.ext HB0_9.out e10)
  have HB1_10 := Lib.hid (Blk.ext HB1_9.out e10)
  clear e10
  go_wp2_with fail
  refine (pm2 a _ (HG.out.ext HX10.out) (IB.pd1 HA.out) (IB.div (QB.iden HA.out.y) (Int.gcd (pd1 a) (a.y.den : Int) : Int)) (by omega) (by omega)).mono ?_; rintro e w11 ⟨rfl, e11⟩
  have HX11 : Hid (Ext w w11) := Lib.hid (HX10.out.trans e11)
  have HB0_11 := Lib.hid (Blk.ext HB0_10.out e11)
  have HB1_11 := Lib.hid (Blk.ext HB1_10.out e11)
  clear e11
  go_wp2_with fail
  rw [rounds_succ]
  go_wp2_with fail
  refine (parts_c a.z _ HA.out.z (by omega)).mono ?_; rintro e w12 ⟨rfl, e12⟩
  have HX12 : Hid (Ext w w12) := Lib.hid (HX11.out.trans e12)
  have HB0_12 := Lib.hid (Blk.ext HB0_11.out e12)
  have HB1_12 := Lib.hid (Blk.ext HB1_11.out e12)
  clear e12
  go_wp2_with fail
  refine (gcd_c (pd2 a) (a.z.den : Int) _ (HG.out.ext HX12.out) (IB.pd2 HA.out) (QB.iden HA.out.z) (by omega) (by omega)).mono ?_; rintro e w13 ⟨rfl, e13⟩
  have HX13 : Hid (Ext w w13) := Lib.hid (HX12.out.trans e13)
  have HB0_13 := Lib.hid (Blk.ext HB0_12.out e13)
  have HB1_13 := Lib.hid (Blk.ext HB1_12.out e13)
  clear e13
  go_wp2_with fail
  refine (divmod_c (a.z.den : Int) (Int.gcd (pd2 a) (a.z.den : Int) : Int) _ (HG.out.ext HX13.out) (QB.iden HA.out.z) (IB.gcd (IB.pd2 HA.out) (QB.iden HA.out.z)) (by omega) (by omega) (gcd_ne (den_ne _))).mono ?_; rintro e w14 ⟨rfl, e14⟩
  have HX14 : Hid (Ext w w14) := Lib.hid (HX13.out.trans e14)
  have HB0_14 := Lib.hid (Blk.ext HB0_13.out e14)
  have HB1_14 := Lib.hid (Blk.ext HB1_13.out e14)
  clear e14
  go_wp2_with fail
  refine (pm3 a _ (HG.out.ext HX14.out) (IB.pd2 HA.out) (IB.div (QB.iden HA.out.z) (Int.gcd (pd2 a) (a.z.den : Int) : Int)) (by omega) (by omega)).mono ?_; rintro e w15 ⟨rfl, e15⟩
  have HX15 : Hid (Ext w w15) := Lib.hid (HX14.out.trans e15)
  have HB0_15 := Lib.hid (Blk.ext HB0_14.out e15)
  have HB1_15 := Lib.hid (Blk.ext HB1_14.out e15)
  clear e15
  go_wp2_with fail
  rw [rounds_succ]
  have c0_0 := HB0_15.out.cell 0 rfl
  have c0_1 := HB0_15.out.cell 1 rfl
  have c0_2 := HB0_15.out.cell 2 rfl
  go_wp2_with fail
  refine (vscaleW a _ (HG.out.ext HX15.out) HA.out (by omega)).mono ?_; rintro e w16 ⟨rfl, e16⟩
  have HX16 : Hid (Ext w w16) := Lib.hid (HX15.out.trans e16)
  have HB1_16 := Lib.hid (Blk.ext HB1_15.out e16)
  clear e16 c0_0 c0_1 c0_2
  go_wp2_with fail
  refine wp_loop_rounds 4 ?_
  rw [rounds_succ]
  go_wp2_with fail
  refine (parts_c ((vwhole a).x) _ HW.out.x (by omega)).mono ?_; rintro e w17 ⟨rfl, e17⟩
  have HX17 : Hid (Ext w w17) := Lib.hid ((HX16.out.alloc _).trans e17)
  have HB1_17 : Hid (Blk w17 (w.heap.size + 1) #[.string ⟨#[]⟩, .string ⟨#[]⟩, .string ⟨#[]⟩] 37) := Lib.hid (Blk.ext (HB1_16.out.alloc _) e17)
  have HB3_17 : Hid (Blk w17 (w16.heap.size) #[.string (qs ((vwhole a).x)), .string (qs ((vwhole a).y)), .string (qs ((vwhole a).z))] 125) := Lib.hid (Blk.ext (Blk.new' (w := _) (cs := #[.string (qs ((vwhole a).x)), .string (qs ((vwhole a).y)), .string (qs ((vwhole a).z))]) (t := 125) (by first | rfl | (simp only [World.size_alloc]; done) | (simp only [World.size_alloc]; omega) | simp)) e17)
  have HGEB3 : Hid (w.heap.size ≤ w16.heap.size) := Lib.hid (by have := HX16.out.size; first | omega | (simp only []; omega) | (simp; omega))
  clear e17
  go_wp2_with fail
  refine (pg1 (vwhole a) _ (HG.out.ext HX17.out) (QB.inum HW.out.x) (by omega)).mono ?_; rintro e w18 ⟨rfl, e18⟩
  have HX18 : Hid (Ext w w18) := Lib.hid (HX17.out.trans e18)
  have HB1_18 := Lib.hid (Blk.ext HB1_17.out e18)
  have HB3_18 : Hid (Blk w18 (w16.heap.size) #[.string (qs ((vwhole a).x)), .string (qs ((vwhole a).y)), .string (qs ((vwhole a).z))] 125) := Lib.hid (Blk.ext HB3_17.out e18)
  clear e18
  go_wp2_with fail
  rw [rounds_succ]
  go_wp2_with fail
  refine (parts_c ((vwhole a).y) _ HW.out.y (by omega)).mono ?_; rintro e w19 ⟨rfl, e19⟩
  have HX19 : Hid (Ext w w19) := Lib.hid (HX18.out.trans e19)
  have HB1_19 := Lib.hid (Blk.ext HB1_18.out e19)
  have HB3_19 : Hid (Blk w19 (w16.heap.size) #[.string (qs ((vwhole a).x)), .string (qs ((vwhole a).y)), .string (qs ((vwhole a).z))] 125) := Lib.hid (Blk.ext HB3_18.out e19)
  clear e19
  go_wp2_with fail
  refine (pg2 (vwhole a) _ (HG.out.ext HX19.out) (IB.pn1 HW.out) (QB.inum HW.out.y) (by omega) (by omega)).mono ?_; rintro e w20 ⟨rfl, e20⟩
  have HX20 : Hid (Ext w w20) := Lib.hid (HX19.out.trans e20)
  have HB1_20 := Lib.hid (Blk.ext HB1_19.out e20)
  have HB3_20 : Hid (Blk w20 (w16.heap.size) #[.string (qs ((vwhole a).x)), .string (qs ((vwhole a).y)), .string (qs ((vwhole a).z))] 125) := Lib.hid (Blk.ext HB3_19.out e20)
  clear e20
  go_wp2_with fail
  rw [rounds_succ]
  go_wp2_with fail
  refine (parts_c ((vwhole a).z) _ HW.out.z (by omega)).mono ?_; rintro e w21 ⟨rfl, e21⟩
  have HX21 : Hid (Ext w w21) := Lib.hid (HX20.out.trans e21)
  have HB1_21 := Lib.hid (Blk.ext HB1_20.out e21)
  have HB3_21 : Hid (Blk w21 (w16.heap.size) #[.string (qs ((vwhole a).x)), .string (qs ((vwhole a).y)), .string (qs ((vwhole a).z))] 125) := Lib.hid (Blk.ext HB3_20.out e21)
  clear e21
  go_wp2_with fail
  refine (pg3 (vwhole a) _ (HG.out.ext HX21.out) (IB.pn2 HW.out) (QB.inum HW.out.z) (by omega) (by omega)).mono ?_; rintro e w22 ⟨rfl, e22⟩
  have HX22 : Hid (Ext w w22) := Lib.hid (HX21.out.trans e22)
  have HB1_22 := Lib.hid (Blk.ext HB1_21.out e22)
  have HB3_22 : Hid (Blk w22 (w16.heap.size) #[.string (qs ((vwhole a).x)), .string (qs ((vwhole a).y)), .string (qs ((vwhole a).z))] 125) := Lib.hid (Blk.ext HB3_21.out e22)
  clear e22
  go_wp2_with fail
  rw [rounds_succ]
  go_wp2_with fail
  refine (new_1 (pnum (vwhole a)) HG0.out _ (HG.out.ext HX22.out) (IB.pnum HW.out) (by omega)).mono ?_; rintro e w23 ⟨rfl, e23⟩
  have HX23 : Hid (Ext w w23) := Lib.hid (HX22.out.trans e23)
  have HB1_23 := Lib.hid (Blk.ext HB1_22.out e23)
  have HB3_23 : Hid (Blk w23 (w16.heap.size) #[.string (qs ((vwhole a).x)), .string (qs ((vwhole a).y)), .string (qs ((vwhole a).z))] 125) := Lib.hid (Blk.ext HB3_22.out e23)
  clear e23
  have c3_0 := HB3_23.out.cell 0 rfl
  have c3_1 := HB3_23.out.cell 1 rfl
  have c3_2 := HB3_23.out.cell 2 rfl
  go_wp2_with fail
  refine (vector_c ⟨qs ((vwhole a).x), qs ((vwhole a).y), qs ((vwhole a).z)⟩ _).mono ?_; rintro e w24 ⟨rfl, e24⟩
  have HX24 : Hid (Ext w w24) := Lib.hid (HX23.out.trans e24)
  have HB1_24 := Lib.hid (Blk.ext HB1_23.out e24)
  clear e24 c3_0 c3_1 c3_2
  go_wp2_with fail
  refine (vscaleP a _ (HG.out.ext HX24.out) HW.out HQG.out (by omega) (by omega)).mono ?_; rintro e w25 ⟨rfl, e25⟩
  have HX25 : Hid (Ext w w25) := Lib.hid (HX24.out.trans e25)
  have HB1_25 := Lib.hid (Blk.ext HB1_24.out e25)
  clear e25
  go_wp2_with fail
  refine (result_3 (vprim a).x (vprim a).y (vprim a).z _ HR.out.x HR.out.y HR.out.z).mono ?_; rintro e w26 ⟨rfl, e26⟩
  have HX26 : Hid (Ext w w26) := Lib.hid (HX25.out.trans e26)
  have HB1_26 := Lib.hid (Blk.ext HB1_25.out e26)
  clear e26
  have c1_0 := HB1_26.out.cell 0 rfl
  have f1_0 := HB1_26.out.free 0
  have c1_1 := HB1_26.out.cell 1 rfl
  have f1_1 := HB1_26.out.free 1
  have c1_2 := HB1_26.out.cell 2 rfl
  have f1_2 := HB1_26.out.free 2
  go_wp2_with fail
  refine wp_name (fun W => Ext w W ∧ Blk W (w.heap.size + 1) #[.string (qs ((vprim a).x)), .string (qs ((vprim a).y)), .string (qs ((vprim a).z))] 37) ⟨(((HX26.out.setCell (by have := HGEB1.out; first | omega | (simp only []; omega) | (simp; omega)) _).setCell (by have := HGEB1.out; first | omega | (simp only []; omega) | (simp; omega)) _).setCell (by have := HGEB1.out; first | omega | (simp only []; omega) | (simp; omega)) _), (((HB1_26.out.set 0 (.string (qs ((vprim a).x)))).set 1 (.string (qs ((vprim a).y)))).set 2 (.string (qs ((vprim a).z))))⟩ ?_
  rintro w27 ⟨e27, bB1_27⟩
  have HX27 := Lib.hid e27; have HB1_27 := Lib.hid bB1_27
  clear e27 bB1_27 c1_0 f1_0 c1_1 f1_1 c1_2 f1_2
  have gB1_0 := HB1_27.out.cell 0 rfl
  have gB1_1 := HB1_27.out.cell 1 rfl
  have gB1_2 := HB1_27.out.cell 2 rfl
  refine bodyPost_ret (v := .tuple #[.agg #[.string (qs ((vprim a).x)), .string (qs ((vprim a).y)), .string (qs ((vprim a).z))], .int .i64 0]) (by simp [results, Tryz.results63, go_sem, gB1_0, gB1_1, gB1_2]) rfl ⟨rfl, HX27.out⟩

set_option maxRecDepth 100000 in
set_option maxHeartbeats 2000000 in
theorem vPrim_zero (a : V3) (w : World) (g : Gd w) (ha : VB 200 a) (hz : a.x = 0 ∧ a.y = 0 ∧ a.z = 0) : Calls Tryz.prog 63 #[.agg #[.string (qs a.x), .string (qs a.y), .string (qs a.z)]] w (Ret w (.tuple #[.agg #[.string ⟨#[]⟩, .string ⟨#[]⟩, .string ⟨#[]⟩], .int .i64 17])) := by
  have HA := Lib.hid ha
  have HZ := Lib.hid hz
  have HG := Lib.hid g
  clear ha hz g
  go_enter Tryz.func63, Tryz.ntmps63
  go_wp2_with fail
  refine (vectors1_ok a (w.heap.size + 1 + 1) _ (HG.out.ext ((((Ext.refl w).alloc _).alloc _).alloc _)) (HA.out.mono (by omega)) (Blk.new' (w := _) (cs := #[.string (qs a.x), .string (qs a.y), .string (qs a.z)]) (t := 37) (by first | rfl | (simp only [World.size_alloc]; done) | (simp only [World.size_alloc]; omega) | simp))).mono ?_; rintro e w1 ⟨rfl, e1⟩
  have HX1 : Hid (Ext w w1) := Lib.hid (((((Ext.refl w).alloc _).alloc _).alloc _).trans e1)
  have HB0_1 : Hid (Blk w1 (w.heap.size) #[.string (qs a.x), .string (qs a.y), .string (qs a.z)] 37) := Lib.hid (Blk.ext (((Blk.new' (w := _) (cs := #[.string (qs a.x), .string (qs a.y), .string (qs a.z)]) (t := 37) (by first | rfl | (simp only [World.size_alloc]; done) | (simp only [World.size_alloc]; omega) | simp)).alloc _).alloc _) e1)
  have HB1_1 : Hid (Blk w1 (w.heap.size + 1) #[.string ⟨#[]⟩, .string ⟨#[]⟩, .string ⟨#[]⟩] 37) := Lib.hid (Blk.ext ((Blk.new' (w := _) (cs := #[.string ⟨#[]⟩, .string ⟨#[]⟩, .string ⟨#[]⟩]) (t := 37) (by first | rfl | (simp only [World.size_alloc]; done) | (simp only [World.size_alloc]; omega) | simp)).alloc _) e1)
  have HB2_1 : Hid (Blk w1 (w.heap.size + 1 + 1) #[.string (qs a.x), .string (qs a.y), .string (qs a.z)] 37) := Lib.hid (Blk.ext (Blk.new' (w := _) (cs := #[.string (qs a.x), .string (qs a.y), .string (qs a.z)]) (t := 37) (by first | rfl | (simp only [World.size_alloc]; done) | (simp only [World.size_alloc]; omega) | simp)) e1)
  have HGEB0 : Hid (w.heap.size ≤ w.heap.size) := Lib.hid (by first | omega | (simp only []; omega) | (simp; omega))
  have HGEB1 : Hid (w.heap.size ≤ w.heap.size + 1) := Lib.hid (by first | omega | (simp only []; omega) | (simp; omega))
  have HGEB2 : Hid (w.heap.size ≤ w.heap.size + 1 + 1) := Lib.hid (by first | omega | (simp only []; omega) | (simp; omega))
  clear e1
  have c0_0 := HB0_1.out.cell 0 rfl
  have c0_1 := HB0_1.out.cell 1 rfl
  have c0_2 := HB0_1.out.cell 2 rfl
  go_wp2_with fail
  refine (vzero_t a _ HZ.out).mono ?_; rintro e w2 ⟨rfl, e2⟩
  have HX2 : Hid (Ext w w2) := Lib.hid (HX1.out.trans e2)
  have HB1_2 := Lib.hid (Blk.ext HB1_1.out e2)
  clear e2 c0_0 c0_1 c0_2
  have c1_0 := HB1_2.out.cell 0 rfl
  have f1_0 := HB1_2.out.free 0
  have c1_1 := HB1_2.out.cell 1 rfl
  have f1_1 := HB1_2.out.free 1
  have c1_2 := HB1_2.out.cell 2 rfl
  have f1_2 := HB1_2.out.free 2
  go_wp2_with fail
  refine wp_name (fun W => Ext w W ∧ Blk W (w.heap.size + 1) #[.string ⟨#[]⟩, .string ⟨#[]⟩, .string ⟨#[]⟩] 37) ⟨(((HX2.out.setCell (by have := HGEB1.out; first | omega | (simp only []; omega) | (simp; omega)) _).setCell (by have := HGEB1.out; first | omega | (simp only []; omega) | (simp; omega)) _).setCell (by have := HGEB1.out; first | omega | (simp only []; omega) | (simp; omega)) _), (((HB1_2.out.set 0 (.string ⟨#[]⟩)).set 1 (.string ⟨#[]⟩)).set 2 (.string ⟨#[]⟩))⟩ ?_
  rintro w3 ⟨e3, bB1_3⟩
  have HX3 := Lib.hid e3; have HB1_3 := Lib.hid bB1_3
  clear e3 bB1_3 c1_0 f1_0 c1_1 f1_1 c1_2 f1_2
  have gB1_0 := HB1_3.out.cell 0 rfl
  have gB1_1 := HB1_3.out.cell 1 rfl
  have gB1_2 := HB1_3.out.cell 2 rfl
  refine bodyPost_ret (v := .tuple #[.agg #[.string ⟨#[]⟩, .string ⟨#[]⟩, .string ⟨#[]⟩], .int .i64 17]) (by simp [results, Tryz.results63, go_sem, gB1_0, gB1_1, gB1_2]) rfl ⟨rfl, HX3.out⟩
end Go.Proofs.YtplimbgaoengfaaGreatDoor

namespace Go.Proofs.YtplimbgaoengfaaGreatDoor
open Go Go.RowKit
theorem plcm_pos {a b : Int} (ha : 0 < a) (hb : 0 < b) : 0 < a * (b / (Int.gcd a b : Int)) := by
  have hg : (Int.gcd a b : Int) ∣ b := Int.gcd_dvd_right a b
  have hgp : 0 < (Int.gcd a b : Int) := by have := Int.gcd_pos_of_ne_zero_left b (show a ≠ 0 by omega); omega
  obtain ⟨c, hc⟩ := hg
  have e : b / (Int.gcd a b : Int) = c := by
    conv => lhs; lhs; rw [hc]
    exact Int.mul_ediv_cancel_left c (by omega)
  rw [e]
  have : 0 < c := by
    rcases Int.lt_trichotomy c 0 with h | h | h
    · have := Int.mul_neg_of_pos_of_neg hgp h; omega
    · subst h; simp at hc; omega
    · exact h
  exact Int.mul_pos ha this
theorem plcm_dvd {a b : Int} (ha : 0 < a) : b ∣ a * (b / (Int.gcd a b : Int)) := by
  have hg : (Int.gcd a b : Int) ∣ b := Int.gcd_dvd_right a b
  have hga : (Int.gcd a b : Int) ∣ a := Int.gcd_dvd_left a b
  have hgp : 0 < (Int.gcd a b : Int) := by have := Int.gcd_pos_of_ne_zero_left b (show a ≠ 0 by omega); omega
  obtain ⟨c, hc⟩ := hg
  obtain ⟨d, hd⟩ := hga
  have e : b / (Int.gcd a b : Int) = c := by
    conv => lhs; lhs; rw [hc]
    exact Int.mul_ediv_cancel_left c (by omega)
  rw [e]
  refine ⟨d, ?_⟩
  conv => lhs; lhs; rw [hd]
  conv => rhs; lhs; rw [hc]
  grind
theorem pd0_one (v : V3) : pd0 v = 1 := by unfold pd0; simp
theorem pd1_eq (v : V3) : pd1 v = v.x.den := by unfold pd1; rw [pd0_one]; simp
theorem qden_pos (q : Rat) : 0 < (q.den : Int) := by have := q.den_pos; omega
theorem pd2_pos (v : V3) : 0 < pd2 v := by unfold pd2; rw [pd1_eq]; exact plcm_pos (qden_pos _) (qden_pos _)
theorem pden_pos (v : V3) : 0 < pden v := plcm_pos (pd2_pos v) (qden_pos _)
theorem pden_z (v : V3) : (v.z.den : Int) ∣ pden v := plcm_dvd (pd2_pos v)
theorem pden_y (v : V3) : (v.y.den : Int) ∣ pden v := by
  have h : (v.y.den : Int) ∣ pd2 v := by unfold pd2; exact plcm_dvd (by rw [pd1_eq]; exact qden_pos _)
  exact Int.dvd_trans h (Int.dvd_mul_right _ _)
theorem pden_x (v : V3) : (v.x.den : Int) ∣ pden v := by
  have h : (v.x.den : Int) ∣ pd2 v := by unfold pd2; rw [pd1_eq]; exact Int.dvd_mul_right _ _
  exact Int.dvd_trans h (Int.dvd_mul_right _ _)
theorem mul_den_int {q : Rat} {n : Int} (h : (q.den : Int) ∣ n) : ∃ m : Int, q * (n : Rat) = (m : Rat) := by
  obtain ⟨c, rfl⟩ := h
  refine ⟨q.num * c, ?_⟩
  have h0 : ((q.den : Nat) : Rat) ≠ 0 := by
    intro e; have := Rat.natCast_eq_zero_iff.1 e; exact q.den_nz this
  have h1 : q * (q.den : Rat) = (q.num : Rat) := by
    have h2 := Rat.mkRat_self q
    rw [Rat.mkRat_eq_div] at h2
    conv => lhs; lhs; rw [← h2]
    exact Rat.div_mul_cancel h0
  rw [Rat.intCast_mul, Rat.intCast_mul, ← h1]
  show q * ((q.den : Rat) * (c : Rat)) = q * (q.den : Rat) * (c : Rat)
  grind
theorem vwhole_int (v : V3) : ∃ X Y Z : Int, vwhole v = ⟨(X : Rat), (Y : Rat), (Z : Rat)⟩ := by
  obtain ⟨X, hX⟩ := mul_den_int (pden_x v); obtain ⟨Y, hY⟩ := mul_den_int (pden_y v); obtain ⟨Z, hZ⟩ := mul_den_int (pden_z v)
  exact ⟨X, Y, Z, by unfold vwhole; rw [hX, hY, hZ]⟩
theorem pnum_int (X Y Z : Int) : pnum ⟨(X : Rat), (Y : Rat), (Z : Rat)⟩ = Int.gcd (Int.gcd X Y) Z := by
  unfold pnum pn2 pn1
  simp only [Rat.num_intCast, Int.gcd_zero_left]
  have : Int.gcd (X.natAbs : Int) Y = Int.gcd X Y := by unfold Int.gcd; simp
  rw [this]
theorem mkRat_one_mul {X : Int} {g : Nat} (hg : g ≠ 0) (h : (g : Int) ∣ X) : (X : Rat) * mkRat 1 g = ((X / (g : Int) : Int) : Rat) := by
  obtain ⟨c, rfl⟩ := h
  rw [Int.mul_ediv_cancel_left c (by omega), Rat.intCast_mul]
  have : mkRat 1 g * ((g : Int) : Rat) = 1 := by
    rw [Rat.mkRat_eq_div]
    have : ((g : Int) : Rat) ≠ 0 := by
      intro e; have := Rat.intCast_eq_zero_iff.1 e; omega
    show (1 : Rat) / ((g : Int) : Rat) * ((g : Int) : Rat) = 1
    exact Rat.div_mul_cancel this
  grind
theorem vprim_int (v : V3) (h : ¬ (v.x = 0 ∧ v.y = 0 ∧ v.z = 0)) : ∃ X Y Z : Int, vprim v = ⟨(X : Rat), (Y : Rat), (Z : Rat)⟩ ∧ (∀ n : Int, n ∣ X → n ∣ Y → n ∣ Z → n ∣ 1) ∧ pnum (vwhole v) ≠ 0 ∧
    ∃ c : Rat, 0 < c ∧ vprim v = ⟨v.x * c, v.y * c, v.z * c⟩ := by
  obtain ⟨X, Y, Z, e⟩ := vwhole_int v
  have hp := pnum_int X Y Z
  rw [← e] at hp
  have hne : pnum (vwhole v) ≠ 0 := by
    intro h0
    rw [hp] at h0
    have h1 := Int.gcd_eq_zero_iff.1 h0
    have h2 : X = 0 ∧ Y = 0 := Int.gcd_eq_zero_iff.1 (by have := h1.1; omega)
    have hd : (pden v : Rat) ≠ 0 := by
      intro e; have := Rat.intCast_eq_zero_iff.1 e; have := pden_pos v; omega
    have z1 : ∀ q : Rat, q * (pden v : Rat) = 0 → q = 0 := fun q hq => (Rat.mul_eq_zero.1 hq).resolve_right hd
    apply h
    have ex := congrArg V3.x e; have ey := congrArg V3.y e; have ez := congrArg V3.z e
    simp only [vwhole] at ex ey ez
    rw [h2.1] at ex; rw [h2.2] at ey; rw [h1.2] at ez
    exact ⟨z1 _ ex, z1 _ ey, z1 _ ez⟩
  have gz : ((pnum (vwhole v) : Nat) : Int) ∣ Z := by rw [hp]; exact Int.gcd_dvd_right _ _
  have gxy : ((pnum (vwhole v) : Nat) : Int) ∣ (Int.gcd X Y : Int) := by rw [hp]; exact Int.gcd_dvd_left _ _
  have gx : ((pnum (vwhole v) : Nat) : Int) ∣ X := Int.dvd_trans gxy (Int.gcd_dvd_left _ _)
  have gy : ((pnum (vwhole v) : Nat) : Int) ∣ Y := Int.dvd_trans gxy (Int.gcd_dvd_right _ _)
  refine ⟨X / (pnum (vwhole v) : Nat), Y / (pnum (vwhole v) : Nat), Z / (pnum (vwhole v) : Nat), ?_, ?_, hne, (pden v : Rat) * mkRat 1 (pnum (vwhole v)), ?_, ?_⟩
  · unfold vprim
    rw [← mkRat_one_mul hne gx, ← mkRat_one_mul hne gy, ← mkRat_one_mul hne gz, e]
  · intro n h1 h2 h3
    generalize hgg : pnum (vwhole v) = g at *
    have hg0 : (g : Int) ≠ 0 := by omega
    have k1 : n * (g : Int) ∣ X := by obtain ⟨c, hc⟩ := h1; refine ⟨c, ?_⟩; have := Int.ediv_mul_cancel gx; rw [← this, hc]; grind
    have k2 : n * (g : Int) ∣ Y := by obtain ⟨c, hc⟩ := h2; refine ⟨c, ?_⟩; have := Int.ediv_mul_cancel gy; rw [← this, hc]; grind
    have k3 : n * (g : Int) ∣ Z := by obtain ⟨c, hc⟩ := h3; refine ⟨c, ?_⟩; have := Int.ediv_mul_cancel gz; rw [← this, hc]; grind
    have k4 : n * (g : Int) ∣ (g : Int) := by
      rw [show (g : Int) = ((Int.gcd (Int.gcd X Y) Z : Nat) : Int) by rw [hp]] at *
      exact Int.dvd_coe_gcd (Int.dvd_coe_gcd k1 k2) k3
    obtain ⟨c, hc⟩ := k4
    refine ⟨c, ?_⟩
    have : (g : Int) * 1 = (g : Int) * (n * c) := by grind
    exact Int.eq_of_mul_eq_mul_left hg0 this
  · have h1 : (0 : Rat) < (pden v : Rat) := by exact_mod_cast pden_pos v
    have h2 : (0 : Rat) < mkRat 1 (pnum (vwhole v)) := by
      rw [Rat.mkRat_eq_div]
      have : (0 : Rat) < ((pnum (vwhole v) : Nat) : Rat) := by exact_mod_cast Nat.pos_of_ne_zero hne
      rw [Rat.div_def]; exact Rat.mul_pos (by decide) (Rat.inv_pos.2 this)
    exact Rat.mul_pos h1 h2
  · unfold vprim vwhole
    simp only [Rat.mul_assoc]

theorem dvd_of_den {X : Int} {k : Nat} (hk : k ≠ 0) (h : ((X : Rat) * mkRat 1 k).den = 1) : (k : Int) ∣ X := by
  have h0 : ((k : Nat) : Rat) ≠ 0 := by intro e; exact hk (Rat.natCast_eq_zero_iff.1 e)
  obtain ⟨q, hq⟩ : ∃ q, q = (X : Rat) * mkRat 1 k := ⟨_, rfl⟩
  rw [← hq] at h
  have h1 : q = (q.num : Rat) := by
    have := Rat.mkRat_self q
    rw [h, mkRat_one] at this
    exact this.symm
  have h2 : (X : Rat) = (k : Rat) * (q.num : Rat) := by
    rw [← h1, hq, Rat.mkRat_eq_div]
    have : (1 : Rat) / (k : Rat) * (k : Rat) = 1 := Rat.div_mul_cancel h0
    show (X : Rat) = (k : Rat) * ((X : Rat) * ((1 : Rat) / (k : Rat)))
    grind
  refine ⟨q.num, ?_⟩
  have h3 : (X : Rat) = (((k : Int) * q.num : Int) : Rat) := by
    rw [Rat.intCast_mul]; exact h2
  exact Rat.intCast_inj.1 h3

structure PrimOk (a P : V3) : Prop where
  vb : VB 60 P
  ix : P.x.den = 1
  iy : P.y.den = 1
  iz : P.z.den = 1
  cross : a.y * P.z - a.z * P.y = 0 ∧ a.z * P.x - a.x * P.z = 0 ∧ a.x * P.y - a.y * P.x = 0
  dot : (a.x * P.x + (a.y * P.y + a.z * P.z)).num.sign = 1
  some : ∀ k : Nat, 2 ≤ k → (P.x * mkRat 1 k).den ≠ 1 ∨ ((P.x * mkRat 1 k).den = 1 ∧ (P.y * mkRat 1 k).den ≠ 1) ∨ ((P.x * mkRat 1 k).den = 1 ∧ (P.y * mkRat 1 k).den = 1 ∧ (P.z * mkRat 1 k).den ≠ 1)

theorem sq_nonneg' (x : Rat) : 0 ≤ x * x := by
  rcases Rat.le_total (a := 0) (b := x) with h | h
  · exact Rat.mul_nonneg h h
  · have := Rat.mul_nonneg (a := -x) (b := -x) (by grind) (by grind)
    grind
theorem sq_pos' {x : Rat} (h : x ≠ 0) : 0 < x * x := by
  have h1 := sq_nonneg' x
  have h2 : x * x ≠ 0 := by intro e; rcases Rat.mul_eq_zero.1 e with h' | h' <;> exact h h'
  grind
theorem num_sign_pos {q : Rat} (h : 0 < q) : q.num.sign = 1 := by
  have h1 := (Rat.lt_iff 0 q).1 h
  simp at h1
  exact Int.sign_eq_one_of_pos h1

theorem prim_plain (a : V3) (hz : ¬ (a.x = 0 ∧ a.y = 0 ∧ a.z = 0)) (ha : VB 5 a) : VB 97 (vwhole a) ∧ pnum (vwhole a) ≠ 0 ∧ VB 200 (vprim a) ∧ PrimOk a (vprim a) := by
  obtain ⟨X, Y, Z, e, hd, hne, c, hc, hs⟩ := vprim_int a hz
  have pd := IB.pden ha
  have w0 : VB 21 (vwhole a) := ⟨(ha.x.mul (QB.int pd (by decide))).mono (by decide), (ha.y.mul (QB.int pd (by decide))).mono (by decide), (ha.z.mul (QB.int pd (by decide))).mono (by decide)⟩
  have pn := IB.pnum w0
  have q1 := QB.mk1 hne pn (by decide)
  have v0 : VB 60 (vprim a) := ⟨(w0.x.mul q1).mono (by decide), (w0.y.mul q1).mono (by decide), (w0.z.mul q1).mono (by decide)⟩
  refine ⟨w0.mono (by decide), hne, v0.mono (by decide), v0, ?_, ?_, ?_, ?_, ?_, ?_⟩
  · rw [e]; exact Rat.den_intCast _
  · rw [e]; exact Rat.den_intCast _
  · rw [e]; exact Rat.den_intCast _
  · rw [hs]; refine ⟨?_, ?_, ?_⟩ <;> (simp only []; grind)
  · rw [hs]
    apply num_sign_pos
    have hx := sq_nonneg' a.x; have hy := sq_nonneg' a.y; have hzz := sq_nonneg' a.z
    have hp : 0 < a.x * a.x + (a.y * a.y + a.z * a.z) := by
      by_cases h1 : a.x = 0
      · by_cases h2 : a.y = 0
        · have h3 : a.z ≠ 0 := fun h3 => hz ⟨h1, h2, h3⟩
          have := sq_pos' h3
          grind
        · have := sq_pos' h2
          grind
      · have := sq_pos' h1
        grind
    have := Rat.mul_pos hp hc
    have e2 : a.x * (a.x * c) + (a.y * (a.y * c) + a.z * (a.z * c)) = (a.x * a.x + (a.y * a.y + a.z * a.z)) * c := by grind
    simp only []
    rw [e2]
    exact this
  · intro k hk
    rw [e]
    by_cases h1 : ((X : Rat) * mkRat 1 k).den = 1
    · by_cases h2 : ((Y : Rat) * mkRat 1 k).den = 1
      · right; right
        refine ⟨h1, h2, fun h3 => ?_⟩
        have := hd k (dvd_of_den (by omega) h1) (dvd_of_den (by omega) h2) (dvd_of_den (by omega) h3)
        have := Int.le_of_dvd (by decide) this
        omega
      · right; left
        exact ⟨h1, h2⟩
    · left
      exact h1
end Go.Proofs.YtplimbgaoengfaaGreatDoor

namespace Go.Proofs.YtplimbgaoengfaaGreatDoor
open Go Go.RowKit
theorem elim0 {p q : Prop} (f : p → q) (h : p) : q := f h
theorem elim1 {p1 p2 q : Prop} (f : p1 → p2 → q) (h : p1 ∧ p2) : q := f h.1 h.2
theorem elim2 {p1 p2 p3 q : Prop} (f : p1 → p2 → p3 → q) (h : p1 ∧ p2 ∧ p3) : q := f h.1 h.2.1 h.2.2
theorem elim3 {p1 p2 p3 p4 q : Prop} (f : p1 → p2 → p3 → p4 → q) (h : p1 ∧ p2 ∧ p3 ∧ p4) : q := f h.1 h.2.1 h.2.2.1 h.2.2.2
theorem ext0a {X w : World} (e : Ext X w) : Ext X w := ((Ext.refl X).trans e)
theorem ext0b {X w : World} (e : Ext X.drew w) : Ext X w := ((Ext.refl X).drew.trans e)
theorem ext1a {X w : World} {c1 : Array Value} {t1 : TypeId} (e : Ext (X.alloc (.cells c1 t1)) w) : Ext X w ∧ Blk w (X.heap.size) c1 t1 := ⟨(((Ext.refl X).alloc _).trans e), ((Blk.new X c1 t1).ext e)⟩
theorem ext1b {X w : World} {c1 : Array Value} {t1 : TypeId} (e : Ext (X.alloc (.cells c1 t1)).drew w) : Ext X w ∧ Blk w (X.heap.size) c1 t1 := ⟨(((Ext.refl X).alloc _).drew.trans e), ((Blk.new X c1 t1).drew.ext e)⟩
theorem ext2a {X w : World} {c1 c2 : Array Value} {t1 t2 : TypeId} (e : Ext ((X.alloc (.cells c1 t1)).alloc (.cells c2 t2)) w) : Ext X w ∧ Blk w (X.heap.size) c1 t1 ∧ Blk w (X.heap.size + 1) c2 t2 := ⟨((((Ext.refl X).alloc _).alloc _).trans e), (((Blk.new X c1 t1).alloc _).ext e), ((Blk.new' (w := (X.alloc (.cells c1 t1))) (cs := c2) (t := t2) (by simp)).ext e)⟩
theorem ext2b {X w : World} {c1 c2 : Array Value} {t1 t2 : TypeId} (e : Ext ((X.alloc (.cells c1 t1)).alloc (.cells c2 t2)).drew w) : Ext X w ∧ Blk w (X.heap.size) c1 t1 ∧ Blk w (X.heap.size + 1) c2 t2 := ⟨((((Ext.refl X).alloc _).alloc _).drew.trans e), (((Blk.new X c1 t1).alloc _).drew.ext e), ((Blk.new' (w := (X.alloc (.cells c1 t1))) (cs := c2) (t := t2) (by simp)).drew.ext e)⟩
theorem ext3a {X w : World} {c1 c2 c3 : Array Value} {t1 t2 t3 : TypeId} (e : Ext (((X.alloc (.cells c1 t1)).alloc (.cells c2 t2)).alloc (.cells c3 t3)) w) : Ext X w ∧ Blk w (X.heap.size) c1 t1 ∧ Blk w (X.heap.size + 1) c2 t2 ∧ Blk w (X.heap.size + 1 + 1) c3 t3 := ⟨(((((Ext.refl X).alloc _).alloc _).alloc _).trans e), ((((Blk.new X c1 t1).alloc _).alloc _).ext e), (((Blk.new' (w := (X.alloc (.cells c1 t1))) (cs := c2) (t := t2) (by simp)).alloc _).ext e), ((Blk.new' (w := ((X.alloc (.cells c1 t1)).alloc (.cells c2 t2))) (cs := c3) (t := t3) (by simp)).ext e)⟩
theorem ext3b {X w : World} {c1 c2 c3 : Array Value} {t1 t2 t3 : TypeId} (e : Ext (((X.alloc (.cells c1 t1)).alloc (.cells c2 t2)).alloc (.cells c3 t3)).drew w) : Ext X w ∧ Blk w (X.heap.size) c1 t1 ∧ Blk w (X.heap.size + 1) c2 t2 ∧ Blk w (X.heap.size + 1 + 1) c3 t3 := ⟨(((((Ext.refl X).alloc _).alloc _).alloc _).drew.trans e), ((((Blk.new X c1 t1).alloc _).alloc _).drew.ext e), (((Blk.new' (w := (X.alloc (.cells c1 t1))) (cs := c2) (t := t2) (by simp)).alloc _).drew.ext e), ((Blk.new' (w := ((X.alloc (.cells c1 t1)).alloc (.cells c2 t2))) (cs := c3) (t := t3) (by simp)).drew.ext e)⟩
def sm (n : Int) (d : Nat) : Rat := mkRat n (1 + d)
theorem sm_qb {n : Int} {d : Nat} (h0 : -32768 ≤ n) (h1 : n ≤ 32767) (h2 : d ≤ 255) : QB 5 (sm n d) := QB.mk' (by omega) (by omega) (by omega)
structure Pla where
  n0 : Int
  d0 : Nat
  n1 : Int
  d1 : Nat
  n2 : Int
  d2 : Nat
structure PlaOk (p : Pla) : Prop where
  a0 : -32768 ≤ p.n0
  b0 : p.n0 ≤ 32767
  c0 : p.d0 ≤ 255
  a1 : -32768 ≤ p.n1
  b1 : p.n1 ≤ 32767
  c1 : p.d1 ≤ 255
  a2 : -32768 ≤ p.n2
  b2 : p.n2 ≤ 32767
  c2 : p.d2 ≤ 255
def pvec (p : Pla) : V3 := ⟨sm p.n0 p.d0, sm p.n1 p.d1, sm p.n2 p.d2⟩
def ppt (p : Pla) : P2 := ⟨sm p.n0 p.d0, sm p.n1 p.d1⟩
theorem PlaOk.v {p : Pla} (h : PlaOk p) : VB 5 (pvec p) := ⟨sm_qb h.a0 h.b0 h.c0, sm_qb h.a1 h.b1 h.c1, sm_qb h.a2 h.b2 h.c2⟩
theorem PlaOk.p {p : Pla} (h : PlaOk p) : PB 5 (ppt p) := ⟨sm_qb h.a0 h.b0 h.c0, sm_qb h.a1 h.b1 h.c1⟩

end Go.Proofs.YtplimbgaoengfaaGreatDoor

namespace Go.Proofs.YtplimbgaoengfaaGreatDoor
open Go Go.RowKit
structure QD (n d : Nat) (q : Rat) : Prop where
  num : q.num.natAbs < 10 ^ n
  den : q.den < 10 ^ d
theorem QD.qb {n d k : Nat} {q : Rat} (h : QD n d q) (h1 : n ≤ k) (h2 : d ≤ k) : QB k q :=
  ⟨Nat.lt_of_lt_of_le h.num (Nat.pow_le_pow_right (by decide) h1), Nat.lt_of_lt_of_le h.den (Nat.pow_le_pow_right (by decide) h2)⟩
theorem QD.mk' {n d : Nat} {x : Int} {y : Nat} (h0 : y ≠ 0) (h1 : x.natAbs < 10 ^ n) (h2 : y < 10 ^ d) : QD n d (mkRat x y) :=
  ⟨Nat.lt_of_le_of_lt (mkRat_num_le _ _) h1, Nat.lt_of_le_of_lt (mkRat_den_le _ _ h0) h2⟩
theorem QD.neg {n d : Nat} {a : Rat} (ha : QD n d a) : QD n d (-a) := ⟨by rw [Rat.neg_num, Int.natAbs_neg]; exact ha.num, ha.den⟩
theorem QD.add {n d m e : Nat} {a b : Rat} (ha : QD n d a) (hb : QD m e b) : QD (max (n + e) (d + m) + 1) (d + e) (a + b) := by
  rw [Rat.add_def']
  refine QD.mk' (Nat.mul_ne_zero a.den_nz b.den_nz) ?_ (lt_mul_pow ha.den hb.den)
  refine Nat.lt_of_le_of_lt (Int.natAbs_add_le _ _) ?_
  rw [Int.natAbs_mul, Int.natAbs_mul, Int.natAbs_natCast, Int.natAbs_natCast, Nat.mul_comm b.num.natAbs]
  exact lt_add_pow (lt_mul_pow ha.num hb.den) (lt_mul_pow ha.den hb.num)
theorem QD.sub {n d m e : Nat} {a b : Rat} (ha : QD n d a) (hb : QD m e b) : QD (max (n + e) (d + m) + 1) (d + e) (a - b) := by
  rw [Rat.sub_eq_add_neg]; exact ha.add hb.neg
theorem QD.mul {n d m e : Nat} {a b : Rat} (ha : QD n d a) (hb : QD m e b) : QD (n + m) (d + e) (a * b) := by
  rw [Rat.mul_def']
  exact QD.mk' (Nat.mul_ne_zero a.den_nz b.den_nz) (by rw [Int.natAbs_mul]; exact lt_mul_pow ha.num hb.num) (lt_mul_pow ha.den hb.den)
theorem QD.inv {n d : Nat} {a : Rat} (ha : QD n d a) (hn : 1 ≤ n) : QD d n a⁻¹ := by
  constructor
  · rw [Rat.num_inv, Int.natAbs_mul, Int.natAbs_natCast]
    have : a.num.sign.natAbs ≤ 1 := by rw [Int.natAbs_sign]; split <;> omega
    exact Nat.lt_of_le_of_lt (Nat.mul_le_mul_right _ this) (by rw [Nat.one_mul]; exact ha.den)
  · rw [Rat.den_inv]
    split
    · exact Nat.one_lt_pow (by omega) (by decide)
    · exact ha.num
theorem QD.div {n d m e : Nat} {a b : Rat} (ha : QD n d a) (hb : QD m e b) (hm : 1 ≤ m) : QD (n + e) (d + m) (a / b) := by
  rw [Rat.div_def]; exact ha.mul (hb.inv hm)
structure VD (n d : Nat) (v : V3) : Prop where
  x : QD n d v.x
  y : QD n d v.y
  z : QD n d v.z
structure PD (n d : Nat) (v : P2) : Prop where
  x : QD n d v.x
  y : QD n d v.y
theorem sm_qd {n : Int} {d : Nat} (h0 : -32768 ≤ n) (h1 : n ≤ 32767) (h2 : d ≤ 255) : QD 5 3 (sm n d) := QD.mk' (by omega) (by omega) (by omega)
theorem PlaOk.pd {p : Pla} (h : PlaOk p) : PD 5 3 (ppt p) := ⟨sm_qd h.a0 h.b0 h.c0, sm_qd h.a1 h.b1 h.c1⟩

theorem num_sign_neg {q : Rat} (h : q < 0) : q.num.sign = -1 := by
  have h1 := (Rat.lt_iff q 0).1 h
  simp at h1
  exact Int.sign_eq_neg_one_of_neg h1
theorem qcmp_sign (x y : Rat) : qcmp x y = (x - y).num.sign := by
  unfold qcmp
  split
  · rename_i h
    rw [num_sign_neg (by grind)]
  · split
    · rename_i h; subst h
      rw [show x - x = 0 by grind]; rfl
    · rename_i h1 h2
      rw [num_sign_pos (by grind)]

theorem VD.vb {n d k : Nat} {v : V3} (h : VD n d v) (h1 : n ≤ k) (h2 : d ≤ k) : VB k v := ⟨h.x.qb h1 h2, h.y.qb h1 h2, h.z.qb h1 h2⟩
end Go.Proofs.YtplimbgaoengfaaGreatDoor
