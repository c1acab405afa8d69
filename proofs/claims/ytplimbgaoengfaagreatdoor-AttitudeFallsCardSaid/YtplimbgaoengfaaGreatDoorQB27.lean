/- Part 27 of the proof: N1. -/
import Derived.Test.YtplimbgaoengfaaGreatDoorQB1
import Derived.Test.YtplimbgaoengfaaGreatDoorQB2
import Derived.Test.YtplimbgaoengfaaGreatDoorQB3
import Derived.Test.YtplimbgaoengfaaGreatDoorQB4
import Derived.Test.YtplimbgaoengfaaGreatDoorQB5
import Derived.Test.YtplimbgaoengfaaGreatDoorQB6
import Derived.Test.YtplimbgaoengfaaGreatDoorQB7
import Derived.Test.YtplimbgaoengfaaGreatDoorQB8
import Derived.Test.YtplimbgaoengfaaGreatDoorQB9
import Derived.Test.YtplimbgaoengfaaGreatDoorQB10
import Derived.Test.YtplimbgaoengfaaGreatDoorQB11
import Derived.Test.YtplimbgaoengfaaGreatDoorQB12
import Derived.Test.YtplimbgaoengfaaGreatDoorQB13
import Derived.Test.YtplimbgaoengfaaGreatDoorQB14
import Derived.Test.YtplimbgaoengfaaGreatDoorQB15
import Derived.Test.YtplimbgaoengfaaGreatDoorQB16
import Derived.Test.YtplimbgaoengfaaGreatDoorQB17
import Derived.Test.YtplimbgaoengfaaGreatDoorQB18
import Derived.Test.YtplimbgaoengfaaGreatDoorQB19
import Derived.Test.YtplimbgaoengfaaGreatDoorQB20
import Derived.Test.YtplimbgaoengfaaGreatDoorQB21
import Derived.Test.YtplimbgaoengfaaGreatDoorQB22
import Derived.Test.YtplimbgaoengfaaGreatDoorQB23
import Derived.Test.YtplimbgaoengfaaGreatDoorQB24
import Derived.Test.YtplimbgaoengfaaGreatDoorQB25
namespace Go.Proofs.YtplimbgaoengfaaGreatDoor
open Go Go.RowKit
def sz24 (s : ByteArray) : Bool := decide (s.size ≤ 24)
theorem sz24_true {s : ByteArray} : sz24 s = true ↔ s.size ≤ 24 := by unfold sz24; exact decide_eq_true_iff
theorem lright_yes (s : ByteArray) (w : World) (g : Gd w) (hl : s.size ≤ 1000000) (h : rq s = true) : Calls Tryz.prog 55 #[.string s] w (Ret w (.bool true)) := by
  have HG := Lib.hid g
  clear g
  go_enter Tryz.func55, Tryz.ntmps55
  go_wp2_with (go_at_call 87; refine (fright_yes s _ HG.out hl h).mono ?_; rintro e w2 ⟨rfl, e2⟩)
  go_ret
  exact ⟨rfl, e2⟩
theorem lright_no (s : ByteArray) (w : World) (g : Gd w) (hl : s.size ≤ 1000000) (h : rq s = false) : Calls Tryz.prog 55 #[.string s] w (Ret w (.bool false)) := by
  have HG := Lib.hid g
  clear g
  go_enter Tryz.func55, Tryz.ntmps55
  go_wp2_with (go_at_call 87; refine (fright_no s _ HG.out hl h).mono ?_; rintro e w2 ⟨rfl, e2⟩)
  go_ret
  exact ⟨rfl, e2⟩
set_option maxRecDepth 100000 in
set_option maxHeartbeats 1000000 in
theorem short15_c (ss : List ByteArray) (b n cap : Nat) (w : World) (hn : ss.length = n) (hn9 : n ≤ 100) (hc : ∀ (i : Nat) (hi : i < ss.length), ∀ W, Ext w W → W.cell? ⟨b, i, none⟩ = some (.string ss[i])) :
    Calls Tryz.prog 12 #[.slice (some ⟨b, 0, none⟩) n cap] w (Ret w (.bool (ss.all sz24))) := by
  have HC := Lib.hid hc; have HN := Lib.hid hn
  clear hc hn
  go_enter Tryz.func12, Tryz.ntmps12
  go_wp2
  go_loopw [3] (fun x W => ∃ k : Nat, x = .int .i64 k ∧ k ≤ n ∧ Ext w W ∧ Hid (∀ (i : Nat) (_ : i < k) (hi : i < ss.length), sz24 ss[i] = true)) (fun x _ => n - (intOf x).toNat)
  case atStart => exact ⟨0, rfl, by omega, Ext.refl _, Lib.hid (fun i h => by omega)⟩
  case round =>
    obtain ⟨k, rfl, hk, hx, HR⟩ := hrel
    by_cases hkn : k < n
    · have hks : k < ss.length := by have := HN.out; omega
      obtain ⟨s, hs⟩ : ∃ s, s = ss[k] := ⟨_, rfl⟩
      have hcell : ∀ W, Ext w W → W.cell? ⟨b, k, none⟩ = some (.string s) := fun W e => by rw [hs]; exact HC.out k hks W e
      have c1 := hcell _ hx
      have hix := run_index 75 22 rfl Tryz.sizeRat (ad := some ⟨b, 0, none⟩) (n := n) (cap := cap) (fun _ => rfl) k hkn
      have HS := Lib.hid hs
      clear hs hcell
      by_cases hq : s.size ≤ 24
      · have hd : decide ((24 : Int) < (s.size : Int)) = false := decide_eq_false (by omega)
        have HQ := Lib.hid hq
        clear hq
        go_wp2
        go_roundw
        case rel => exact ⟨k + 1, by go_num, by omega, hx, Lib.hid (fun i h hi => by
          by_cases e : i = k
          · subst e; rw [← HS.out]; exact sz24_true.2 HQ.out
          · exact HR.out i (by omega) hi)⟩
        case measure => simp [intOf]; omega
      · have hd : decide ((24 : Int) < (s.size : Int)) = true := decide_eq_true (by omega)
        have HQ := Lib.hid hq
        clear hq
        go_wp2
        go_ret
        exact ⟨by rw [gall_false hks (by rw [← HS.out]; exact decide_eq_false HQ.out)]; rfl, hx⟩
    · obtain rfl : k = n := by omega
      go_wp2
      go_ret
      exact ⟨by rw [gall_true (fun i hi => HR.out i (by have := HN.out; omega) hi)]; rfl, hx⟩
set_option maxRecDepth 100000 in
set_option maxHeartbeats 1000000 in
theorem right15_c (ss : List ByteArray) (b n cap : Nat) (w : World) (g : Gd w) (hn : ss.length = n) (hn9 : n ≤ 100) (hl : ∀ (i : Nat) (hi : i < ss.length), (ss[i]).size ≤ 1000000) (hc : ∀ (i : Nat) (hi : i < ss.length), ∀ W, Ext w W → W.cell? ⟨b, i, none⟩ = some (.string ss[i])) :
    Calls Tryz.prog 19 #[.slice (some ⟨b, 0, none⟩) n cap] w (Ret w (.bool (ss.all rq))) := by
  have HG := Lib.hid g; have HL := Lib.hid hl; have HC := Lib.hid hc; have HN := Lib.hid hn
  clear g hl hc hn
  go_enter Tryz.func19, Tryz.ntmps19
  go_wp2
  go_loopw [3] (fun x W => ∃ k : Nat, x = .int .i64 k ∧ k ≤ n ∧ Ext w W ∧ Hid (∀ (i : Nat) (_ : i < k) (hi : i < ss.length), rq ss[i] = true)) (fun x _ => n - (intOf x).toNat)
  case atStart => exact ⟨0, rfl, by omega, Ext.refl _, Lib.hid (fun i h => by omega)⟩
  case round =>
    obtain ⟨k, rfl, hk, hx, HR⟩ := hrel
    by_cases hkn : k < n
    · have hks : k < ss.length := by have := HN.out; omega
      obtain ⟨s, hs⟩ : ∃ s, s = ss[k] := ⟨_, rfl⟩
      have hsl : s.size ≤ 1000000 := by rw [hs]; exact HL.out k hks
      have hcell : ∀ W, Ext w W → W.cell? ⟨b, k, none⟩ = some (.string s) := fun W e => by rw [hs]; exact HC.out k hks W e
      have c1 := hcell _ hx
      have hix := run_index 75 22 rfl Tryz.sizeRat (ad := some ⟨b, 0, none⟩) (n := n) (cap := cap) (fun _ => rfl) k hkn
      have HS := Lib.hid hs
      clear hs hcell
      cases hq : rq s with
      | true =>
        have HQ := Lib.hid hq
        clear hq
        go_wp2_with (go_at_call 55; refine (lright_yes s _ (HG.out.ext hx) hsl HQ.out).mono ?_; rintro e w2 ⟨rfl, e2⟩)
        go_roundw
        case rel => exact ⟨k + 1, by go_num, by omega, hx.trans e2, Lib.hid (fun i h hi => by
          by_cases e : i = k
          · subst e; rw [← HS.out]; exact HQ.out
          · exact HR.out i (by omega) hi)⟩
        case measure => simp [intOf]; omega
      | false =>
        have HQ := Lib.hid hq
        clear hq
        go_wp2_with (go_at_call 55; refine (lright_no s _ (HG.out.ext hx) hsl HQ.out).mono ?_; rintro e w2 ⟨rfl, e2⟩)
        go_ret
        exact ⟨by rw [all_false hks (by rw [← HS.out]; exact HQ.out)]; rfl, hx.trans e2⟩
    · obtain rfl : k = n := by omega
      go_wp2
      go_ret
      exact ⟨by rw [all_true (fun i hi => HR.out i (by have := HN.out; omega) hi)]; rfl, hx⟩
theorem blk_cells {w : World} {b : Nat} {t : TypeId} (ss : List ByteArray) (h : Blk w b (ss.map Value.string).toArray t) : ∀ (i : Nat) (hi : i < ss.length), ∀ W, Ext w W → W.cell? ⟨b, i, none⟩ = some (.string ss[i]) :=
  fun i hi W e => (h.ext e).cell i (by simp [hi])
theorem short15_b (ss : List ByteArray) (n kb : Nat) {t : TypeId} (v : Bool) (w : World) (hn : ss.length = n) (hn9 : n ≤ 100) (hv : ss.all sz24 = v) (hB : Blk w kb (ss.map Value.string).toArray t) :
    Calls Tryz.prog 12 #[.slice (some ⟨kb, 0, none⟩) n n] w (Ret w (.bool v)) := hv ▸ short15_c ss kb n n w hn hn9 (blk_cells ss hB)
theorem right15_b (ss : List ByteArray) (n kb : Nat) {t : TypeId} (v : Bool) (w : World) (g : Gd w) (hn : ss.length = n) (hn9 : n ≤ 100) (hl : ∀ (i : Nat) (hi : i < ss.length), (ss[i]).size ≤ 1000000) (hv : ss.all rq = v) (hB : Blk w kb (ss.map Value.string).toArray t) :
    Calls Tryz.prog 19 #[.slice (some ⟨kb, 0, none⟩) n n] w (Ret w (.bool v)) := hv ▸ right15_c ss kb n n w g hn hn9 hl (blk_cells ss hB)
end Go.Proofs.YtplimbgaoengfaaGreatDoor
