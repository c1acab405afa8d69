/- Part 35 of the proof: Geo2. -/
import Derived.Test.YtglppcmegocphaaGreatDoorQS28
namespace Go.Proofs.YtglppcmegocphaaGreatDoor
open Go Go.RowKit
theorem tri (s : Rat) : (s < 0 ∧ s.num.sign = -1) ∨ (s = 0 ∧ s.num.sign = 0) ∨ (0 < s ∧ s.num.sign = 1) := by
  by_cases h : s < 0
  · exact Or.inl ⟨h, num_sign_neg h⟩
  · by_cases h2 : s = 0
    · exact Or.inr (Or.inl ⟨h2, by rw [h2]; rfl⟩)
    · exact Or.inr (Or.inr ⟨by grind, num_sign_pos (by grind)⟩)
theorem sign_prod (s t : Rat) : s.num.sign * t.num.sign ≤ 0 ↔ s * t ≤ 0 := by
  rcases tri s with ⟨h, e⟩ | ⟨h, e⟩ | ⟨h, e⟩ <;> rcases tri t with ⟨h', e'⟩ | ⟨h', e'⟩ | ⟨h', e'⟩ <;> rw [e, e']
  · have := Rat.mul_pos (a := -s) (b := -t) (by grind) (by grind)
    constructor
    · intro h; exact absurd h (by decide)
    · intro h; exfalso; grind
  · subst h'; simp
  · have := Rat.mul_pos (a := -s) (b := t) (by grind) h'
    constructor
    · intro _; grind
    · intro _; decide
  · subst h; simp
  · subst h; simp
  · subst h; simp
  · have := Rat.mul_pos (a := s) (b := -t) h (by grind)
    constructor
    · intro _; grind
    · intro _; decide
  · subst h'; simp
  · have := Rat.mul_pos h h'
    constructor
    · intro h; exact absurd h (by decide)
    · intro h; exfalso; grind
theorem inq_eq (a b x : Rat) : inq a b x = decide ((x - a) * (x - b) ≤ 0) := by
  unfold inq
  exact decide_eq_decide.2 (sign_prod _ _)
theorem prod_le {s t : Rat} : s * t ≤ 0 ↔ (s ≤ 0 ∧ 0 ≤ t) ∨ (0 ≤ s ∧ t ≤ 0) := by
  constructor
  · intro h
    rcases tri s with ⟨h1, _⟩ | ⟨h1, _⟩ | ⟨h1, _⟩ <;> rcases tri t with ⟨h2, _⟩ | ⟨h2, _⟩ | ⟨h2, _⟩
    · exfalso
      have := Rat.mul_pos (a := -s) (b := -t) (by grind) (by grind)
      grind
    · left; constructor <;> grind
    · left; constructor <;> grind
    · right; constructor <;> grind
    · right; constructor <;> grind
    · left; constructor <;> grind
    · right; constructor <;> grind
    · right; constructor <;> grind
    · exfalso
      have := Rat.mul_pos h1 h2
      grind
  · rintro (⟨h1, h2⟩ | ⟨h1, h2⟩)
    · have := Rat.mul_nonneg (a := -s) (b := t) (by grind) h2
      grind
    · have := Rat.mul_nonneg (a := s) (b := -t) h1 (by grind)
      grind
theorem qcmp_le {a b : Rat} : qcmp a b ≤ 0 ↔ a ≤ b := by
  have := @qcmp_gt a b
  constructor
  · intro h
    have : ¬ b < a := fun h2 => by have := (@qcmp_gt a b).2 h2; omega
    grind
  · intro h
    have : ¬ 0 < qcmp a b := fun h2 => by have := (@qcmp_gt a b).1 h2; grind
    omega
theorem win_eq (a b x : Rat) : win a b x = inq a b x := by
  rw [inq_eq]
  unfold win
  rw [Bool.eq_iff_iff, Bool.and_eq_true, decide_eq_true_eq, decide_eq_true_eq, decide_eq_true_eq, qcmp_le, qcmp_le, prod_le]
  unfold qmin qmax
  constructor
  · rintro ⟨h1, h2⟩
    by_cases h : a ≤ b
    · right; constructor <;> grind
    · left; constructor <;> grind
  · rintro (⟨h1, h2⟩ | ⟨h1, h2⟩) <;> constructor <;> grind
theorem btw_eq (a b p : P2) : sbtw a b p = vbtw a b p := by
  unfold sbtw vbtw
  rw [win_eq, win_eq]
  congr 1
  apply decide_eq_decide.2
  unfold parea
  rcases tri ((b.x - a.x) * (p.y - a.y) - (b.y - a.y) * (p.x - a.x)) with ⟨h, e⟩ | ⟨h, e⟩ | ⟨h, e⟩ <;> rw [e]
  · constructor
    · intro h; exact absurd h (by decide)
    · intro h; grind
  · exact ⟨fun _ => h, fun _ => rfl⟩
  · constructor
    · intro h; exact absurd h (by decide)
    · intro h; grind
theorem step_le {d k : Rat} : (k * d) * (k * d - d) ≤ 0 ↔ d = 0 ∨ k * (k - 1) ≤ 0 := by
  have e : (k * d) * (k * d - d) = (k * (k - 1)) * (d * d) := by grind
  rw [e]
  by_cases h : d = 0
  · subst h; simp
  · have hp := sq_pos' h
    constructor
    · intro h1
      right
      rcases Rat.le_total (a := k * (k - 1)) (b := 0) with h2 | h2
      · exact h2
      · by_cases h3 : k * (k - 1) = 0
        · grind
        · have := Rat.mul_pos (a := k * (k - 1)) (b := d * d) (by grind) hp
          exfalso; grind
    · rintro (h1 | h1)
      · exact absurd h1 h
      · have := Rat.mul_nonneg (a := -(k * (k - 1))) (b := d * d) (by grind) (by grind)
        grind
theorem btw_step (a b : P2) (k : Rat) (h : a ≠ b) : vbtw a b ⟨a.x + k * (b.x - a.x), a.y + k * (b.y - a.y)⟩ = inq 0 1 k := by
  unfold vbtw
  rw [win_eq, win_eq, inq_eq, inq_eq, inq_eq]
  simp only []
  have e0 : (b.x - a.x) * (a.y + k * (b.y - a.y) - a.y) - (b.y - a.y) * (a.x + k * (b.x - a.x) - a.x) = 0 := by grind
  have e1 : (a.x + k * (b.x - a.x) - a.x) * (a.x + k * (b.x - a.x) - b.x) = (k * (b.x - a.x)) * (k * (b.x - a.x) - (b.x - a.x)) := by grind
  have e2 : (a.y + k * (b.y - a.y) - a.y) * (a.y + k * (b.y - a.y) - b.y) = (k * (b.y - a.y)) * (k * (b.y - a.y) - (b.y - a.y)) := by grind
  have e3 : (k - 0) * (k - 1) = k * (k - 1) := by grind
  rw [e0, e1, e2, e3, Bool.eq_iff_iff, Bool.and_eq_true, Bool.and_eq_true, decide_eq_true_eq, decide_eq_true_eq, decide_eq_true_eq, decide_eq_true_eq, step_le, step_le]
  constructor
  · rintro ⟨_, h1 | h1, h2 | h2⟩
    · exact absurd (by cases a; cases b; simp only [P2.mk.injEq]; constructor <;> grind) h
    · exact h2
    · exact h1
    · exact h1
  · intro h1
    exact ⟨rfl, Or.inr h1, Or.inr h1⟩
theorem btw_same (a : P2) (k : Rat) : vbtw a a ⟨a.x + k * (a.x - a.x), a.y + k * (a.y - a.y)⟩ = true := by
  unfold vbtw
  rw [win_eq, win_eq, inq_eq, inq_eq]
  simp only []
  have e1 : (a.x + k * (a.x - a.x) - a.x) * (a.x + k * (a.x - a.x) - a.x) = 0 := by grind
  have e2 : (a.y + k * (a.y - a.y) - a.y) * (a.y + k * (a.y - a.y) - a.y) = 0 := by grind
  have e0 : (a.x - a.x) * (a.y + k * (a.y - a.y) - a.y) - (a.y - a.y) * (a.x + k * (a.x - a.x) - a.x) = 0 := by grind
  rw [e0, e1, e2]
  decide

theorem sbtw_v (a b p : P2) {k : Nat} (w : World) (g : Gd w) (ha : PB k a) (hb : PB k b) (hc : PB k p) (hk : k ≤ 400) : Calls Tryz.prog 65 #[pv a, pv b, pv p] w (Ret w (.bool (vbtw a b p))) := by
  rw [← btw_eq]; exact sbetween_x a b p w g ha hb hc hk
theorem sinside_01 (x : Rat) {k : Nat} (w : World) (g : Gd w) (hx : QB k x) (hk : k ≤ 1000) (h1 : 1 ≤ k) : Calls Tryz.prog 46 #[.string ⟨#[48]⟩, .string ⟨#[49]⟩, .string (qs x)] w (Ret w (.bool (inq 0 1 x))) := by
  have := sinside_c 0 1 x w g (((⟨by decide, by decide⟩ : QB 1 0)).mono h1) (((⟨by decide, by decide⟩ : QB 1 1)).mono h1) hx hk
  rwa [qs_zero, qs_one] at this
end Go.Proofs.YtglppcmegocphaaGreatDoor
