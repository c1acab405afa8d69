/- VectorPrimitive: the card. For every input the law returns true and each argument reads as before; the listed variables are tied to the program's text. -/
import Derived.Test.YtglppcmegocphaaGreatDoorQVP22
import Derived.Test.YtglppcmegocphaaGreatDoorQVP23
import Derived.Test.YtglppcmegocphaaGreatDoorQVP25
namespace Go.Proofs.YtglppcmegocphaaGreatDoor
open Go Go.ChangeShapes Go.WideShapes Go.RowKit
/-- A described number among the cells. -/
theorem sm_of {ls : List Lf} {cs : List Value} (h : FitsL (.i .i16 :: .i .u8 :: ls) cs) : ∃ (n : Int) (d : Nat) (rest : List Value), (-32768 ≤ n ∧ n ≤ 32767 ∧ d ≤ 255) ∧ cs = .int .i16 n :: .int .u8 (d : Int) :: rest ∧ FitsL ls rest := by
  obtain ⟨_, _, rfl, ⟨n, rfl, hn⟩, _, _, rfl, ⟨d, rfl, hd⟩, hr⟩ := h
  have hn' := bounds_i16 hn
  have hd' := bounds_u8 hd
  obtain ⟨k, rfl⟩ : ∃ k : Nat, d = (k : Int) := ⟨d.toNat, by omega⟩
  exact ⟨n, k, _, ⟨hn'.1, hn'.2, by omega⟩, rfl, hr⟩
/-- A described place among the cells. -/
theorem pla_of {ls : List Lf} {cs : List Value} (h : FitsL (.i .i16 :: .i .u8 :: .i .i16 :: .i .u8 :: .i .i16 :: .i .u8 :: ls) cs) : ∃ (p : Pla) (rest : List Value), PlaOk p ∧
    cs = .int .i16 p.n0 :: .int .u8 (p.d0 : Int) :: .int .i16 p.n1 :: .int .u8 (p.d1 : Int) :: .int .i16 p.n2 :: .int .u8 (p.d2 : Int) :: rest ∧ FitsL ls rest := by
  obtain ⟨n0, d0, r0, b0, e0, h⟩ := sm_of h
  obtain ⟨n1, d1, r1, b1, e1, h⟩ := sm_of h
  obtain ⟨n2, d2, r, b2, e2, h⟩ := sm_of h
  exact ⟨⟨n0, d0, n1, d1, n2, d2⟩, r, ⟨b0.1, b0.2.1, b0.2.2, b1.1, b1.2.1, b1.2.2, b2.1, b2.2.1, b2.2.2⟩, by rw [e0, e1, e2], h⟩
end Go.Proofs.YtglppcmegocphaaGreatDoor

namespace Go.Proofs.YtglppcmegocphaaGreatDoor
open Go Go.ChangeShapes Go.WideShapes Go.ChangeAt Go.WideMaps Go.WideElems Go.RowKit
set_option maxRecDepth 100000
theorem vectorPrimitive_lifted (os : Os) (started : os.Started) (H : Type) (enc : TypeId × Value → H) :
    ReturnsInHanded {} Tryz.checked os 3 .any (fun w args => (Rows.vectorPrimitiveSpec.pre enc Tryz.prog Tryz.f3 [] false w args ∧ laidMetH Tryz.prog laid5 w) ∧ sizedMet enc Tryz.prog Tryz.f3 (OpenSpec.ofChange Rows.vectorPrimitiveSpec) false w args)
      (Rows.vectorPrimitiveSpec.post enc Tryz.prog Tryz.f3 false true false false) := by
  refine returnsInHanded_of_change_and (C := Tryz.checked) (X := fun w _ => laidMetH Tryz.prog laid5 w) (fun _ _ _ hh h => h.of_heap hh) own started (by kernel_rfl) Tryz.func3
    (ChangeSpec.witness_shaped (enc := enc) (C := Tryz.checked) (os := os) (X := fun w _ => laidMetH Tryz.prog laid5 w) false (World.doorLaid Tryz.prog 62 os) #[.agg #[.int .i16 0, .int .u8 0, .int .i16 0, .int .u8 0, .int .i16 0, .int .u8 0]] 8 rfl (World.shaped_of_RefB (by kernel_rfl) (by kernel_rfl)) (by kernel_rfl) (by kernel_rfl) (by kernel_rfl) (door_met os _)) ?_
  intro W base args ds gs before hval0 hW _ _ hL _
  have hval : ∀ (j : Nat) t v, Tryz.f3.params[j]? = Option.some t → args[j]? = Option.some v → Value.okWide Tryz.prog W .any base t v := hval0
  have hW' := hW
  obtain ⟨p, q, hA0, hV, rfl, hfz, hnd⟩ := hW
  have hA : DataW.TrodAll enc Tryz.prog W 0 (fun _ => true) true Tryz.f3.params.toList args.toList ds p := hA0
  rw [Tryz.params3] at hA hval
  obtain ⟨v0, d0, rfl, rfl, h0⟩ := trodAll_one hA
  obtain ⟨rfl, rfl⟩ := trodVars_none hV
  obtain ⟨cs0, rfl⟩ := agg_of_ok (Or.inr ⟨_, _, Tryz.underlying26⟩) (hval 0 26 v0 rfl rfl)
  obtain ⟨f0, rfl, r0⟩ := open_plain 8 (show leafs Tryz.prog 8 26 = Option.some [.i .i16, .i .u8, .i .i16, .i .u8, .i .i16, .i .u8] by kernel_rfl) h0
  obtain ⟨p, R0_0, hp, E0_0, f⟩ := pla_of f0
  have fe : R0_0 = [] := f
  rw [fe] at E0_0
  rw [agg_cells E0_0] at hW' r0 ⊢
  have g := gd_of_laid hL
  refine (prim_walk p W g hp).mono fun e W' ⟨he, hw⟩ => ?_
  subst he
  exact ⟨_, rfl, post_of_below hW' (fun _ _ _ => trodAll_mk1 (shut_bool Tryz.underlying4 _)) (fun sp _ => trodAll_mk1 (r0 W' 0 sp true)) (fun _ _ => rfl) rfl hw.below (ok_one (by kernel_rfl) rfl (okWide_bool_mk Tryz.underlying4 _))⟩

theorem vectorPrimitive_said : Rows.VectorPrimitiveSaid :=
  OpenClaim.holds_of_wide 3 Tryz.f3 rfl rfl rfl rfl rfl rfl rfl ⟨rfl, rfl, rfl, rfl, rfl⟩ rfl rfl rfl rfl rfl (by kernel_rfl) Tryz.func3 (by kernel_rfl)
    (of_decide_eq_true (by kernel_rfl)) (by unfold Func.isWrapper; first | (rw [if_pos (by decide +kernel)]; kernel_rfl) | (rw [if_neg (by decide +kernel)]; exact ⟨rfl, rfl⟩))
    (fun os started H enc _ => vectorPrimitive_lifted os started H enc)

theorem vectorPrimitive_holds : Rows.VectorPrimitiveCardSaid :=
  Claim7.holds_tied_plain_at .later [] [.data, .data, .data, .sentinel, .sentinel] true _ true
    vectorPrimitive_said (fun _ h => by cases h) (by kernel_rfl) (fun _ h => by cases h) vectorPrimitive_row_tie rfl ⟨rfl, rfl⟩ (by kernel_rfl) rfl
    (fun f fn hf hfn => by
      obtain rfl : f = 3 := Option.some.inj ((show Tryz.prog.funcNamed "klippe/klippelaw05.VectorPrimitive" = Option.some 3 by kernel_rfl).symm.trans hf) |>.symm
      obtain rfl : fn = Tryz.f3 := (Option.some.inj (Tryz.func3.symm.trans hfn)).symm
      exact ⟨by kernel_rfl, fun j t ht => by
        rw [Tryz.params3] at ht
        have hm : t ∈ [26] := by simpa using Array.mem_of_getElem? ht
        have hall : ([26].all fun u => !Tryz.prog.wantsStandIn u) = true := by kernel_rfl
        exact (show Tryz.prog.wantsStandIn t = false by simpa using List.all_eq_true.1 hall t hm)⟩)
    (by kernel_rfl)
#print axioms vectorPrimitive_holds
end Go.Proofs.YtglppcmegocphaaGreatDoor
