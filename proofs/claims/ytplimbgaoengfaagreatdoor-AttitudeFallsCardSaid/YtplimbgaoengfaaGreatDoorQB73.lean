/- Part 73 of the proof: N10w. -/
import Derived.Test.YtplimbgaoengfaaGreatDoorQB1
import Derived.Test.YtplimbgaoengfaaGreatDoorQB2
import Derived.Test.YtplimbgaoengfaaGreatDoorQB3
import Derived.Test.YtplimbgaoengfaaGreatDoorQB4
import Derived.Test.YtplimbgaoengfaaGreatDoorQB5
import Derived.Test.YtplimbgaoengfaaGreatDoorQB6
import Derived.Test.YtplimbgaoengfaaGreatDoorQB7
import Derived.Test.YtplimbgaoengfaaGreatDoorQB8
import Derived.Test.YtplimbgaoengfaaGreatDoorQB9
import Derived.Test.YtplimbgaoengfaaGreatDoorQB10
import Derived.Test.YtplimbgaoengfaaGreatDoorQB11
import Derived.Test.YtplimbgaoengfaaGreatDoorQB12
import Derived.Test.YtplimbgaoengfaaGreatDoorQB13
import Derived.Test.YtplimbgaoengfaaGreatDoorQB14
import Derived.Test.YtplimbgaoengfaaGreatDoorQB15
import Derived.Test.YtplimbgaoengfaaGreatDoorQB16
import Derived.Test.YtplimbgaoengfaaGreatDoorQB17
import Derived.Test.YtplimbgaoengfaaGreatDoorQB18
import Derived.Test.YtplimbgaoengfaaGreatDoorQB19
import Derived.Test.YtplimbgaoengfaaGreatDoorQB20
import Derived.Test.YtplimbgaoengfaaGreatDoorQB21
import Derived.Test.YtplimbgaoengfaaGreatDoorQB22
import Derived.Test.YtplimbgaoengfaaGreatDoorQB23
import Derived.Test.YtplimbgaoengfaaGreatDoorQB24
import Derived.Test.YtplimbgaoengfaaGreatDoorQB25
import Derived.Test.YtplimbgaoengfaaGreatDoorQB26
import Derived.Test.YtplimbgaoengfaaGreatDoorQB27
import Derived.Test.YtplimbgaoengfaaGreatDoorQB28
import Derived.Test.YtplimbgaoengfaaGreatDoorQB29
import Derived.Test.YtplimbgaoengfaaGreatDoorQB30
import Derived.Test.YtplimbgaoengfaaGreatDoorQB31
import Derived.Test.YtplimbgaoengfaaGreatDoorQB33
import Derived.Test.YtplimbgaoengfaaGreatDoorQB39
import Derived.Test.YtplimbgaoengfaaGreatDoorQB50
import Derived.Test.YtplimbgaoengfaaGreatDoorQB51
import Derived.Test.YtplimbgaoengfaaGreatDoorQB58
import Derived.Test.YtplimbgaoengfaaGreatDoorQB59
import Derived.Test.YtplimbgaoengfaaGreatDoorQB64
import Derived.Test.YtplimbgaoengfaaGreatDoorQB68
import Derived.Test.YtplimbgaoengfaaGreatDoorQB69
import Derived.Test.YtplimbgaoengfaaGreatDoorQB70
import Derived.Test.YtplimbgaoengfaaGreatDoorQB71
import Derived.Test.YtplimbgaoengfaaGreatDoorQB72
namespace Go.Proofs.YtplimbgaoengfaaGreatDoor
open Go Go.RowKit
theorem falls15_walk (n : T3) (a b : T2) (p q : ByteArray) (w : World) (g : Gd w) : Calls Tryz.prog 7 #[tv n, .agg #[.string a.x, .string a.y, .string p], .agg #[.string b.x, .string b.y, .string q]] w (Ret w (.bool true)) := by
  cases hs : [n.x, n.y, n.z, a.x, a.y, p, b.x, b.y, q].all sz24 with
  | false => exact falls15_L n a b p q w g hs
  | true =>
    have hs2 := hs
    simp only [List.all_cons, List.all_nil, Bool.and_true, Bool.and_eq_true, sz24_true] at hs2
    obtain ⟨s0, s1, s2, s3, s4, s5, s6, s7, s8⟩ := hs2
    have big : ∀ {s : ByteArray}, s.size ≤ 24 → s.size ≤ 1000000 := fun h => Nat.le_trans h (by decide)
    obtain ⟨en, hen⟩ := nerr_ex (t := n) ⟨big s0, big s1, big s2⟩
    obtain ⟨ea, hea⟩ := herr_ex (t := a) ⟨big s3, big s4⟩
    obtain ⟨eb, heb⟩ := herr_ex (t := b) ⟨big s6, big s7⟩
    by_cases hn0 : en = 0
    · subst hn0
      by_cases ha0 : ea = 0
      · subst ha0
        obtain ⟨v, rfl, hv, hvz⟩ := nerr_ok hen rfl
        by_cases h0 : v.z = 0
        · cases hp : rq p with
          | false => exact falls15_Up v a b p q 0 0 eb w g hs hen hea h0 hp
          | true =>
            by_cases hb0 : eb = 0
            · subst hb0
              cases hq : rq q with
              | false => exact falls15_Uq v a b p q 0 0 0 w g hs hen hea h0 hp heb hq
              | true =>
                obtain ⟨A, rfl, hA, _⟩ := herr_ok hea rfl
                obtain ⟨B, rfl, hB, _⟩ := herr_ok heb rfl
                obtain ⟨x, rfl, hx⟩ := right_q hp
                obtain ⟨y, rfl, hy⟩ := right_q hq
                by_cases hd : A.x * B.y - A.y * B.x = 0
                · exact falls15_UD v A B x y 0 0 0 w g hs hen hea h0 heb hd
                · exact falls15_UR v A B x y 0 0 0 w g hs hen hea h0 heb hd
            · exact falls15_Ub v a b p q 0 0 eb w g hs hen hea h0 hp heb hb0
        · obtain ⟨A, rfl, hA, _⟩ := herr_ok hea rfl
          cases hp : rq p with
          | false => exact falls15_Rp v A b p q 0 0 eb w g hs hen hea h0 hp
          | true =>
            by_cases hb0 : eb = 0
            · subst hb0
              cases hq : rq q with
              | false => exact falls15_Rq v A b p q 0 0 0 w g hs hen hea h0 hp heb hq
              | true =>
                obtain ⟨B, rfl, hB, _⟩ := herr_ok heb rfl
                obtain ⟨x, rfl, hx⟩ := right_q hp
                obtain ⟨y, rfl, hy⟩ := right_q hq
                by_cases hd : A.x * B.y - A.y * B.x = 0
                · exact falls15_RD v A B x y 0 0 0 w g hs hen hea h0 heb hd
                · exact falls15_RR v A B x y 0 0 0 w g hs hen hea h0 heb hd
            · exact falls15_Rb v A b p q 0 0 eb w g hs hen hea h0 hp heb hb0
      · exact falls15_Aa n a b p q 0 ea eb w g hs hen hea ha0
    · by_cases ha0 : ea = 0
      · subst ha0
        cases hp : rq p with
        | false => exact falls15_Np n a b p q en 0 eb w g hs hen hea hn0 hp
        | true =>
          by_cases hb0 : eb = 0
          · subst hb0
            cases hq : rq q with
            | false => exact falls15_Nq n a b p q en 0 0 w g hs hen hea hn0 hp heb hq
            | true =>
              obtain ⟨A, rfl, hA, _⟩ := herr_ok hea rfl
              obtain ⟨B, rfl, hB, _⟩ := herr_ok heb rfl
              obtain ⟨x, rfl, hx⟩ := right_q hp
              obtain ⟨y, rfl, hy⟩ := right_q hq
              by_cases hd : A.x * B.y - A.y * B.x = 0
              · exact falls15_ND n A B x y en 0 0 w g hs hen hea hn0 heb hd
              · exact falls15_NR n A B x y en 0 0 w g hs hen hea hn0 heb hd
          · exact falls15_Nb n a b p q en 0 eb w g hs hen hea hn0 hp heb hb0
      · exact falls15_Na n a b p q en ea eb w g hs hen hea hn0 ha0
end Go.Proofs.YtplimbgaoengfaaGreatDoor
