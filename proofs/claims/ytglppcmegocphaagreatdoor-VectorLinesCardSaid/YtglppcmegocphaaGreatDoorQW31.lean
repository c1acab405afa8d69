/- Part 31 of the proof: L8w. -/
import Derived.Test.YtglppcmegocphaaGreatDoorQW1
import Derived.Test.YtglppcmegocphaaGreatDoorQW2
import Derived.Test.YtglppcmegocphaaGreatDoorQW3
import Derived.Test.YtglppcmegocphaaGreatDoorQW4
import Derived.Test.YtglppcmegocphaaGreatDoorQW5
import Derived.Test.YtglppcmegocphaaGreatDoorQW6
import Derived.Test.YtglppcmegocphaaGreatDoorQW7
import Derived.Test.YtglppcmegocphaaGreatDoorQW8
import Derived.Test.YtglppcmegocphaaGreatDoorQW9
import Derived.Test.YtglppcmegocphaaGreatDoorQW10
import Derived.Test.YtglppcmegocphaaGreatDoorQW11
import Derived.Test.YtglppcmegocphaaGreatDoorQW12
import Derived.Test.YtglppcmegocphaaGreatDoorQW13
import Derived.Test.YtglppcmegocphaaGreatDoorQW14
import Derived.Test.YtglppcmegocphaaGreatDoorQW15
import Derived.Test.YtglppcmegocphaaGreatDoorQW16
import Derived.Test.YtglppcmegocphaaGreatDoorQW17
import Derived.Test.YtglppcmegocphaaGreatDoorQW18
import Derived.Test.YtglppcmegocphaaGreatDoorQW19
import Derived.Test.YtglppcmegocphaaGreatDoorQW20
import Derived.Test.YtglppcmegocphaaGreatDoorQW21
import Derived.Test.YtglppcmegocphaaGreatDoorQW22
import Derived.Test.YtglppcmegocphaaGreatDoorQW23
import Derived.Test.YtglppcmegocphaaGreatDoorQW24
import Derived.Test.YtglppcmegocphaaGreatDoorQW25
import Derived.Test.YtglppcmegocphaaGreatDoorQW26
import Derived.Test.YtglppcmegocphaaGreatDoorQW27
import Derived.Test.YtglppcmegocphaaGreatDoorQW28
import Derived.Test.YtglppcmegocphaaGreatDoorQW29
import Derived.Test.YtglppcmegocphaaGreatDoorQW30
namespace Go.Proofs.YtglppcmegocphaaGreatDoor
open Go Go.RowKit
theorem lines_walk (p q r s : Pla) (w : World) (g : Gd w) (hp : PlaOk p) (hq : PlaOk q) (hr : PlaOk r) (hs : PlaOk s) : Calls Tryz.prog 7 #[.agg #[.int .i16 p.n0, .int .u8 (p.d0 : Int), .int .i16 p.n1, .int .u8 (p.d1 : Int), .int .i16 p.n2, .int .u8 (p.d2 : Int), .int .i16 q.n0, .int .u8 (q.d0 : Int), .int .i16 q.n1, .int .u8 (q.d1 : Int), .int .i16 q.n2, .int .u8 (q.d2 : Int)], .agg #[.int .i16 r.n0, .int .u8 (r.d0 : Int), .int .i16 r.n1, .int .u8 (r.d1 : Int), .int .i16 r.n2, .int .u8 (r.d2 : Int), .int .i16 s.n0, .int .u8 (s.d0 : Int), .int .i16 s.n1, .int .u8 (s.d1 : Int), .int .i16 s.n2, .int .u8 (s.d2 : Int)]] w (Ret w (.bool true)) := by
  by_cases hab : ppt p = ppt q
  · by_cases hcd : ppt r = ppt s
    · exact lines_walk_ss p q r s w g hp hq hr hs hab hcd
    · exact lines_walk_sn p q r s w g hp hq hr hs hab hcd
  · by_cases hcd : ppt r = ppt s
    · exact lines_walk_ns p q r s w g hp hq hr hs hab hcd
    · by_cases h1 : lex (lthru (ppt p) (ppt q)) (ppt r) = lex (lthru (ppt p) (ppt q)) (ppt s)
      · by_cases h2 : lex (lthru (ppt p) (ppt q)) (ppt r) = 0
        · exact lines_walk_S0 p q r s w g hp hq hr hs hab hcd ⟨h2, h1.symm.trans h2⟩
        · exact lines_walk_S1 p q r s w g hp hq hr hs hab hcd ⟨h2, h1.symm⟩
      · by_cases h2 : 0 < (lex (lthru (ppt p) (ppt q)) (ppt r)).num.sign * (lex (lthru (ppt p) (ppt q)) (ppt s)).num.sign
        · exact lines_walk_N p q r s w g hp hq hr hs hab hcd ⟨h1, h2⟩
        · by_cases h3 : lex (lthru (ppt p) (ppt q)) (ppt r) = 0
          · exact lines_walk_K0 p q r s w g hp hq hr hs hab hcd ⟨h3, fun e => h1 (h3.trans e.symm)⟩
          · exact lines_walk_K1 p q r s w g hp hq hr hs hab hcd ⟨h1, h3, Int.not_lt.1 h2⟩
end Go.Proofs.YtglppcmegocphaaGreatDoor
