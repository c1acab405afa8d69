/- Part 42. -/
import Derived.Test.YtmahadmefplbnaaGreatDoorQFUB
import Derived.Test.YtmahadmefplbnaaGreatDoorQFU3
import Derived.Test.YtmahadmefplbnaaGreatDoorQFU41
import Derived.Test.YtmahadmefplbnaaGreatDoorTie
import Derived.Test.YtmahadmefplbnaaGreatDoorCards
import Derived.ProofKit
import Derived.LaidMore
import Derived.Stop.Joined
import Derived.Stop.LaidErr
import Derived.Lib.LaidTab
import Derived.SevenTiedAt
set_option maxRecDepth 100000
set_option maxHeartbeats 2000000
namespace Go.Proofs.YtmahadmefplbnaaGreatDoor
open Go Go.ChangeShapes Go.WideShapes Go.ChangeAt Go.WideMaps Go.WideElems Go.RowKit
set_option maxRecDepth 100000
abbrev iz:List (String × DataW Unit):=[("math/bits.deBruijn32tab",Rows.laid_math_bits_deBruijn32tab),("math/bits.deBruijn64tab",Rows.laid_math_bits_deBruijn64tab),("internal/strconv.uint64pow10",Rows.laid_internal_strconv_uint64pow10),("strconv.ErrRange",Rows.laid_strconv_ErrRange),("strconv.ErrSyntax",Rows.laid_strconv_ErrSyntax)]
theorem own:ownKnob Tryz.prog.godebug=Option.none:=ag
theorem Hm:Tryz.prog.globalNamed "internal/strconv.uint64pow10"=Option.some 3:=ag
theorem G7:(Tryz.prog.globals[3]?).map (·.type)=Option.some 323:=ag
theorem Fj:Tryz.prog.globalNamed "strconv.ErrRange"=Option.some 2:=ag
theorem D8:(Tryz.prog.globals[2]?).map (·.type)=Option.some 267:=ag
theorem zP:(Rows.laid_internal_strconv_uint64pow10:DataW Unit)=Lib.tabData .u64 Lib.pow10Tab:=ag
theorem vU: "*" ++ "errors.errorString"= "*errors.errorString":=af
theorem Eo (u:TypeId) (h:Tryz.prog.typeName? 3 u=Option.some "*errors.errorString"):u=326 :=
 typeName_ptr_named (nm:= "errors.errorString") (by rw [vU];kernel_rfl) ag af u (by rw [vU];exact h)
theorem jL {W:World} (h:laidMetH Tryz.prog iz W):Gd W:=by
 rw [MakeChecks.laidMetH_plain _ _ _ ag] at h;have h3:=h.tail.tail;have h4:=h3.tail;rw [zP] at h3;refine ⟨Lib.tabIs_of_head Hm G7 Tryz.underlying323 Tryz.underlying245 ag ag h3,?_⟩;obtain ⟨a,s,hv,_⟩:=laid_sentinel h4 Fj D8 Tryz.underlying267 Eo Tryz.underlying326 Tryz.underlying328 rfl rfl Tryz.underlying9 ag ag;exact ⟨_,_,hv⟩
theorem ot (os:Os) (args:Array Value):laidMetH Tryz.prog iz ((World.doorLaid Tryz.prog 62 os).forCall (fun _ _=>0) ⟨#[],args,[]⟩).memory :=
 laidMetH_of_parts3 (fuel:=8) (laidMet_of_run' 8 ag ag) ag ag
end Go.Proofs.YtmahadmefplbnaaGreatDoor
