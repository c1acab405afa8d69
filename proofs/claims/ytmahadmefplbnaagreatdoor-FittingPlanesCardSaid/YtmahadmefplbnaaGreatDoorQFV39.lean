/- Part 39. -/
import Derived.Test.YtmahadmefplbnaaGreatDoorQFVB
import Derived.Test.YtmahadmefplbnaaGreatDoorQFV3
import Derived.Test.YtmahadmefplbnaaGreatDoorQFV38
import Derived.Test.YtmahadmefplbnaaGreatDoorTie
import Derived.Test.YtmahadmefplbnaaGreatDoorCards
import Derived.ProofKit
import Derived.LaidMore
import Derived.Stop.Joined
import Derived.Stop.LaidErr
import Derived.Lib.LaidTab
import Derived.SevenTiedAt
set_option maxRecDepth 100000
set_option maxHeartbeats 2000000
open Go.Proofs.Tryz
namespace Go.Proofs.YtmahadmefplbnaaGreatDoor
open Go Go.ChangeShapes Go.WideShapes Go.ChangeAt Go.WideMaps Go.WideElems Go.RowKit
set_option maxRecDepth 100000
abbrev sA:List (String × DataW Unit):=[("math/bits.deBruijn32tab",Rows.laid_math_bits_deBruijn32tab),("math/bits.deBruijn64tab",Rows.laid_math_bits_deBruijn64tab),("internal/strconv.uint64pow10",Rows.laid_internal_strconv_uint64pow10),("strconv.ErrRange",Rows.laid_strconv_ErrRange),("strconv.ErrSyntax",Rows.laid_strconv_ErrSyntax)]
theorem own:ownKnob prog.godebug=Option.none:=ag
theorem Hs:prog.globalNamed "internal/strconv.uint64pow10"=Option.some 3:=ag
theorem He:(prog.globals[3]?).map (·.type)=Option.some 323:=ag
theorem Fw:prog.globalNamed "strconv.ErrRange"=Option.some 2:=ag
theorem Eg:(prog.globals[2]?).map (·.type)=Option.some 267:=ag
theorem zW:(Rows.laid_internal_strconv_uint64pow10:DataW Unit)=Lib.tabData .u64 Lib.pow10Tab:=ag
theorem vU: "*" ++ "errors.errorString"= "*errors.errorString":=af
theorem Ez(u:TypeId)(h:prog.typeName? 3 u=Option.some "*errors.errorString"):u=326 :=
 typeName_ptr_named (nm:= "errors.errorString") (by rw[vU];kernel_rfl) ag af u (by rw[vU];exact h)
theorem uO{W:World}(h:laidMetH prog sA W):Gd W:=by
 rw[MakeChecks.laidMetH_plain _ _ _ ag] at h;have h3:=h.tail.tail;have h4:=h3.tail;rw[zW] at h3;refine⟨Lib.tabIs_of_head Hs He underlying323 underlying245 ag ag h3,?_⟩;obtain⟨a,s,hv,_⟩:=laid_sentinel h4 Fw Eg underlying267 Ez underlying326 underlying328 rfl rfl underlying9 ag ag;exact⟨_,_,hv⟩
theorem Bc(os:Os)(args:Array Value):laidMetH prog sA ((World.doorLaid prog 62 os).forCall (fun _ _=>0) ⟨#[],args,[]⟩).memory :=
 laidMetH_of_parts3 (fuel:=8) (laidMet_of_run' 8 ag ag) ag ag
end Go.Proofs.YtmahadmefplbnaaGreatDoor
