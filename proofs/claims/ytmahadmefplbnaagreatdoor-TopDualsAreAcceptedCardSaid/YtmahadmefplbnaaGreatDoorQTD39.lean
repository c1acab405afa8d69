/- Part 39. -/
import Derived.Test.YtmahadmefplbnaaGreatDoorQTDB
import Derived.Test.YtmahadmefplbnaaGreatDoorQTD4
import Derived.Test.YtmahadmefplbnaaGreatDoorQTD38
import Derived.Test.YtmahadmefplbnaaGreatDoorTie
import Derived.Test.YtmahadmefplbnaaGreatDoorCards
import Derived.ProofKit
import Derived.LaidMore
import Derived.Stop.Joined
import Derived.Stop.LaidErr
import Derived.Lib.LaidTab
import Derived.SevenTiedAt
set_option maxRecDepth 100000
set_option maxHeartbeats 2000000
open Go.Proofs.Tryz
namespace Go.Proofs.YtmahadmefplbnaaGreatDoor
open Go Go.ChangeShapes Go.WideShapes Go.ChangeAt Go.WideMaps Go.WideElems Go.RowKit
set_option maxRecDepth 100000
abbrev qZ:List (String × DataW Unit):=[("math/bits.deBruijn32tab",Rows.laid_math_bits_deBruijn32tab),("math/bits.deBruijn64tab",Rows.laid_math_bits_deBruijn64tab),("internal/strconv.uint64pow10",Rows.laid_internal_strconv_uint64pow10),("strconv.ErrRange",Rows.laid_strconv_ErrRange),("strconv.ErrSyntax",Rows.laid_strconv_ErrSyntax)]
theorem own:ownKnob prog.godebug=Option.none:=ag
theorem EB:prog.globalNamed "internal/strconv.uint64pow10"=Option.some 3:=ag
theorem Eo:(prog.globals[3]?).map (·.type)=Option.some 323:=ag
theorem CM:prog.globalNamed "strconv.ErrRange"=Option.some 2:=ag
theorem BO:(prog.globals[2]?).map (·.type)=Option.some 267:=ag
theorem x6:(Rows.laid_internal_strconv_uint64pow10:DataW Unit)=Lib.tabData .u64 Lib.pow10Tab:=ag
theorem tH: "*" ++ "errors.errorString"= "*errors.errorString":=af
theorem B4(u:TypeId)(h:prog.typeName? 3 u=Option.some "*errors.errorString"):u=326 :=
 typeName_ptr_named (nm:= "errors.errorString") (by rw[tH];kernel_rfl) ag af u (by rw[tH];exact h)
theorem sW{W:World}(h:laidMetH prog qZ W):Gd W:=by
 rw[MakeChecks.laidMetH_plain _ _ _ ag] at h;have h3:=h.tail.tail;have h4:=h3.tail;rw[x6] at h3;refine⟨Lib.tabIs_of_head EB Eo underlying323 underlying245 ag ag h3,?_⟩;obtain⟨a,s,hv,_⟩:=laid_sentinel h4 CM BO underlying267 B4 underlying326 underlying328 rfl rfl underlying9 ag ag;exact⟨_,_,hv⟩
theorem zg(os:Os)(args:Array Value):laidMetH prog qZ ((World.doorLaid prog 62 os).forCall (fun _ _=>0) ⟨#[],args,[]⟩).memory :=
 laidMetH_of_parts3 (fuel:=8) (laidMet_of_run' 8 ag ag) ag ag
end Go.Proofs.YtmahadmefplbnaaGreatDoor
