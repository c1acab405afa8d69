/- Part 37 of the proof: Kit. -/
import Derived.Test.YtcenemaadnlknaaGreatDoorQPC3
import Derived.Test.YtcenemaadnlknaaGreatDoorQPC36
import Derived.Test.YtcenemaadnlknaaGreatDoorTie
import Derived.Test.YtcenemaadnlknaaGreatDoorCards
import Derived.ProofKit
import Derived.LaidMore
import Derived.Stop.Joined
import Derived.Stop.LaidErr
import Derived.Lib.LaidTab
import Derived.SevenTiedAt
set_option maxRecDepth 100000
set_option maxHeartbeats 2000000
namespace Go.Proofs.YtcenemaadnlknaaGreatDoor
open Go Go.ChangeShapes Go.WideShapes Go.ChangeAt Go.WideMaps Go.WideElems Go.RowKit
set_option maxRecDepth 100000
abbrev laid5:List (String × DataW Unit):=[("math/bits.deBruijn32tab",Rows.laid_math_bits_deBruijn32tab),("math/bits.deBruijn64tab",Rows.laid_math_bits_deBruijn64tab),("internal/strconv.uint64pow10",Rows.laid_internal_strconv_uint64pow10),("strconv.ErrRange",Rows.laid_strconv_ErrRange),("strconv.ErrSyntax",Rows.laid_strconv_ErrSyntax)]
theorem own:ownKnob Tryz.prog.godebug=Option.none:=by kernel_rfl
theorem gPow:Tryz.prog.globalNamed "internal/strconv.uint64pow10"=Option.some 1:=by kernel_rfl
theorem tPow:(Tryz.prog.globals[1]?).map (·.type)=Option.some 214:=by kernel_rfl
theorem gRange:Tryz.prog.globalNamed "strconv.ErrRange"=Option.some 3:=by kernel_rfl
theorem tRange:(Tryz.prog.globals[3]?).map (·.type)=Option.some 175:=by kernel_rfl
theorem pow_data:(Rows.laid_internal_strconv_uint64pow10:DataW Unit)=Lib.tabData .u64 Lib.pow10Tab:=by kernel_rfl
theorem starErr: "*" ++ "errors.errorString"= "*errors.errorString":=by decide
theorem rowErr (u:TypeId) (h:Tryz.prog.typeName? 3 u=Option.some "*errors.errorString"):u=223 :=
 typeName_ptr_named (nm:= "errors.errorString") (by rw [starErr];kernel_rfl) (by kernel_rfl) (by decide) u (by rw [starErr];exact h)
theorem gd_of_laid {W:World} (h:laidMetH Tryz.prog laid5 W):Gd W:=by
 rw [MakeChecks.laidMetH_plain _ _ _ (by kernel_rfl)] at h
 have h3:=h.tail.tail
 have h4:=h3.tail
 rw [pow_data] at h3
 refine ⟨Lib.tabIs_of_head gPow tPow Tryz.underlying214 Tryz.underlying164 (by kernel_rfl) (by kernel_rfl) h3,?_⟩
 obtain ⟨a,s,hv,_⟩:=laid_sentinel h4 gRange tRange Tryz.underlying175 rowErr Tryz.underlying223 Tryz.underlying225 rfl rfl Tryz.underlying9 (by kernel_rfl) (by kernel_rfl)
 exact ⟨_,_,hv⟩
theorem door_met (os:Os) (args:Array Value):laidMetH Tryz.prog laid5 ((World.doorLaid Tryz.prog 62 os).forCall (fun _ _=>0) ⟨#[],args,[]⟩).memory :=
 laidMetH_of_parts3 (fuel:=8) (laidMet_of_run' 8 (by kernel_rfl) (by kernel_rfl)) (by kernel_rfl) (by kernel_rfl)
end Go.Proofs.YtcenemaadnlknaaGreatDoor
