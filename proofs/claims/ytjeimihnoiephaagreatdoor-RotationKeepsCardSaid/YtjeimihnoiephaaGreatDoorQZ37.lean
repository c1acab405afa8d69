/- Part 37 of the proof: Kit, Kit2. -/
import Derived.Test.YtjeimihnoiephaaGreatDoorQZ3
import Derived.Test.YtjeimihnoiephaaGreatDoorQZ36
import Derived.Test.YtjeimihnoiephaaGreatDoorTie
import Derived.Test.YtjeimihnoiephaaGreatDoorCards
import Derived.ProofKit
import Derived.LaidMore
import Derived.Stop.Joined
import Derived.Stop.LaidErr
import Derived.Lib.LaidTab
import Derived.SevenTiedAt
set_option maxRecDepth 100000
namespace Go.Proofs.YtjeimihnoiephaaGreatDoor
open Go Go.ChangeShapes Go.WideShapes Go.ChangeAt Go.WideMaps Go.WideElems Go.RowKit
set_option maxRecDepth 100000
abbrev laid5:List (String × DataW Unit):=[("math/bits.deBruijn32tab",Rows.laid_math_bits_deBruijn32tab),("math/bits.deBruijn64tab",Rows.laid_math_bits_deBruijn64tab),("internal/strconv.uint64pow10",Rows.laid_internal_strconv_uint64pow10),("strconv.ErrRange",Rows.laid_strconv_ErrRange),("strconv.ErrSyntax",Rows.laid_strconv_ErrSyntax)]

theorem own:ownKnob Tryz.prog.godebug=Option.none:=by kernel_rfl
theorem gPow:Tryz.prog.globalNamed "internal/strconv.uint64pow10"=Option.some 3:=by kernel_rfl
theorem tPow:(Tryz.prog.globals[3]?).map (·.type)=Option.some 237:=by kernel_rfl
theorem gRange:Tryz.prog.globalNamed "strconv.ErrRange"=Option.some 2:=by kernel_rfl
theorem tRange:(Tryz.prog.globals[2]?).map (·.type)=Option.some 176:=by kernel_rfl
theorem pow_data:(Rows.laid_internal_strconv_uint64pow10:DataW Unit)=Lib.tabData .u64 Lib.pow10Tab:=by kernel_rfl

theorem starErr: "*" ++ "errors.errorString"= "*errors.errorString":=by decide
theorem rowErr (u:TypeId) (h:Tryz.prog.typeName? 3 u=Option.some "*errors.errorString"):u=240 :=
  typeName_ptr_named (nm:= "errors.errorString") (by rw [starErr];kernel_rfl) (by kernel_rfl) (by decide) u (by rw [starErr];exact h)

theorem gd_of_laid {W:World} (h:laidMetH Tryz.prog laid5 W):Gd W:=by
  rw [MakeChecks.laidMetH_plain _ _ _ (by kernel_rfl)] at h
  have h3:=h.tail.tail
  have h4:=h3.tail
  rw [pow_data] at h3
  refine ⟨Lib.tabIs_of_head gPow tPow Tryz.underlying237 Tryz.underlying159 (by kernel_rfl) (by kernel_rfl) h3,?_⟩
  obtain ⟨a,s,hv,_⟩:=laid_sentinel h4 gRange tRange Tryz.underlying176 rowErr Tryz.underlying240 Tryz.underlying242 rfl rfl Tryz.underlying9 (by kernel_rfl) (by kernel_rfl)
  exact ⟨_,_,hv⟩

theorem door_met (os:Os) (args:Array Value):laidMetH Tryz.prog laid5 ((World.doorLaid Tryz.prog 62 os).forCall (fun _ _=>0) ⟨#[],args,[]⟩).memory :=
  laidMetH_of_parts3 (fuel:=8) (laidMet_of_run' 8 (by kernel_rfl) (by kernel_rfl)) (by kernel_rfl) (by kernel_rfl)

theorem agg_cells {cs:Array Value} {l:List Value} (h:(Value.agg cs).cells.toList=l):Value.agg cs = .agg l.toArray:=by
  subst h
  rfl
end Go.Proofs.YtjeimihnoiephaaGreatDoor

namespace Go.Proofs.YtjeimihnoiephaaGreatDoor
open Go Go.ChangeShapes Go.WideShapes Go.ChangeAt Go.WideMaps Go.WideElems Go.RowKit
theorem i8_of {ls:List Lf} {cs:List Value} (h:FitsL (.i .i8 :: ls) cs):∃ (n:Int) (rest:List Value),(-128≤n∧n≤127)∧cs = .int .i8 n :: rest∧FitsL ls rest:=by
  obtain ⟨_,_,rfl,⟨n,rfl,hn⟩,hr⟩:=h
  exact ⟨n,_,bounds_i8 hn,rfl,hr⟩
end Go.Proofs.YtjeimihnoiephaaGreatDoor
