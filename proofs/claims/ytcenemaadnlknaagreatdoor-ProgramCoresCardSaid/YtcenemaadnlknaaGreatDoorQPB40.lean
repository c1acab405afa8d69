/- Part 40 of the proof: S22, S44. -/
import Derived.Test.YtcenemaadnlknaaGreatDoorQPB39
set_option maxRecDepth 100000
set_option maxHeartbeats 2000000
set_option linter.unusedSimpArgs false
set_option linter.unusedVariables false
theorem Go.Proofs.YtcenemaadnlknaaGreatDoor.Hi40 {p:Prop} (h:p):Go.RowKit.Hid p:=h
namespace Go.Proofs.YtcenemaadnlknaaGreatDoor
open Go Go.RowKit
def ntz (t:Nat->ByteArray) (i:Nat):Bool:=decide (t i≠⟨#[48]⟩)
theorem fil_len {is:Nat->Bool} {k:Nat}:(fil is k).length<=k:=by have:=List.length_filter_le is (List.range k);rw [List.length_range] at this;exact this
section
variable {X w w':World} {is:Nat->Bool} {k:Nat} {v:Value}
theorem fl_sz {n:Nat} (h:n<=1000):(fil is n).length+1<=maxLen:=by have:=@fil_len is n;unfold maxLen;omega
theorem fl_sz2 {n:Nat} (h:n<=1000):((fil is n).length+1)*8<=140737488355328:=by have:=@fil_len is n;omega
end
def FLP (w:World) (is:Nat->Bool) (m:Nat) (e:Ending) (w':World):Prop:=∃ v,e = .returned v/\Ext w w'/\FL w w' is m v
theorem psupport_go (ao_:Option Addr) (ac m:Nat) (t:Nat->ByteArray) (w:World) (hr:∀ i,i<m->∃ a,ao_=some a/\w.cell? (a.add i)=some (.string (t i))) (hm:m<=1000):Calls Tryz.prog 23 #[.agg #[.slice ao_ m ac]] w (FLP w (ntz t) m):=by
 have HR:=Hi40 hr
 clear hr
 go_enter Tryz.func23,Tryz.ntmps23
 go_wp2_with fail
 refine wp_name (fun W=>Ext w W/\Blk W (w.heap.size) (#[.slice ao_ m ac]) 40) ⟨((Ext.refl w).alloc _),(Blk.new' (w:=_) (cs:=#[.slice ao_ m ac]) (t:=40) (by first|rfl|(simp only [World.size_alloc];done)|(simp only [World.size_alloc];omega)|simp))⟩ ?_
 rintro w1 ⟨e1,bB0_1⟩
 have HX1:=Hi40 e1;have HB0_1:=Hi40 bB0_1
 have HGEB0:Hid (w.heap.size<=w.heap.size):=Hi40 (Nat.le_refl _)
 clear e1 bB0_1
 have HFL_1:Hid (FL w w1 (ntz t) 0 (.slice none 0 0)):=Hi40 (FL.nil _ _ _)
 go_wp2_with fail
 go_loopw [9,3] (fun x0_ x1_ wx=>∃ k:Nat,∃ la:Option Addr,∃ ln:Nat,∃ lc:Nat,x0_ = .int .i64 k/\x1_ = .slice la ln lc/\k<=m/\Hid (Ext w wx/\Blk wx (w.heap.size) (#[.slice ao_ m ac]) 40/\FL w wx (ntz t) k (.slice la ln lc))) (fun x0_ _ _=>m-(intOf x0_).toNat)
 case atStart=>exact ⟨0,none,0,0,rfl,rfl,Nat.zero_le _,Hi40 ⟨HX1.out,HB0_1.out,HFL_1.out⟩⟩
 case round =>
  rename World=>w2
  obtain ⟨k,la,ln,lc,rfl,rfl,hkk,HH⟩:=hrel
  have HX2:=Hi40 HH.out.1
  have HB0_2:=Hi40 HH.out.2.1
  have HFL_2:=Hi40 HH.out.2.2
  clear HH
  by_cases hlt:k<m
  ·have hlt2:(k:Int)<((m:Nat):Int):=by omega
   obtain ⟨aa,rfl,zc_⟩:=HR.out k hlt
   have HCa:=Hi40 zc_;clear zc_
   have ca_k:=keepA HX2.out (HCa.out)
   go_upto_region 5 with fail
   clear ca_k
   by_cases hz:t k=⟨#[48]⟩
   ·have hs_:ntz t k=false:=decide_eq_false (fun h=>h hz)
    have HSK:=Hi40 hs_;clear hs_
    go_wp2_with fail
    go_roundw
    case rel=>exact ⟨k+1,_,_,_,by go_num,rfl,by omega,Hi40 ⟨HX2.out,HB0_2.out,(FL.skip HFL_2.out HSK.out)⟩⟩
    case measure=>simp [intOf];omega
   ·have hz2:((t k).toList == [48])=false:=tl_ne hz
    have hs_:ntz t k=true:=decide_eq_true hz
    have HSK:=Hi40 hs_;clear hs_
    go_wp2_with (
     at_builtin
     refine wpList_plain rfl fun K_ hK_=>op_append2 (X:=w) (H:=fun _ => .int .i64 (k:Int)) (ad:=⟨w2.heap.size,0,none⟩) (m:=1) (c:=1) (v:=.slice la ln lc) rfl rfl rfl under_i info_i rfl (HX2.out.alloc _) (HFL_2.out.alloc _) (fun _=>by decide) (fun j hj=>by obtain rfl:j=0:=(by omega);exact blk_add (Blk.new' (w:=_) (cs:=#[.int .i64 (k:Int)]) (t:=3) (by first|rfl|(simp only [World.size_alloc];done)|(simp only [World.size_alloc];omega)|simp)) rfl) (fun _ _=>rfl) (fl_sz (by omega)) (fl_sz2 (by omega)) (fun a3_ n3_ c3_ w3 hA_=>hK_ _ _ ?_)
     have HX3:Hid (Ext w w3):=Hi40 hA_.mv.ext
     have HB0_3:Hid (Blk w3 (w.heap.size) (#[.slice (some aa) m ac]) 40):=Hi40 (hA_.mv.blk (HB0_2.out.alloc _) (Osl.not_vob HFL_2.out HB0_2.out (by decide)))
     have HFL_3:Hid (FL w w3 (ntz t) (k+1) (.slice a3_ n3_ c3_)):=Hi40 (FL.push hA_ HSK.out)
     clear hA_
    )
    go_roundw
    case rel=>exact ⟨k+1,_,_,_,by go_num,rfl,by omega,Hi40 ⟨HX3.out,HB0_3.out,HFL_3.out⟩⟩
    case measure=>simp [intOf];omega
  ·have hk2:k=m:=by omega
   have hge:¬ (k:Int)<((m:Nat):Int):=by omega
   go_wp2
   go_ret
   exact ⟨_,rfl,HX2.out,hk2▸HFL_2.out⟩
theorem FL.ri {X w:World} {is:Nat->Bool} {k:Nat} {v:Value} (h:FL X w is k v):Ri w v (fil is k).length (fun j=>(((fil is k)[j]?.getD 0:Nat):Int)):=Osl.rd h
end Go.Proofs.YtcenemaadnlknaaGreatDoor
