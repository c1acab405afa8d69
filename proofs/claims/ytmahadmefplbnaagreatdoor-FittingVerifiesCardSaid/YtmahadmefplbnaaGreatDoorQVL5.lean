/- Part 5. -/
import Derived.Test.YtmahadmefplbnaaGreatDoorQVLB
import Derived.Test.YtmahadmefplbnaaGreatDoorQVL2
import Derived.Test.YtmahadmefplbnaaGreatDoorQVL3
import Derived.Test.YtmahadmefplbnaaGreatDoorQVL4
import Derived.Lib.AppendIntMem
import Derived.Lib.AtoiErrMem
set_option maxRecDepth 100000
set_option maxHeartbeats 2000000
open Go.Proofs.Tryz
namespace Go.Proofs.YtmahadmefplbnaaGreatDoor
open Go Go.RowKit Go.Sort
theorem DL(w:World)(k:Nat)(os:Array Obj):Ext w (grow (w.drewN k) os):=Lib.below_grow w.heap.size w (Nat.le_refl _) k os
set_option maxHeartbeats 6400000 in
theorem X4 (u:Nat) (h:u<1000000000) (w:World) (g:Gd w) :
    Calls prog 272 #[.int .u64 (u:Int),.int .i64 10] w (aZ w (.string ⟨(Lib.decDigits u).toArray⟩)):=by
 by_cases hs:u<100
 ·go_enter func272,ntmps272;go_wp2_with (go_at_call 288;refine(internal_strconv_small u hs _).mono ?_;rintro e w' ⟨rfl,rfl⟩);go_ret;exact⟨rfl,Ext.refl _⟩
 ·have hu1:1<=u:=ae;have Oc:u<18446744073709551616:=ae;have qjH:Lib.nDigits u<=20:=by have:=Lib.numDigits_eq u hu1 Oc;split at this <;> omega
  have hal:prog.arrayLen 312=24:=by simp[Program.arrayLen,underlying312]
  have tI:∀ W,(Instr.sliceAt 312 (.pointer (some ⟨w.heap.size,0,none⟩)) none (some (.int .i64 (Lib.nDigits u:Int))) none).run prog W = .ok (.slice (some ⟨w.heap.size,0,none⟩) (Lib.nDigits u) 24) W:=fun W=>by
   rw[run_sliceAt_array_h W 312 ⟨w.heap.size,0,none⟩ (by simp[Program.arrayLen,Program.elem,underlying312]) .i64 (Lib.nDigits u:Int) ae (by rw[hal];omega)];go_simp
  have hH0:=Lib.holds_zero0 w 312 (Lib.nDigits u) ae;have qbM:=internal_strconv_formatBase10 w.heap.size 0 24 u (Array.replicate (Lib.nDigits u) 0) (w.alloc (.cells Lib.zeros24 312)) hH0 (by rw[Array.size_replicate];exact Lib.lt_pow_nDigits u) Oc (by rw[Array.size_replicate];omega);rw[Array.size_replicate] at qbM;have HH0:=ai hH0;have HT:=g.tab;have iu:(100:Int)<=(u:Int):=ae;clear hH0 hal g;go_enter func272,ntmps272;go_wp2_with (first
   | (go_at_call 289;refine(internal_strconv_numDigits u hu1 Oc _ (Lib.tabIs_alloc HT _)).mono ?_;rintro e w' ⟨rfl,rfl⟩))
  go_at_call 290;refine qbM.mono ?_;rintro e w' ⟨rfl,k,v',dk,rfl,hF⟩;have hcv:(convert 274 9 (.slice (some ⟨w.heap.size,0,none⟩) (Lib.nDigits u) 24)).run prog ((putRow (fun(b:UInt8)=>Value.int .u8 (b.toNat:Int)) (w.alloc (.cells Lib.zeros24 312)) w.heap.size 0 dk).drewN k) = .ok (.string ⟨(Lib.decDigits u).toArray⟩) ((putRow (fun(b:UInt8)=>Value.int .u8 (b.toNat:Int)) (w.alloc (.cells Lib.zeros24 312)) w.heap.size 0 dk).drewN k):=by
   have h:=run_convert_bytes_back (P:=prog) ((putRow (fun(b:UInt8)=>Value.int .u8 (b.toNat:Int)) (w.alloc (.cells Lib.zeros24 312)) w.heap.size 0 dk).drewN k) 274 9 5 ⟨w.heap.size,0,none⟩ 24 (Lib.decDigits u) underlying274 underlying5 underlying9 (fun j hj=>by
    rw[Lib.row_is_numeral hF j hj,Lib.add_plain,World.cell?_drewN];exact cell?_putRow (fun(b:UInt8)=>Value.int .u8 (b.toNat:Int)) _ w.heap.size 0 _ dk HH0.o (by rw[hF.size,Array.size_replicate]) j (by rw[hF.size];rw[Lib.decDigits_length] at hj;exact hj))
   rw[Lib.decDigits_length] at h;exact h
  obtain⟨os,eo⟩:=Lib.fin_at w (.cells Lib.zeros24 312) dk k 0;have HE:Hid (Ext w ((putRow (fun(b:UInt8)=>Value.int .u8 (b.toNat:Int)) (w.alloc (.cells Lib.zeros24 312)) w.heap.size 0 dk).drewN k)):=ai (by rw[eo];exact DL w k os);clear eo;go_wp2;go_ret;exact⟨rfl,HE.o⟩
theorem I9 (u:Nat) (h:u<1000000000) (w:World) (g:Gd w) :
    Calls prog 241 #[.int .u64 (u:Int),.int .i64 10] w (aZ w (.string ⟨(Lib.decDigits u).toArray⟩)):=by
 go_enter func241,ntmps241;go_wp2_with (go_at_call 272;refine(X4 u h _ g).mono ?_;rintro e w' ⟨rfl,he⟩);go_ret;exact⟨rfl,he⟩
theorem lO (n:Int) (h0:-9223372036854775808<=n) (h1:n<=9223372036854775807) (w:World) (g:Gd w) :
    Calls prog 193 #[.int .i64 n] w (aZ w (.string (zs n))) :=
 (strconv_Itoa n h0 h1 w g.tab).mono fun _ _ ⟨h,k,os,e⟩=>⟨h,by rw[e];exact DL w k os⟩
theorem Tp(n:Int):Lib.atoi (zl n)=some n:=by
 by_cases h:n<0
 ·rw[dM h];simp[Lib.atoi,xk];omega
 ·rw[dR ae];have hd:=di n.natAbs;have hn:=xk n.natAbs;cases hc:Lib.decDigits n.natAbs with
  | nil=>exact absurd hc (kN _)
  | cons b t =>
   rw[hc] at hd hn;have h1:b≠45:=yV (hd b (by simp));have h2:b≠43:=by
    intro e;subst e;have:=hd 43 (by simp);simp[fN] at this
   simp[Lib.atoi,h1,h2,hn];omega
theorem YO (n:Int) (h:(zl n).length<=18) (w:World) :
    Calls prog 236 #[.string (zs n)] w (aZ w (.tuple #[.int .i64 n,.nilIface])) :=
 (strconv_Atoi (zs n) n (by rw[gA];exact h) (by rw[dA];exact Tp n) w).mono fun _ _ ⟨h,t,e⟩=>⟨h,by rw[e];exact Lib.bytesWorld_below _ _ _⟩
