/- Part 33 of the proof: M2, M7, M8. -/
import Derived.Test.YtjeimihnoiephaaGreatDoorQZ32
import Derived.Deep.CutBlock
set_option maxRecDepth 100000
namespace Go.Proofs.YtjeimihnoiephaaGreatDoor
open Go Go.RowKit
set_option linter.unusedVariables false
structure Q4Bd (t:Q4):Prop where
  w:-10000000000000≤t.w∧t.w≤10000000000000
  x:-10000000000000≤t.x∧t.x≤10000000000000
  y:-10000000000000≤t.y∧t.y≤10000000000000
  z:-10000000000000≤t.z∧t.z≤10000000000000
theorem Q4In.bd {t:Q4} (h:Q4In t):Q4Bd t:=⟨by have:=h.w;omega,by have:=h.x;omega,by have:=h.y;omega,by have:=h.z;omega⟩
theorem eu_round {a b:Int} {G:Nat} (h:0≤a∧0≤b∧a.natAbs<1000000000000000000∧b.natAbs<1000000000000000000∧Int.gcd a b=G) (hz:¬ b=0):0≤b∧0≤a.tmod b∧b.natAbs<1000000000000000000∧(a.tmod b).natAbs<1000000000000000000∧Int.gcd b (a.tmod b)=G :=
  ⟨h.2.1,Int.tmod_nonneg _ h.1,h.2.2.2.1,eu_lt h.2.2.2.1 hz,(eu_gcd a b).trans h.2.2.2.2⟩
theorem eg0 (n:Int) {g:Nat} (h:n.natAbs=g):Int.gcd 0 (max n (-n))=g:=by
  rw [Int.gcd_zero_left];omega
theorem eg1 (g:Nat) (n:Int) {G:Nat} (h:Nat.gcd g n.natAbs=G):Int.gcd (g:Int) (max n (-n))=G:=by
  have e:max n (-n)=(n.natAbs:Int):=by omega
  rw [e,← h];rfl
theorem gcd_bd {g n G M:Nat} (h:Nat.gcd g n=G) (hg:g≤M) (hn:n≤M):G≤M:=by
  subst h
  rcases Nat.eq_zero_or_pos g with e|e
  · subst e;rw [Nat.gcd_zero_left];exact hn
  · exact Nat.le_trans (Nat.gcd_le_left n e) hg
theorem sg4_k0 {t:Q4} (h:t.w≠0):sg4 t=t.w.sign:=by unfold sg4;rw [if_pos h]
theorem sg4_k1 {t:Q4} (h0:t.w=0) (h:t.x≠0):sg4 t=t.x.sign:=by unfold sg4;rw [if_neg (by simp [h0]),if_pos h]
theorem sg4_k2 {t:Q4} (h0:t.w=0) (h1:t.x=0) (h:t.y≠0):sg4 t=t.y.sign:=by unfold sg4;rw [if_neg (by simp [h0]),if_neg (by simp [h1]),if_pos h]
theorem sg4_k3 {t:Q4} (h0:t.w=0) (h1:t.x=0) (h2:t.y=0):sg4 t=t.z.sign:=by unfold sg4;rw [if_neg (by simp [h0]),if_neg (by simp [h1]),if_neg (by simp [h2])]
theorem tdiv_bd {n g:Int} {M:Int} (hn:-M≤n∧n≤M):-M≤n.tdiv g∧n.tdiv g≤M:=by
  have h:=Int.natAbs_tdiv n g
  have h2:n.natAbs.div g.natAbs≤n.natAbs:=Nat.div_le_self n.natAbs g.natAbs
  rw [← h] at h2
  omega
theorem prim4_at {t p:Q4} {s g:Int} (h:prim4 t=p) (hs:sg4 t=s) (hg:(gcd4 t:Int)=g):t.w.tdiv (s*g)=p.w∧t.x.tdiv (s*g)=p.x∧t.y.tdiv (s*g)=p.y∧t.z.tdiv (s*g)=p.z:=by
  subst h;unfold prim4 div4;rw [hs,hg];exact ⟨rfl,rfl,rfl,rfl⟩

theorem first4 {t:Q4} (h:¬ t.zero):0<t.w∨t.w<0∨(t.w=0∧0<t.x)∨(t.w=0∧t.x<0)∨(t.w=0∧t.x=0∧0<t.y)∨(t.w=0∧t.x=0∧t.y<0)∨(t.w=0∧t.x=0∧t.y=0∧0<t.z)∨(t.w=0∧t.x=0∧t.y=0∧t.z<0):=by
  have:¬ (t.w=0∧t.x=0∧t.y=0∧t.z=0):=h
  omega

set_option maxHeartbeats 16000000 in
theorem rprim_c (t:Q4) (w:World) (g:Gd w) (hb:Q4Bd t) (hz:¬ t.zero):Calls Tryz.prog 55 #[.agg #[.int .i64 t.w,.int .i64 t.x,.int .i64 t.y,.int .i64 t.z]] w (Ret w (.agg #[.int .i64 ((prim4 t).w),.int .i64 ((prim4 t).x),.int .i64 ((prim4 t).y),.int .i64 ((prim4 t).z)])):=by
  have HG:=Lib.hid g
  clear g
  have hw:=hb.w;have hx:=hb.x;have hy:=hb.y;have hz0:=hb.z
  obtain ⟨gc1,e1⟩:∃ g,t.w.natAbs=g:=⟨_,rfl⟩
  obtain ⟨gc2,e2⟩:∃ g,Nat.gcd gc1 t.x.natAbs=g:=⟨_,rfl⟩
  obtain ⟨gc3,e3⟩:∃ g,Nat.gcd gc2 t.y.natAbs=g:=⟨_,rfl⟩
  obtain ⟨gc4,e4⟩:∃ g,Nat.gcd gc3 t.z.natAbs=g:=⟨_,rfl⟩
  have b1:gc1≤10000000000000:=by omega
  have b2:gc2≤10000000000000:=gcd_bd e2 b1 (by omega)
  have b3:gc3≤10000000000000:=gcd_bd e3 b2 (by omega)
  have b4:gc4≤10000000000000:=gcd_bd e4 b3 (by omega)
  have hg4:gcd4 t=gc4:=by unfold gcd4;rw [e1,e2,e3,e4]
  have p4:1≤gc4:=by have:=gcd4_pos hz;omega
  obtain ⟨p,ep⟩:∃ p,prim4 t=p:=⟨_,rfl⟩
  have bp:(-10000000000000≤p.w∧p.w≤10000000000000)∧(-10000000000000≤p.x∧p.x≤10000000000000)∧(-10000000000000≤p.y∧p.y≤10000000000000)∧(-10000000000000≤p.z∧p.z≤10000000000000):=by
    rw [← ep];exact ⟨tdiv_bd hw,tdiv_bd hx,tdiv_bd hy,tdiv_bd hz0⟩
  have HE1:=Lib.hid e1;have HE2:=Lib.hid e2;have HE3:=Lib.hid e3;have HE4:=Lib.hid e4;have HEP:=Lib.hid ep;have HG4:=Lib.hid hg4
  have g4z:((gc4:Int) == 0)=false:=beq_eq_false_iff_ne.2 (by omega)
  have g4n:¬ ((gc4:Int)=0):=by omega
  have HZZ:=Lib.hid hz
  clear e1 e2 e3 e4 ep hg4 hb hz
  have ix0:∀ W,(Instr.index 22 (.agg #[.int .i64 t.w,.int .i64 t.x,.int .i64 t.y,.int .i64 t.z]) (.int .i64 0)).run Tryz.prog W = .ok (.int .i64 t.w) W:=fun W=>by kernel_rfl
  have ix1:∀ W,(Instr.index 22 (.agg #[.int .i64 t.w,.int .i64 t.x,.int .i64 t.y,.int .i64 t.z]) (.int .i64 1)).run Tryz.prog W = .ok (.int .i64 t.x) W:=fun W=>by kernel_rfl
  have ix2:∀ W,(Instr.index 22 (.agg #[.int .i64 t.w,.int .i64 t.x,.int .i64 t.y,.int .i64 t.z]) (.int .i64 2)).run Tryz.prog W = .ok (.int .i64 t.y) W:=fun W=>by kernel_rfl
  have ix3:∀ W,(Instr.index 22 (.agg #[.int .i64 t.w,.int .i64 t.x,.int .i64 t.y,.int .i64 t.z]) (.int .i64 3)).run Tryz.prog W = .ok (.int .i64 t.z) W:=fun W=>by kernel_rfl
  go_enter Tryz.func55,Tryz.ntmps55
  go_upto_block 0 with fail
  refine wp_name (fun W=>Ext w W∧Blk W (w.heap.size) #[.int .i64 t.w,.int .i64 t.x,.int .i64 t.y,.int .i64 t.z] 22∧Blk W (w.heap.size+1) #[.int .i64 0,.int .i64 0,.int .i64 0,.int .i64 0] 22) ⟨(((Ext.refl w).alloc _).alloc _),((Blk.new' (w:=_) (cs:=#[.int .i64 t.w,.int .i64 t.x,.int .i64 t.y,.int .i64 t.z]) (t:=22) (by first|rfl|(simp only [World.size_alloc];done)|(simp only [World.size_alloc];omega)|simp)).alloc _),(Blk.new' (w:=_) (cs:=#[.int .i64 0,.int .i64 0,.int .i64 0,.int .i64 0]) (t:=22) (by first|rfl|(simp only [World.size_alloc];done)|(simp only [World.size_alloc];omega)|simp))⟩ ?_
  rintro w1 ⟨e1,bB0_1,bB1_1⟩
  have HX1:=Lib.hid e1;have HB0_1:=Lib.hid bB0_1;have HB1_1:=Lib.hid bB1_1
  have HGEB0:Hid (w.heap.size≤w.heap.size):=Lib.hid (by first|omega|(simp only [];omega)|(simp;omega))
  have HGEB1:Hid (w.heap.size≤w.heap.size+1):=Lib.hid (by first|omega|(simp only [];omega)|(simp;omega))
  clear e1 bB0_1 bB1_1
  go_cut [3] from 5 to 23 (fun s3_ wx=>s3_ = .int .i64 (gc4:Int)∧Ext w wx∧Blk wx (w.heap.size) #[.int .i64 t.w,.int .i64 t.x,.int .i64 t.y,.int .i64 t.z] 22∧Blk wx (w.heap.size+1) #[.int .i64 0,.int .i64 0,.int .i64 0,.int .i64 0] 22)
  case first =>
    go_wp2_with fail
    refine wp_loop_rounds 5 ?_
    rw [rounds_succ]
    go_wp2_with fail
    go_loopw [3,6] (fun g_ n_ wx=>∃ a_ b_:Int,g_ = .int .i64 a_∧n_ = .int .i64 b_∧Hid (0≤a_∧0≤b_∧a_.natAbs<1000000000000000000∧b_.natAbs<1000000000000000000∧Int.gcd a_ b_=gc1)∧Hid (Ext w wx∧Blk wx (w.heap.size) #[.int .i64 t.w,.int .i64 t.x,.int .i64 t.y,.int .i64 t.z] 22∧Blk wx (w.heap.size+1) #[.int .i64 0,.int .i64 0,.int .i64 0,.int .i64 0] 22)) (fun _ n_ _=>(intOf n_).natAbs)
    case atStart=>exact ⟨0,max t.w (-t.w),rfl,rfl,Lib.hid ⟨by omega,by omega,by omega,by omega,eg0 t.w HE1.out⟩,Lib.hid ⟨HX1.out,HB0_1.out,HB1_1.out⟩⟩
    case round =>
      rename_i w2
      obtain ⟨a2,b2,rfl,rfl,HI2,HH⟩:=hrel
      have HX2:=Lib.hid HH.out.1;have HB0_2:=Lib.hid HH.out.2.1;have HB1_2:=Lib.hid HH.out.2.2
      clear HH
      by_cases hz2:b2=0
      · subst hz2
        obtain rfl:a2=((gc1:Nat):Int):=by have h:=HI2.out;have h2:=h.2.2.2.2;rw [Int.gcd_zero_right] at h2;omega
        clear HI2
        go_wp2_with fail
        rw [rounds_succ]
        go_wp2_with fail
        go_loopw [3,6] (fun g_ n_ wx=>∃ a_ b_:Int,g_ = .int .i64 a_∧n_ = .int .i64 b_∧Hid (0≤a_∧0≤b_∧a_.natAbs<1000000000000000000∧b_.natAbs<1000000000000000000∧Int.gcd a_ b_=gc2)∧Hid (Ext w wx∧Blk wx (w.heap.size) #[.int .i64 t.w,.int .i64 t.x,.int .i64 t.y,.int .i64 t.z] 22∧Blk wx (w.heap.size+1) #[.int .i64 0,.int .i64 0,.int .i64 0,.int .i64 0] 22)) (fun _ n_ _=>(intOf n_).natAbs)
        case atStart=>exact ⟨(gc1:Int),max t.x (-t.x),rfl,rfl,Lib.hid ⟨by omega,by omega,by omega,by omega,eg1 gc1 t.x HE2.out⟩,Lib.hid ⟨HX2.out,HB0_2.out,HB1_2.out⟩⟩
        case round =>
          rename_i w3
          obtain ⟨a3,b3,rfl,rfl,HI3,HH⟩:=hrel
          have HX3:=Lib.hid HH.out.1;have HB0_3:=Lib.hid HH.out.2.1;have HB1_3:=Lib.hid HH.out.2.2
          clear HH
          by_cases hz3:b3=0
          · subst hz3
            obtain rfl:a3=((gc2:Nat):Int):=by have h:=HI3.out;have h2:=h.2.2.2.2;rw [Int.gcd_zero_right] at h2;omega
            clear HI3
            go_wp2_with fail
            rw [rounds_succ]
            go_wp2_with fail
            go_loopw [3,6] (fun g_ n_ wx=>∃ a_ b_:Int,g_ = .int .i64 a_∧n_ = .int .i64 b_∧Hid (0≤a_∧0≤b_∧a_.natAbs<1000000000000000000∧b_.natAbs<1000000000000000000∧Int.gcd a_ b_=gc3)∧Hid (Ext w wx∧Blk wx (w.heap.size) #[.int .i64 t.w,.int .i64 t.x,.int .i64 t.y,.int .i64 t.z] 22∧Blk wx (w.heap.size+1) #[.int .i64 0,.int .i64 0,.int .i64 0,.int .i64 0] 22)) (fun _ n_ _=>(intOf n_).natAbs)
            case atStart=>exact ⟨(gc2:Int),max t.y (-t.y),rfl,rfl,Lib.hid ⟨by omega,by omega,by omega,by omega,eg1 gc2 t.y HE3.out⟩,Lib.hid ⟨HX3.out,HB0_3.out,HB1_3.out⟩⟩
            case round =>
              rename_i w4
              obtain ⟨a4,b4,rfl,rfl,HI4,HH⟩:=hrel
              have HX4:=Lib.hid HH.out.1;have HB0_4:=Lib.hid HH.out.2.1;have HB1_4:=Lib.hid HH.out.2.2
              clear HH
              by_cases hz4:b4=0
              · subst hz4
                obtain rfl:a4=((gc3:Nat):Int):=by have h:=HI4.out;have h2:=h.2.2.2.2;rw [Int.gcd_zero_right] at h2;omega
                clear HI4
                go_wp2_with fail
                rw [rounds_succ]
                go_wp2_with fail
                go_loopw [3,6] (fun g_ n_ wx=>∃ a_ b_:Int,g_ = .int .i64 a_∧n_ = .int .i64 b_∧Hid (0≤a_∧0≤b_∧a_.natAbs<1000000000000000000∧b_.natAbs<1000000000000000000∧Int.gcd a_ b_=gc4)∧Hid (Ext w wx∧Blk wx (w.heap.size) #[.int .i64 t.w,.int .i64 t.x,.int .i64 t.y,.int .i64 t.z] 22∧Blk wx (w.heap.size+1) #[.int .i64 0,.int .i64 0,.int .i64 0,.int .i64 0] 22)) (fun _ n_ _=>(intOf n_).natAbs)
                case atStart=>exact ⟨(gc3:Int),max t.z (-t.z),rfl,rfl,Lib.hid ⟨by omega,by omega,by omega,by omega,eg1 gc3 t.z HE4.out⟩,Lib.hid ⟨HX4.out,HB0_4.out,HB1_4.out⟩⟩
                case round =>
                  rename_i w5
                  obtain ⟨a5,b5,rfl,rfl,HI5,HH⟩:=hrel
                  have HX5:=Lib.hid HH.out.1;have HB0_5:=Lib.hid HH.out.2.1;have HB1_5:=Lib.hid HH.out.2.2
                  clear HH
                  by_cases hz5:b5=0
                  · subst hz5
                    obtain rfl:a5=((gc4:Nat):Int):=by have h:=HI5.out;have h2:=h.2.2.2.2;rw [Int.gcd_zero_right] at h2;omega
                    clear HI5
                    go_wp2_with fail
                    rw [rounds_succ]
                    go_wp2_with fail
                    go_meet
                    exact ⟨rfl,HX5.out,HB0_5.out,HB1_5.out⟩
                  · have hzd5:(b5 != 0)=true:=bne_iff_ne.2 hz5
                    have hze5:(b5 == 0)=false:=beq_eq_false_iff_ne.2 hz5
                    go_wp2_with fail
                    refine wp_name (fun W=>Ext w W∧Blk W (w.heap.size) #[.int .i64 t.w,.int .i64 t.x,.int .i64 t.y,.int .i64 t.z] 22∧Blk W (w.heap.size+1) #[.int .i64 0,.int .i64 0,.int .i64 0,.int .i64 0] 22) ⟨HX5.out,HB0_5.out,HB1_5.out⟩ ?_
                    rintro w6 ⟨e6,bB0_6,bB1_6⟩
                    have HX6:=Lib.hid e6;have HB0_6:=Lib.hid bB0_6;have HB1_6:=Lib.hid bB1_6
                    clear e6 bB0_6 bB1_6
                    have hS6:True:=trivial
                    have HS6:=Lib.hid hS6;clear hS6
                    go_region_held3 (fun w'=>True)
                      ((trivial)) ((fail))
                    refine wp_name (fun W=>Ext w W∧Blk W (w.heap.size) #[.int .i64 t.w,.int .i64 t.x,.int .i64 t.y,.int .i64 t.z] 22∧Blk W (w.heap.size+1) #[.int .i64 0,.int .i64 0,.int .i64 0,.int .i64 0] 22) ⟨(HX6.out.trans (by repeat (first|assumption|exact Ext.refl _|apply Ext.drew|apply Ext.alloc|(refine Ext.trans ?_ (by assumption))))),(Blk.ext HB0_6.out (by repeat (first|assumption|exact Ext.refl _|apply Ext.drew|apply Ext.alloc|(refine Ext.trans ?_ (by assumption))))),(Blk.ext HB1_6.out (by repeat (first|assumption|exact Ext.refl _|apply Ext.drew|apply Ext.alloc|(refine Ext.trans ?_ (by assumption)))))⟩ ?_
                    rintro w7 ⟨e7,bB0_7,bB1_7⟩
                    have HX7:=Lib.hid e7;have HB0_7:=Lib.hid bB0_7;have HB1_7:=Lib.hid bB1_7
                    clear e7 bB0_7 bB1_7
                    go_wp2_with fail
                    go_roundw
                    case rel=>exact ⟨b5,a5.tmod b5,rfl,rfl,Lib.hid (eu_round HI5.out hz5),Lib.hid ⟨HX7.out,HB0_7.out,HB1_7.out⟩⟩
                    case measure=>exact eu_meas hz5
              · have hzd4:(b4 != 0)=true:=bne_iff_ne.2 hz4
                have hze4:(b4 == 0)=false:=beq_eq_false_iff_ne.2 hz4
                go_wp2_with fail
                refine wp_name (fun W=>Ext w W∧Blk W (w.heap.size) #[.int .i64 t.w,.int .i64 t.x,.int .i64 t.y,.int .i64 t.z] 22∧Blk W (w.heap.size+1) #[.int .i64 0,.int .i64 0,.int .i64 0,.int .i64 0] 22) ⟨HX4.out,HB0_4.out,HB1_4.out⟩ ?_
                rintro w5 ⟨e5,bB0_5,bB1_5⟩
                have HX5:=Lib.hid e5;have HB0_5:=Lib.hid bB0_5;have HB1_5:=Lib.hid bB1_5
                clear e5 bB0_5 bB1_5
                have hS5:True:=trivial
                have HS5:=Lib.hid hS5;clear hS5
                go_region_held3 (fun w'=>True)
                  ((trivial)) ((fail))
                refine wp_name (fun W=>Ext w W∧Blk W (w.heap.size) #[.int .i64 t.w,.int .i64 t.x,.int .i64 t.y,.int .i64 t.z] 22∧Blk W (w.heap.size+1) #[.int .i64 0,.int .i64 0,.int .i64 0,.int .i64 0] 22) ⟨(HX5.out.trans (by repeat (first|assumption|exact Ext.refl _|apply Ext.drew|apply Ext.alloc|(refine Ext.trans ?_ (by assumption))))),(Blk.ext HB0_5.out (by repeat (first|assumption|exact Ext.refl _|apply Ext.drew|apply Ext.alloc|(refine Ext.trans ?_ (by assumption))))),(Blk.ext HB1_5.out (by repeat (first|assumption|exact Ext.refl _|apply Ext.drew|apply Ext.alloc|(refine Ext.trans ?_ (by assumption)))))⟩ ?_
                rintro w6 ⟨e6,bB0_6,bB1_6⟩
                have HX6:=Lib.hid e6;have HB0_6:=Lib.hid bB0_6;have HB1_6:=Lib.hid bB1_6
                clear e6 bB0_6 bB1_6
                go_wp2_with fail
                go_roundw
                case rel=>exact ⟨b4,a4.tmod b4,rfl,rfl,Lib.hid (eu_round HI4.out hz4),Lib.hid ⟨HX6.out,HB0_6.out,HB1_6.out⟩⟩
                case measure=>exact eu_meas hz4
          · have hzd3:(b3 != 0)=true:=bne_iff_ne.2 hz3
            have hze3:(b3 == 0)=false:=beq_eq_false_iff_ne.2 hz3
            go_wp2_with fail
            refine wp_name (fun W=>Ext w W∧Blk W (w.heap.size) #[.int .i64 t.w,.int .i64 t.x,.int .i64 t.y,.int .i64 t.z] 22∧Blk W (w.heap.size+1) #[.int .i64 0,.int .i64 0,.int .i64 0,.int .i64 0] 22) ⟨HX3.out,HB0_3.out,HB1_3.out⟩ ?_
            rintro w4 ⟨e4,bB0_4,bB1_4⟩
            have HX4:=Lib.hid e4;have HB0_4:=Lib.hid bB0_4;have HB1_4:=Lib.hid bB1_4
            clear e4 bB0_4 bB1_4
            have hS4:True:=trivial
            have HS4:=Lib.hid hS4;clear hS4
            go_region_held3 (fun w'=>True)
              ((trivial)) ((fail))
            refine wp_name (fun W=>Ext w W∧Blk W (w.heap.size) #[.int .i64 t.w,.int .i64 t.x,.int .i64 t.y,.int .i64 t.z] 22∧Blk W (w.heap.size+1) #[.int .i64 0,.int .i64 0,.int .i64 0,.int .i64 0] 22) ⟨(HX4.out.trans (by repeat (first|assumption|exact Ext.refl _|apply Ext.drew|apply Ext.alloc|(refine Ext.trans ?_ (by assumption))))),(Blk.ext HB0_4.out (by repeat (first|assumption|exact Ext.refl _|apply Ext.drew|apply Ext.alloc|(refine Ext.trans ?_ (by assumption))))),(Blk.ext HB1_4.out (by repeat (first|assumption|exact Ext.refl _|apply Ext.drew|apply Ext.alloc|(refine Ext.trans ?_ (by assumption)))))⟩ ?_
            rintro w5 ⟨e5,bB0_5,bB1_5⟩
            have HX5:=Lib.hid e5;have HB0_5:=Lib.hid bB0_5;have HB1_5:=Lib.hid bB1_5
            clear e5 bB0_5 bB1_5
            go_wp2_with fail
            go_roundw
            case rel=>exact ⟨b3,a3.tmod b3,rfl,rfl,Lib.hid (eu_round HI3.out hz3),Lib.hid ⟨HX5.out,HB0_5.out,HB1_5.out⟩⟩
            case measure=>exact eu_meas hz3
      · have hzd2:(b2 != 0)=true:=bne_iff_ne.2 hz2
        have hze2:(b2 == 0)=false:=beq_eq_false_iff_ne.2 hz2
        go_wp2_with fail
        refine wp_name (fun W=>Ext w W∧Blk W (w.heap.size) #[.int .i64 t.w,.int .i64 t.x,.int .i64 t.y,.int .i64 t.z] 22∧Blk W (w.heap.size+1) #[.int .i64 0,.int .i64 0,.int .i64 0,.int .i64 0] 22) ⟨HX2.out,HB0_2.out,HB1_2.out⟩ ?_
        rintro w3 ⟨e3,bB0_3,bB1_3⟩
        have HX3:=Lib.hid e3;have HB0_3:=Lib.hid bB0_3;have HB1_3:=Lib.hid bB1_3
        clear e3 bB0_3 bB1_3
        have hS3:True:=trivial
        have HS3:=Lib.hid hS3;clear hS3
        go_region_held3 (fun w'=>True)
          ((trivial)) ((fail))
        refine wp_name (fun W=>Ext w W∧Blk W (w.heap.size) #[.int .i64 t.w,.int .i64 t.x,.int .i64 t.y,.int .i64 t.z] 22∧Blk W (w.heap.size+1) #[.int .i64 0,.int .i64 0,.int .i64 0,.int .i64 0] 22) ⟨(HX3.out.trans (by repeat (first|assumption|exact Ext.refl _|apply Ext.drew|apply Ext.alloc|(refine Ext.trans ?_ (by assumption))))),(Blk.ext HB0_3.out (by repeat (first|assumption|exact Ext.refl _|apply Ext.drew|apply Ext.alloc|(refine Ext.trans ?_ (by assumption))))),(Blk.ext HB1_3.out (by repeat (first|assumption|exact Ext.refl _|apply Ext.drew|apply Ext.alloc|(refine Ext.trans ?_ (by assumption)))))⟩ ?_
        rintro w4 ⟨e4,bB0_4,bB1_4⟩
        have HX4:=Lib.hid e4;have HB0_4:=Lib.hid bB0_4;have HB1_4:=Lib.hid bB1_4
        clear e4 bB0_4 bB1_4
        go_wp2_with fail
        go_roundw
        case rel=>exact ⟨b2,a2.tmod b2,rfl,rfl,Lib.hid (eu_round HI2.out hz2),Lib.hid ⟨HX4.out,HB0_4.out,HB1_4.out⟩⟩
        case measure=>exact eu_meas hz2
  obtain ⟨rfl,e51,bB0_51,bB1_51⟩:=hcut
  rename World=>w51
  have HX51:=Lib.hid e51;have HB0_51:=Lib.hid bB0_51;have HB1_51:=Lib.hid bB1_51
  clear e51 bB0_51 bB1_51
  rcases first4 HZZ.out with h0|h0|⟨h0,h1⟩|⟨h0,h1⟩|⟨h0,h1,h2⟩|⟨h0,h1,h2⟩|⟨h0,h1,h2,h3⟩|⟨h0,h1,h2,h3⟩
  · have hsg:sg4 t=1:=(sg4_k0  (by omega)).trans (Int.sign_eq_one_of_pos h0)
    have hp:=prim4_at HEP.out hsg (congrArg (fun n:Nat=>(n:Int)) HG4.out)
    have qw:t.w.tdiv (gc4:Int)=p.w:=by have:=hp.1;simpa using this
    have qx:t.x.tdiv (gc4:Int)=p.x:=by have:=hp.2.1;simpa using this
    have qy:t.y.tdiv (gc4:Int)=p.y:=by have:=hp.2.2.1;simpa using this
    have qz:t.z.tdiv (gc4:Int)=p.z:=by have:=hp.2.2.2;simpa using this
    have hsd:decide (t.w<0)=false:=decide_eq_false (by omega)
    have HK:=Lib.hid (show t.w≠0 by omega)
    clear hsg hp
    go_wp2_with fail
    refine (ixn_0 t (w.heap.size) _ (HG.out.ext HX51.out) HB0_51.out  HK.out).mono ?_;rintro e w52 ⟨rfl,e52⟩
    have HX52:Hid (Ext w w52):=Lib.hid (HX51.out.trans e52)
    have HB0_52:=Lib.hid (Blk.ext HB0_51.out e52)
    have HB1_52:=Lib.hid (Blk.ext HB1_51.out e52)
    clear e52
    have c0_0:=HB0_52.out.cell 0 rfl
    go_wp2_with fail
    refine wp_loop_rounds 5 ?_
    rw [rounds_succ]
    clear c0_0
    have c0_0:=HB0_52.out.cell 0 rfl
    have f0_0:=HB0_52.out.free 0
    go_wp2_with fail
    rw [rounds_succ]
    clear c0_0 f0_0
    go_upto_region 15 with fail
    refine wp_name (fun W=>Ext w W∧Blk W (w.heap.size) #[.int .i64 p.w,.int .i64 t.x,.int .i64 t.y,.int .i64 t.z] 22∧Blk W (w.heap.size+1) #[.int .i64 0,.int .i64 0,.int .i64 0,.int .i64 0] 22) ⟨(HX52.out.setCell (by have:=HGEB0.out;first|omega|(simp only [];omega)|(simp;omega)) _),(HB0_52.out.set 0 (.int .i64 p.w)),(HB1_52.out.other (a:=⟨w.heap.size,0,none⟩) _ (by first|omega|(simp only [];omega)|(simp;omega)))⟩ ?_
    rintro w53 ⟨e53,bB0_53,bB1_53⟩
    have HX53:=Lib.hid e53;have HB0_53:=Lib.hid bB0_53;have HB1_53:=Lib.hid bB1_53
    clear e53 bB0_53 bB1_53
    have c0_1:=HB0_53.out.cell 1 rfl
    have f0_1:=HB0_53.out.free 1
    go_wp2_with fail
    rw [rounds_succ]
    clear c0_1 f0_1
    go_upto_region 15 with fail
    refine wp_name (fun W=>Ext w W∧Blk W (w.heap.size) #[.int .i64 p.w,.int .i64 p.x,.int .i64 t.y,.int .i64 t.z] 22∧Blk W (w.heap.size+1) #[.int .i64 0,.int .i64 0,.int .i64 0,.int .i64 0] 22) ⟨(HX53.out.setCell (by have:=HGEB0.out;first|omega|(simp only [];omega)|(simp;omega)) _),(HB0_53.out.set 1 (.int .i64 p.x)),(HB1_53.out.other (a:=⟨w.heap.size,1,none⟩) _ (by first|omega|(simp only [];omega)|(simp;omega)))⟩ ?_
    rintro w54 ⟨e54,bB0_54,bB1_54⟩
    have HX54:=Lib.hid e54;have HB0_54:=Lib.hid bB0_54;have HB1_54:=Lib.hid bB1_54
    clear e54 bB0_54 bB1_54
    have c0_2:=HB0_54.out.cell 2 rfl
    have f0_2:=HB0_54.out.free 2
    go_wp2_with fail
    rw [rounds_succ]
    clear c0_2 f0_2
    go_upto_region 15 with fail
    refine wp_name (fun W=>Ext w W∧Blk W (w.heap.size) #[.int .i64 p.w,.int .i64 p.x,.int .i64 p.y,.int .i64 t.z] 22∧Blk W (w.heap.size+1) #[.int .i64 0,.int .i64 0,.int .i64 0,.int .i64 0] 22) ⟨(HX54.out.setCell (by have:=HGEB0.out;first|omega|(simp only [];omega)|(simp;omega)) _),(HB0_54.out.set 2 (.int .i64 p.y)),(HB1_54.out.other (a:=⟨w.heap.size,2,none⟩) _ (by first|omega|(simp only [];omega)|(simp;omega)))⟩ ?_
    rintro w55 ⟨e55,bB0_55,bB1_55⟩
    have HX55:=Lib.hid e55;have HB0_55:=Lib.hid bB0_55;have HB1_55:=Lib.hid bB1_55
    clear e55 bB0_55 bB1_55
    have c0_3:=HB0_55.out.cell 3 rfl
    have f0_3:=HB0_55.out.free 3
    go_wp2_with fail
    rw [rounds_succ]
    clear c0_3 f0_3
    go_upto_region 17 with fail
    refine wp_name (fun W=>Ext w W∧Blk W (w.heap.size) #[.int .i64 p.w,.int .i64 p.x,.int .i64 p.y,.int .i64 p.z] 22∧Blk W (w.heap.size+1) #[.int .i64 0,.int .i64 0,.int .i64 0,.int .i64 0] 22) ⟨(HX55.out.setCell (by have:=HGEB0.out;first|omega|(simp only [];omega)|(simp;omega)) _),(HB0_55.out.set 3 (.int .i64 p.z)),(HB1_55.out.other (a:=⟨w.heap.size,3,none⟩) _ (by first|omega|(simp only [];omega)|(simp;omega)))⟩ ?_
    rintro w56 ⟨e56,bB0_56,bB1_56⟩
    have HX56:=Lib.hid e56;have HB0_56:=Lib.hid bB0_56;have HB1_56:=Lib.hid bB1_56
    clear e56 bB0_56 bB1_56
    have c0_0:=HB0_56.out.cell 0 rfl
    have c0_1:=HB0_56.out.cell 1 rfl
    have c0_2:=HB0_56.out.cell 2 rfl
    have c0_3:=HB0_56.out.cell 3 rfl
    have c1_0:=HB1_56.out.cell 0 rfl
    have f1_0:=HB1_56.out.free 0
    have c1_1:=HB1_56.out.cell 1 rfl
    have f1_1:=HB1_56.out.free 1
    have c1_2:=HB1_56.out.cell 2 rfl
    have f1_2:=HB1_56.out.free 2
    have c1_3:=HB1_56.out.cell 3 rfl
    have f1_3:=HB1_56.out.free 3
    go_wp2_with fail
    refine wp_name (fun W=>Ext w W∧Blk W (w.heap.size) #[.int .i64 p.w,.int .i64 p.x,.int .i64 p.y,.int .i64 p.z] 22∧Blk W (w.heap.size+1) #[.int .i64 p.w,.int .i64 p.x,.int .i64 p.y,.int .i64 p.z] 22) ⟨((((HX56.out.setCell (by have:=HGEB1.out;first|omega|(simp only [];omega)|(simp;omega)) _).setCell (by have:=HGEB1.out;first|omega|(simp only [];omega)|(simp;omega)) _).setCell (by have:=HGEB1.out;first|omega|(simp only [];omega)|(simp;omega)) _).setCell (by have:=HGEB1.out;first|omega|(simp only [];omega)|(simp;omega)) _),((((HB0_56.out.other (a:=⟨w.heap.size+1,0,none⟩) _ (by first|omega|(simp only [];omega)|(simp;omega))).other (a:=⟨w.heap.size+1,1,none⟩) _ (by first|omega|(simp only [];omega)|(simp;omega))).other (a:=⟨w.heap.size+1,2,none⟩) _ (by first|omega|(simp only [];omega)|(simp;omega))).other (a:=⟨w.heap.size+1,3,none⟩) _ (by first|omega|(simp only [];omega)|(simp;omega))),((((HB1_56.out.set 0 (.int .i64 p.w)).set 1 (.int .i64 p.x)).set 2 (.int .i64 p.y)).set 3 (.int .i64 p.z))⟩ ?_
    rintro w57 ⟨e57,bB0_57,bB1_57⟩
    have HX57:=Lib.hid e57;have HB0_57:=Lib.hid bB0_57;have HB1_57:=Lib.hid bB1_57
    clear e57 bB0_57 bB1_57 c0_0 c0_1 c0_2 c0_3 c1_0 f1_0 c1_1 f1_1 c1_2 f1_2 c1_3 f1_3
    have gB1_0:=HB1_57.out.cell 0 rfl
    have gB1_1:=HB1_57.out.cell 1 rfl
    have gB1_2:=HB1_57.out.cell 2 rfl
    have gB1_3:=HB1_57.out.cell 3 rfl
    rw [HEP.out]
    refine bodyPost_ret (v:=.agg #[.int .i64 p.w,.int .i64 p.x,.int .i64 p.y,.int .i64 p.z]) (by simp [results,Tryz.results55,go_sem,gB1_0,gB1_1,gB1_2,gB1_3]) rfl ⟨rfl,HX57.out⟩
  · have hsg:sg4 t=-1:=(sg4_k0  (by omega)).trans (Int.sign_eq_neg_one_of_neg h0)
    have hp:=prim4_at HEP.out hsg (congrArg (fun n:Nat=>(n:Int)) HG4.out)
    have qw:t.w.tdiv (-(gc4:Int))=p.w:=by have:=hp.1;simpa using this
    have qx:t.x.tdiv (-(gc4:Int))=p.x:=by have:=hp.2.1;simpa using this
    have qy:t.y.tdiv (-(gc4:Int))=p.y:=by have:=hp.2.2.1;simpa using this
    have qz:t.z.tdiv (-(gc4:Int))=p.z:=by have:=hp.2.2.2;simpa using this
    have hsd:decide (t.w<0)=true:=decide_eq_true (by omega)
    have g4z2:(-(gc4:Int) == 0)=false:=beq_eq_false_iff_ne.2 (by omega)
    have g4n2:¬ (-(gc4:Int)=0):=by omega
    have HK:=Lib.hid (show t.w≠0 by omega)
    clear hsg hp
    go_wp2_with fail
    refine (ixn_0 t (w.heap.size) _ (HG.out.ext HX51.out) HB0_51.out  HK.out).mono ?_;rintro e w52 ⟨rfl,e52⟩
    have HX52:Hid (Ext w w52):=Lib.hid (HX51.out.trans e52)
    have HB0_52:=Lib.hid (Blk.ext HB0_51.out e52)
    have HB1_52:=Lib.hid (Blk.ext HB1_51.out e52)
    clear e52
    have c0_0:=HB0_52.out.cell 0 rfl
    go_wp2_with fail
    refine wp_loop_rounds 5 ?_
    rw [rounds_succ]
    clear c0_0
    have c0_0:=HB0_52.out.cell 0 rfl
    have f0_0:=HB0_52.out.free 0
    go_wp2_with fail
    rw [rounds_succ]
    clear c0_0 f0_0
    go_upto_region 15 with fail
    refine wp_name (fun W=>Ext w W∧Blk W (w.heap.size) #[.int .i64 p.w,.int .i64 t.x,.int .i64 t.y,.int .i64 t.z] 22∧Blk W (w.heap.size+1) #[.int .i64 0,.int .i64 0,.int .i64 0,.int .i64 0] 22) ⟨(HX52.out.setCell (by have:=HGEB0.out;first|omega|(simp only [];omega)|(simp;omega)) _),(HB0_52.out.set 0 (.int .i64 p.w)),(HB1_52.out.other (a:=⟨w.heap.size,0,none⟩) _ (by first|omega|(simp only [];omega)|(simp;omega)))⟩ ?_
    rintro w53 ⟨e53,bB0_53,bB1_53⟩
    have HX53:=Lib.hid e53;have HB0_53:=Lib.hid bB0_53;have HB1_53:=Lib.hid bB1_53
    clear e53 bB0_53 bB1_53
    have c0_1:=HB0_53.out.cell 1 rfl
    have f0_1:=HB0_53.out.free 1
    go_wp2_with fail
    rw [rounds_succ]
    clear c0_1 f0_1
    go_upto_region 15 with fail
    refine wp_name (fun W=>Ext w W∧Blk W (w.heap.size) #[.int .i64 p.w,.int .i64 p.x,.int .i64 t.y,.int .i64 t.z] 22∧Blk W (w.heap.size+1) #[.int .i64 0,.int .i64 0,.int .i64 0,.int .i64 0] 22) ⟨(HX53.out.setCell (by have:=HGEB0.out;first|omega|(simp only [];omega)|(simp;omega)) _),(HB0_53.out.set 1 (.int .i64 p.x)),(HB1_53.out.other (a:=⟨w.heap.size,1,none⟩) _ (by first|omega|(simp only [];omega)|(simp;omega)))⟩ ?_
    rintro w54 ⟨e54,bB0_54,bB1_54⟩
    have HX54:=Lib.hid e54;have HB0_54:=Lib.hid bB0_54;have HB1_54:=Lib.hid bB1_54
    clear e54 bB0_54 bB1_54
    have c0_2:=HB0_54.out.cell 2 rfl
    have f0_2:=HB0_54.out.free 2
    go_wp2_with fail
    rw [rounds_succ]
    clear c0_2 f0_2
    go_upto_region 15 with fail
    refine wp_name (fun W=>Ext w W∧Blk W (w.heap.size) #[.int .i64 p.w,.int .i64 p.x,.int .i64 p.y,.int .i64 t.z] 22∧Blk W (w.heap.size+1) #[.int .i64 0,.int .i64 0,.int .i64 0,.int .i64 0] 22) ⟨(HX54.out.setCell (by have:=HGEB0.out;first|omega|(simp only [];omega)|(simp;omega)) _),(HB0_54.out.set 2 (.int .i64 p.y)),(HB1_54.out.other (a:=⟨w.heap.size,2,none⟩) _ (by first|omega|(simp only [];omega)|(simp;omega)))⟩ ?_
    rintro w55 ⟨e55,bB0_55,bB1_55⟩
    have HX55:=Lib.hid e55;have HB0_55:=Lib.hid bB0_55;have HB1_55:=Lib.hid bB1_55
    clear e55 bB0_55 bB1_55
    have c0_3:=HB0_55.out.cell 3 rfl
    have f0_3:=HB0_55.out.free 3
    go_wp2_with fail
    rw [rounds_succ]
    clear c0_3 f0_3
    go_upto_region 17 with fail
    refine wp_name (fun W=>Ext w W∧Blk W (w.heap.size) #[.int .i64 p.w,.int .i64 p.x,.int .i64 p.y,.int .i64 p.z] 22∧Blk W (w.heap.size+1) #[.int .i64 0,.int .i64 0,.int .i64 0,.int .i64 0] 22) ⟨(HX55.out.setCell (by have:=HGEB0.out;first|omega|(simp only [];omega)|(simp;omega)) _),(HB0_55.out.set 3 (.int .i64 p.z)),(HB1_55.out.other (a:=⟨w.heap.size,3,none⟩) _ (by first|omega|(simp only [];omega)|(simp;omega)))⟩ ?_
    rintro w56 ⟨e56,bB0_56,bB1_56⟩
    have HX56:=Lib.hid e56;have HB0_56:=Lib.hid bB0_56;have HB1_56:=Lib.hid bB1_56
    clear e56 bB0_56 bB1_56
    have c0_0:=HB0_56.out.cell 0 rfl
    have c0_1:=HB0_56.out.cell 1 rfl
    have c0_2:=HB0_56.out.cell 2 rfl
    have c0_3:=HB0_56.out.cell 3 rfl
    have c1_0:=HB1_56.out.cell 0 rfl
    have f1_0:=HB1_56.out.free 0
    have c1_1:=HB1_56.out.cell 1 rfl
    have f1_1:=HB1_56.out.free 1
    have c1_2:=HB1_56.out.cell 2 rfl
    have f1_2:=HB1_56.out.free 2
    have c1_3:=HB1_56.out.cell 3 rfl
    have f1_3:=HB1_56.out.free 3
    go_wp2_with fail
    refine wp_name (fun W=>Ext w W∧Blk W (w.heap.size) #[.int .i64 p.w,.int .i64 p.x,.int .i64 p.y,.int .i64 p.z] 22∧Blk W (w.heap.size+1) #[.int .i64 p.w,.int .i64 p.x,.int .i64 p.y,.int .i64 p.z] 22) ⟨((((HX56.out.setCell (by have:=HGEB1.out;first|omega|(simp only [];omega)|(simp;omega)) _).setCell (by have:=HGEB1.out;first|omega|(simp only [];omega)|(simp;omega)) _).setCell (by have:=HGEB1.out;first|omega|(simp only [];omega)|(simp;omega)) _).setCell (by have:=HGEB1.out;first|omega|(simp only [];omega)|(simp;omega)) _),((((HB0_56.out.other (a:=⟨w.heap.size+1,0,none⟩) _ (by first|omega|(simp only [];omega)|(simp;omega))).other (a:=⟨w.heap.size+1,1,none⟩) _ (by first|omega|(simp only [];omega)|(simp;omega))).other (a:=⟨w.heap.size+1,2,none⟩) _ (by first|omega|(simp only [];omega)|(simp;omega))).other (a:=⟨w.heap.size+1,3,none⟩) _ (by first|omega|(simp only [];omega)|(simp;omega))),((((HB1_56.out.set 0 (.int .i64 p.w)).set 1 (.int .i64 p.x)).set 2 (.int .i64 p.y)).set 3 (.int .i64 p.z))⟩ ?_
    rintro w57 ⟨e57,bB0_57,bB1_57⟩
    have HX57:=Lib.hid e57;have HB0_57:=Lib.hid bB0_57;have HB1_57:=Lib.hid bB1_57
    clear e57 bB0_57 bB1_57 c0_0 c0_1 c0_2 c0_3 c1_0 f1_0 c1_1 f1_1 c1_2 f1_2 c1_3 f1_3
    have gB1_0:=HB1_57.out.cell 0 rfl
    have gB1_1:=HB1_57.out.cell 1 rfl
    have gB1_2:=HB1_57.out.cell 2 rfl
    have gB1_3:=HB1_57.out.cell 3 rfl
    rw [HEP.out]
    refine bodyPost_ret (v:=.agg #[.int .i64 p.w,.int .i64 p.x,.int .i64 p.y,.int .i64 p.z]) (by simp [results,Tryz.results55,go_sem,gB1_0,gB1_1,gB1_2,gB1_3]) rfl ⟨rfl,HX57.out⟩
  · have hsg:sg4 t=1:=(sg4_k1 h0 (by omega)).trans (Int.sign_eq_one_of_pos h1)
    have hp:=prim4_at HEP.out hsg (congrArg (fun n:Nat=>(n:Int)) HG4.out)
    have qw:t.w.tdiv (gc4:Int)=p.w:=by have:=hp.1;simpa using this
    have qx:t.x.tdiv (gc4:Int)=p.x:=by have:=hp.2.1;simpa using this
    have qy:t.y.tdiv (gc4:Int)=p.y:=by have:=hp.2.2.1;simpa using this
    have qz:t.z.tdiv (gc4:Int)=p.z:=by have:=hp.2.2.2;simpa using this
    have hsd:decide (t.x<0)=false:=decide_eq_false (by omega)
    have HZ0:=Lib.hid h0
    have HK:=Lib.hid (show t.x≠0 by omega)
    clear hsg hp h0
    go_wp2_with fail
    refine (ixn_1 t (w.heap.size) _ (HG.out.ext HX51.out) HB0_51.out HZ0.out HK.out).mono ?_;rintro e w52 ⟨rfl,e52⟩
    have HX52:Hid (Ext w w52):=Lib.hid (HX51.out.trans e52)
    have HB0_52:=Lib.hid (Blk.ext HB0_51.out e52)
    have HB1_52:=Lib.hid (Blk.ext HB1_51.out e52)
    clear e52
    have c0_1:=HB0_52.out.cell 1 rfl
    go_wp2_with fail
    refine wp_loop_rounds 5 ?_
    rw [rounds_succ]
    clear c0_1
    have c0_0:=HB0_52.out.cell 0 rfl
    have f0_0:=HB0_52.out.free 0
    go_wp2_with fail
    rw [rounds_succ]
    clear c0_0 f0_0
    go_upto_region 15 with fail
    refine wp_name (fun W=>Ext w W∧Blk W (w.heap.size) #[.int .i64 p.w,.int .i64 t.x,.int .i64 t.y,.int .i64 t.z] 22∧Blk W (w.heap.size+1) #[.int .i64 0,.int .i64 0,.int .i64 0,.int .i64 0] 22) ⟨(HX52.out.setCell (by have:=HGEB0.out;first|omega|(simp only [];omega)|(simp;omega)) _),(HB0_52.out.set 0 (.int .i64 p.w)),(HB1_52.out.other (a:=⟨w.heap.size,0,none⟩) _ (by first|omega|(simp only [];omega)|(simp;omega)))⟩ ?_
    rintro w53 ⟨e53,bB0_53,bB1_53⟩
    have HX53:=Lib.hid e53;have HB0_53:=Lib.hid bB0_53;have HB1_53:=Lib.hid bB1_53
    clear e53 bB0_53 bB1_53
    have c0_1:=HB0_53.out.cell 1 rfl
    have f0_1:=HB0_53.out.free 1
    go_wp2_with fail
    rw [rounds_succ]
    clear c0_1 f0_1
    go_upto_region 15 with fail
    refine wp_name (fun W=>Ext w W∧Blk W (w.heap.size) #[.int .i64 p.w,.int .i64 p.x,.int .i64 t.y,.int .i64 t.z] 22∧Blk W (w.heap.size+1) #[.int .i64 0,.int .i64 0,.int .i64 0,.int .i64 0] 22) ⟨(HX53.out.setCell (by have:=HGEB0.out;first|omega|(simp only [];omega)|(simp;omega)) _),(HB0_53.out.set 1 (.int .i64 p.x)),(HB1_53.out.other (a:=⟨w.heap.size,1,none⟩) _ (by first|omega|(simp only [];omega)|(simp;omega)))⟩ ?_
    rintro w54 ⟨e54,bB0_54,bB1_54⟩
    have HX54:=Lib.hid e54;have HB0_54:=Lib.hid bB0_54;have HB1_54:=Lib.hid bB1_54
    clear e54 bB0_54 bB1_54
    have c0_2:=HB0_54.out.cell 2 rfl
    have f0_2:=HB0_54.out.free 2
    go_wp2_with fail
    rw [rounds_succ]
    clear c0_2 f0_2
    go_upto_region 15 with fail
    refine wp_name (fun W=>Ext w W∧Blk W (w.heap.size) #[.int .i64 p.w,.int .i64 p.x,.int .i64 p.y,.int .i64 t.z] 22∧Blk W (w.heap.size+1) #[.int .i64 0,.int .i64 0,.int .i64 0,.int .i64 0] 22) ⟨(HX54.out.setCell (by have:=HGEB0.out;first|omega|(simp only [];omega)|(simp;omega)) _),(HB0_54.out.set 2 (.int .i64 p.y)),(HB1_54.out.other (a:=⟨w.heap.size,2,none⟩) _ (by first|omega|(simp only [];omega)|(simp;omega)))⟩ ?_
    rintro w55 ⟨e55,bB0_55,bB1_55⟩
    have HX55:=Lib.hid e55;have HB0_55:=Lib.hid bB0_55;have HB1_55:=Lib.hid bB1_55
    clear e55 bB0_55 bB1_55
    have c0_3:=HB0_55.out.cell 3 rfl
    have f0_3:=HB0_55.out.free 3
    go_wp2_with fail
    rw [rounds_succ]
    clear c0_3 f0_3
    go_upto_region 17 with fail
    refine wp_name (fun W=>Ext w W∧Blk W (w.heap.size) #[.int .i64 p.w,.int .i64 p.x,.int .i64 p.y,.int .i64 p.z] 22∧Blk W (w.heap.size+1) #[.int .i64 0,.int .i64 0,.int .i64 0,.int .i64 0] 22) ⟨(HX55.out.setCell (by have:=HGEB0.out;first|omega|(simp only [];omega)|(simp;omega)) _),(HB0_55.out.set 3 (.int .i64 p.z)),(HB1_55.out.other (a:=⟨w.heap.size,3,none⟩) _ (by first|omega|(simp only [];omega)|(simp;omega)))⟩ ?_
    rintro w56 ⟨e56,bB0_56,bB1_56⟩
    have HX56:=Lib.hid e56;have HB0_56:=Lib.hid bB0_56;have HB1_56:=Lib.hid bB1_56
    clear e56 bB0_56 bB1_56
    have c0_0:=HB0_56.out.cell 0 rfl
    have c0_1:=HB0_56.out.cell 1 rfl
    have c0_2:=HB0_56.out.cell 2 rfl
    have c0_3:=HB0_56.out.cell 3 rfl
    have c1_0:=HB1_56.out.cell 0 rfl
    have f1_0:=HB1_56.out.free 0
    have c1_1:=HB1_56.out.cell 1 rfl
    have f1_1:=HB1_56.out.free 1
    have c1_2:=HB1_56.out.cell 2 rfl
    have f1_2:=HB1_56.out.free 2
    have c1_3:=HB1_56.out.cell 3 rfl
    have f1_3:=HB1_56.out.free 3
    go_wp2_with fail
    refine wp_name (fun W=>Ext w W∧Blk W (w.heap.size) #[.int .i64 p.w,.int .i64 p.x,.int .i64 p.y,.int .i64 p.z] 22∧Blk W (w.heap.size+1) #[.int .i64 p.w,.int .i64 p.x,.int .i64 p.y,.int .i64 p.z] 22) ⟨((((HX56.out.setCell (by have:=HGEB1.out;first|omega|(simp only [];omega)|(simp;omega)) _).setCell (by have:=HGEB1.out;first|omega|(simp only [];omega)|(simp;omega)) _).setCell (by have:=HGEB1.out;first|omega|(simp only [];omega)|(simp;omega)) _).setCell (by have:=HGEB1.out;first|omega|(simp only [];omega)|(simp;omega)) _),((((HB0_56.out.other (a:=⟨w.heap.size+1,0,none⟩) _ (by first|omega|(simp only [];omega)|(simp;omega))).other (a:=⟨w.heap.size+1,1,none⟩) _ (by first|omega|(simp only [];omega)|(simp;omega))).other (a:=⟨w.heap.size+1,2,none⟩) _ (by first|omega|(simp only [];omega)|(simp;omega))).other (a:=⟨w.heap.size+1,3,none⟩) _ (by first|omega|(simp only [];omega)|(simp;omega))),((((HB1_56.out.set 0 (.int .i64 p.w)).set 1 (.int .i64 p.x)).set 2 (.int .i64 p.y)).set 3 (.int .i64 p.z))⟩ ?_
    rintro w57 ⟨e57,bB0_57,bB1_57⟩
    have HX57:=Lib.hid e57;have HB0_57:=Lib.hid bB0_57;have HB1_57:=Lib.hid bB1_57
    clear e57 bB0_57 bB1_57 c0_0 c0_1 c0_2 c0_3 c1_0 f1_0 c1_1 f1_1 c1_2 f1_2 c1_3 f1_3
    have gB1_0:=HB1_57.out.cell 0 rfl
    have gB1_1:=HB1_57.out.cell 1 rfl
    have gB1_2:=HB1_57.out.cell 2 rfl
    have gB1_3:=HB1_57.out.cell 3 rfl
    rw [HEP.out]
    refine bodyPost_ret (v:=.agg #[.int .i64 p.w,.int .i64 p.x,.int .i64 p.y,.int .i64 p.z]) (by simp [results,Tryz.results55,go_sem,gB1_0,gB1_1,gB1_2,gB1_3]) rfl ⟨rfl,HX57.out⟩
  · have hsg:sg4 t=-1:=(sg4_k1 h0 (by omega)).trans (Int.sign_eq_neg_one_of_neg h1)
    have hp:=prim4_at HEP.out hsg (congrArg (fun n:Nat=>(n:Int)) HG4.out)
    have qw:t.w.tdiv (-(gc4:Int))=p.w:=by have:=hp.1;simpa using this
    have qx:t.x.tdiv (-(gc4:Int))=p.x:=by have:=hp.2.1;simpa using this
    have qy:t.y.tdiv (-(gc4:Int))=p.y:=by have:=hp.2.2.1;simpa using this
    have qz:t.z.tdiv (-(gc4:Int))=p.z:=by have:=hp.2.2.2;simpa using this
    have hsd:decide (t.x<0)=true:=decide_eq_true (by omega)
    have g4z2:(-(gc4:Int) == 0)=false:=beq_eq_false_iff_ne.2 (by omega)
    have g4n2:¬ (-(gc4:Int)=0):=by omega
    have HZ0:=Lib.hid h0
    have HK:=Lib.hid (show t.x≠0 by omega)
    clear hsg hp h0
    go_wp2_with fail
    refine (ixn_1 t (w.heap.size) _ (HG.out.ext HX51.out) HB0_51.out HZ0.out HK.out).mono ?_;rintro e w52 ⟨rfl,e52⟩
    have HX52:Hid (Ext w w52):=Lib.hid (HX51.out.trans e52)
    have HB0_52:=Lib.hid (Blk.ext HB0_51.out e52)
    have HB1_52:=Lib.hid (Blk.ext HB1_51.out e52)
    clear e52
    have c0_1:=HB0_52.out.cell 1 rfl
    go_wp2_with fail
    refine wp_loop_rounds 5 ?_
    rw [rounds_succ]
    clear c0_1
    have c0_0:=HB0_52.out.cell 0 rfl
    have f0_0:=HB0_52.out.free 0
    go_wp2_with fail
    rw [rounds_succ]
    clear c0_0 f0_0
    go_upto_region 15 with fail
    refine wp_name (fun W=>Ext w W∧Blk W (w.heap.size) #[.int .i64 p.w,.int .i64 t.x,.int .i64 t.y,.int .i64 t.z] 22∧Blk W (w.heap.size+1) #[.int .i64 0,.int .i64 0,.int .i64 0,.int .i64 0] 22) ⟨(HX52.out.setCell (by have:=HGEB0.out;first|omega|(simp only [];omega)|(simp;omega)) _),(HB0_52.out.set 0 (.int .i64 p.w)),(HB1_52.out.other (a:=⟨w.heap.size,0,none⟩) _ (by first|omega|(simp only [];omega)|(simp;omega)))⟩ ?_
    rintro w53 ⟨e53,bB0_53,bB1_53⟩
    have HX53:=Lib.hid e53;have HB0_53:=Lib.hid bB0_53;have HB1_53:=Lib.hid bB1_53
    clear e53 bB0_53 bB1_53
    have c0_1:=HB0_53.out.cell 1 rfl
    have f0_1:=HB0_53.out.free 1
    go_wp2_with fail
    rw [rounds_succ]
    clear c0_1 f0_1
    go_upto_region 15 with fail
    refine wp_name (fun W=>Ext w W∧Blk W (w.heap.size) #[.int .i64 p.w,.int .i64 p.x,.int .i64 t.y,.int .i64 t.z] 22∧Blk W (w.heap.size+1) #[.int .i64 0,.int .i64 0,.int .i64 0,.int .i64 0] 22) ⟨(HX53.out.setCell (by have:=HGEB0.out;first|omega|(simp only [];omega)|(simp;omega)) _),(HB0_53.out.set 1 (.int .i64 p.x)),(HB1_53.out.other (a:=⟨w.heap.size,1,none⟩) _ (by first|omega|(simp only [];omega)|(simp;omega)))⟩ ?_
    rintro w54 ⟨e54,bB0_54,bB1_54⟩
    have HX54:=Lib.hid e54;have HB0_54:=Lib.hid bB0_54;have HB1_54:=Lib.hid bB1_54
    clear e54 bB0_54 bB1_54
    have c0_2:=HB0_54.out.cell 2 rfl
    have f0_2:=HB0_54.out.free 2
    go_wp2_with fail
    rw [rounds_succ]
    clear c0_2 f0_2
    go_upto_region 15 with fail
    refine wp_name (fun W=>Ext w W∧Blk W (w.heap.size) #[.int .i64 p.w,.int .i64 p.x,.int .i64 p.y,.int .i64 t.z] 22∧Blk W (w.heap.size+1) #[.int .i64 0,.int .i64 0,.int .i64 0,.int .i64 0] 22) ⟨(HX54.out.setCell (by have:=HGEB0.out;first|omega|(simp only [];omega)|(simp;omega)) _),(HB0_54.out.set 2 (.int .i64 p.y)),(HB1_54.out.other (a:=⟨w.heap.size,2,none⟩) _ (by first|omega|(simp only [];omega)|(simp;omega)))⟩ ?_
    rintro w55 ⟨e55,bB0_55,bB1_55⟩
    have HX55:=Lib.hid e55;have HB0_55:=Lib.hid bB0_55;have HB1_55:=Lib.hid bB1_55
    clear e55 bB0_55 bB1_55
    have c0_3:=HB0_55.out.cell 3 rfl
    have f0_3:=HB0_55.out.free 3
    go_wp2_with fail
    rw [rounds_succ]
    clear c0_3 f0_3
    go_upto_region 17 with fail
    refine wp_name (fun W=>Ext w W∧Blk W (w.heap.size) #[.int .i64 p.w,.int .i64 p.x,.int .i64 p.y,.int .i64 p.z] 22∧Blk W (w.heap.size+1) #[.int .i64 0,.int .i64 0,.int .i64 0,.int .i64 0] 22) ⟨(HX55.out.setCell (by have:=HGEB0.out;first|omega|(simp only [];omega)|(simp;omega)) _),(HB0_55.out.set 3 (.int .i64 p.z)),(HB1_55.out.other (a:=⟨w.heap.size,3,none⟩) _ (by first|omega|(simp only [];omega)|(simp;omega)))⟩ ?_
    rintro w56 ⟨e56,bB0_56,bB1_56⟩
    have HX56:=Lib.hid e56;have HB0_56:=Lib.hid bB0_56;have HB1_56:=Lib.hid bB1_56
    clear e56 bB0_56 bB1_56
    have c0_0:=HB0_56.out.cell 0 rfl
    have c0_1:=HB0_56.out.cell 1 rfl
    have c0_2:=HB0_56.out.cell 2 rfl
    have c0_3:=HB0_56.out.cell 3 rfl
    have c1_0:=HB1_56.out.cell 0 rfl
    have f1_0:=HB1_56.out.free 0
    have c1_1:=HB1_56.out.cell 1 rfl
    have f1_1:=HB1_56.out.free 1
    have c1_2:=HB1_56.out.cell 2 rfl
    have f1_2:=HB1_56.out.free 2
    have c1_3:=HB1_56.out.cell 3 rfl
    have f1_3:=HB1_56.out.free 3
    go_wp2_with fail
    refine wp_name (fun W=>Ext w W∧Blk W (w.heap.size) #[.int .i64 p.w,.int .i64 p.x,.int .i64 p.y,.int .i64 p.z] 22∧Blk W (w.heap.size+1) #[.int .i64 p.w,.int .i64 p.x,.int .i64 p.y,.int .i64 p.z] 22) ⟨((((HX56.out.setCell (by have:=HGEB1.out;first|omega|(simp only [];omega)|(simp;omega)) _).setCell (by have:=HGEB1.out;first|omega|(simp only [];omega)|(simp;omega)) _).setCell (by have:=HGEB1.out;first|omega|(simp only [];omega)|(simp;omega)) _).setCell (by have:=HGEB1.out;first|omega|(simp only [];omega)|(simp;omega)) _),((((HB0_56.out.other (a:=⟨w.heap.size+1,0,none⟩) _ (by first|omega|(simp only [];omega)|(simp;omega))).other (a:=⟨w.heap.size+1,1,none⟩) _ (by first|omega|(simp only [];omega)|(simp;omega))).other (a:=⟨w.heap.size+1,2,none⟩) _ (by first|omega|(simp only [];omega)|(simp;omega))).other (a:=⟨w.heap.size+1,3,none⟩) _ (by first|omega|(simp only [];omega)|(simp;omega))),((((HB1_56.out.set 0 (.int .i64 p.w)).set 1 (.int .i64 p.x)).set 2 (.int .i64 p.y)).set 3 (.int .i64 p.z))⟩ ?_
    rintro w57 ⟨e57,bB0_57,bB1_57⟩
    have HX57:=Lib.hid e57;have HB0_57:=Lib.hid bB0_57;have HB1_57:=Lib.hid bB1_57
    clear e57 bB0_57 bB1_57 c0_0 c0_1 c0_2 c0_3 c1_0 f1_0 c1_1 f1_1 c1_2 f1_2 c1_3 f1_3
    have gB1_0:=HB1_57.out.cell 0 rfl
    have gB1_1:=HB1_57.out.cell 1 rfl
    have gB1_2:=HB1_57.out.cell 2 rfl
    have gB1_3:=HB1_57.out.cell 3 rfl
    rw [HEP.out]
    refine bodyPost_ret (v:=.agg #[.int .i64 p.w,.int .i64 p.x,.int .i64 p.y,.int .i64 p.z]) (by simp [results,Tryz.results55,go_sem,gB1_0,gB1_1,gB1_2,gB1_3]) rfl ⟨rfl,HX57.out⟩
  · have hsg:sg4 t=1:=(sg4_k2 h0 h1 (by omega)).trans (Int.sign_eq_one_of_pos h2)
    have hp:=prim4_at HEP.out hsg (congrArg (fun n:Nat=>(n:Int)) HG4.out)
    have qw:t.w.tdiv (gc4:Int)=p.w:=by have:=hp.1;simpa using this
    have qx:t.x.tdiv (gc4:Int)=p.x:=by have:=hp.2.1;simpa using this
    have qy:t.y.tdiv (gc4:Int)=p.y:=by have:=hp.2.2.1;simpa using this
    have qz:t.z.tdiv (gc4:Int)=p.z:=by have:=hp.2.2.2;simpa using this
    have hsd:decide (t.y<0)=false:=decide_eq_false (by omega)
    have HZ0:=Lib.hid h0;have HZ1:=Lib.hid h1
    have HK:=Lib.hid (show t.y≠0 by omega)
    clear hsg hp h0 h1
    go_wp2_with fail
    refine (ixn_2 t (w.heap.size) _ (HG.out.ext HX51.out) HB0_51.out HZ0.out HZ1.out HK.out).mono ?_;rintro e w52 ⟨rfl,e52⟩
    have HX52:Hid (Ext w w52):=Lib.hid (HX51.out.trans e52)
    have HB0_52:=Lib.hid (Blk.ext HB0_51.out e52)
    have HB1_52:=Lib.hid (Blk.ext HB1_51.out e52)
    clear e52
    have c0_2:=HB0_52.out.cell 2 rfl
    go_wp2_with fail
    refine wp_loop_rounds 5 ?_
    rw [rounds_succ]
    clear c0_2
    have c0_0:=HB0_52.out.cell 0 rfl
    have f0_0:=HB0_52.out.free 0
    go_wp2_with fail
    rw [rounds_succ]
    clear c0_0 f0_0
    go_upto_region 15 with fail
    refine wp_name (fun W=>Ext w W∧Blk W (w.heap.size) #[.int .i64 p.w,.int .i64 t.x,.int .i64 t.y,.int .i64 t.z] 22∧Blk W (w.heap.size+1) #[.int .i64 0,.int .i64 0,.int .i64 0,.int .i64 0] 22) ⟨(HX52.out.setCell (by have:=HGEB0.out;first|omega|(simp only [];omega)|(simp;omega)) _),(HB0_52.out.set 0 (.int .i64 p.w)),(HB1_52.out.other (a:=⟨w.heap.size,0,none⟩) _ (by first|omega|(simp only [];omega)|(simp;omega)))⟩ ?_
    rintro w53 ⟨e53,bB0_53,bB1_53⟩
    have HX53:=Lib.hid e53;have HB0_53:=Lib.hid bB0_53;have HB1_53:=Lib.hid bB1_53
    clear e53 bB0_53 bB1_53
    have c0_1:=HB0_53.out.cell 1 rfl
    have f0_1:=HB0_53.out.free 1
    go_wp2_with fail
    rw [rounds_succ]
    clear c0_1 f0_1
    go_upto_region 15 with fail
    refine wp_name (fun W=>Ext w W∧Blk W (w.heap.size) #[.int .i64 p.w,.int .i64 p.x,.int .i64 t.y,.int .i64 t.z] 22∧Blk W (w.heap.size+1) #[.int .i64 0,.int .i64 0,.int .i64 0,.int .i64 0] 22) ⟨(HX53.out.setCell (by have:=HGEB0.out;first|omega|(simp only [];omega)|(simp;omega)) _),(HB0_53.out.set 1 (.int .i64 p.x)),(HB1_53.out.other (a:=⟨w.heap.size,1,none⟩) _ (by first|omega|(simp only [];omega)|(simp;omega)))⟩ ?_
    rintro w54 ⟨e54,bB0_54,bB1_54⟩
    have HX54:=Lib.hid e54;have HB0_54:=Lib.hid bB0_54;have HB1_54:=Lib.hid bB1_54
    clear e54 bB0_54 bB1_54
    have c0_2:=HB0_54.out.cell 2 rfl
    have f0_2:=HB0_54.out.free 2
    go_wp2_with fail
    rw [rounds_succ]
    clear c0_2 f0_2
    go_upto_region 15 with fail
    refine wp_name (fun W=>Ext w W∧Blk W (w.heap.size) #[.int .i64 p.w,.int .i64 p.x,.int .i64 p.y,.int .i64 t.z] 22∧Blk W (w.heap.size+1) #[.int .i64 0,.int .i64 0,.int .i64 0,.int .i64 0] 22) ⟨(HX54.out.setCell (by have:=HGEB0.out;first|omega|(simp only [];omega)|(simp;omega)) _),(HB0_54.out.set 2 (.int .i64 p.y)),(HB1_54.out.other (a:=⟨w.heap.size,2,none⟩) _ (by first|omega|(simp only [];omega)|(simp;omega)))⟩ ?_
    rintro w55 ⟨e55,bB0_55,bB1_55⟩
    have HX55:=Lib.hid e55;have HB0_55:=Lib.hid bB0_55;have HB1_55:=Lib.hid bB1_55
    clear e55 bB0_55 bB1_55
    have c0_3:=HB0_55.out.cell 3 rfl
    have f0_3:=HB0_55.out.free 3
    go_wp2_with fail
    rw [rounds_succ]
    clear c0_3 f0_3
    go_upto_region 17 with fail
    refine wp_name (fun W=>Ext w W∧Blk W (w.heap.size) #[.int .i64 p.w,.int .i64 p.x,.int .i64 p.y,.int .i64 p.z] 22∧Blk W (w.heap.size+1) #[.int .i64 0,.int .i64 0,.int .i64 0,.int .i64 0] 22) ⟨(HX55.out.setCell (by have:=HGEB0.out;first|omega|(simp only [];omega)|(simp;omega)) _),(HB0_55.out.set 3 (.int .i64 p.z)),(HB1_55.out.other (a:=⟨w.heap.size,3,none⟩) _ (by first|omega|(simp only [];omega)|(simp;omega)))⟩ ?_
    rintro w56 ⟨e56,bB0_56,bB1_56⟩
    have HX56:=Lib.hid e56;have HB0_56:=Lib.hid bB0_56;have HB1_56:=Lib.hid bB1_56
    clear e56 bB0_56 bB1_56
    have c0_0:=HB0_56.out.cell 0 rfl
    have c0_1:=HB0_56.out.cell 1 rfl
    have c0_2:=HB0_56.out.cell 2 rfl
    have c0_3:=HB0_56.out.cell 3 rfl
    have c1_0:=HB1_56.out.cell 0 rfl
    have f1_0:=HB1_56.out.free 0
    have c1_1:=HB1_56.out.cell 1 rfl
    have f1_1:=HB1_56.out.free 1
    have c1_2:=HB1_56.out.cell 2 rfl
    have f1_2:=HB1_56.out.free 2
    have c1_3:=HB1_56.out.cell 3 rfl
    have f1_3:=HB1_56.out.free 3
    go_wp2_with fail
    refine wp_name (fun W=>Ext w W∧Blk W (w.heap.size) #[.int .i64 p.w,.int .i64 p.x,.int .i64 p.y,.int .i64 p.z] 22∧Blk W (w.heap.size+1) #[.int .i64 p.w,.int .i64 p.x,.int .i64 p.y,.int .i64 p.z] 22) ⟨((((HX56.out.setCell (by have:=HGEB1.out;first|omega|(simp only [];omega)|(simp;omega)) _).setCell (by have:=HGEB1.out;first|omega|(simp only [];omega)|(simp;omega)) _).setCell (by have:=HGEB1.out;first|omega|(simp only [];omega)|(simp;omega)) _).setCell (by have:=HGEB1.out;first|omega|(simp only [];omega)|(simp;omega)) _),((((HB0_56.out.other (a:=⟨w.heap.size+1,0,none⟩) _ (by first|omega|(simp only [];omega)|(simp;omega))).other (a:=⟨w.heap.size+1,1,none⟩) _ (by first|omega|(simp only [];omega)|(simp;omega))).other (a:=⟨w.heap.size+1,2,none⟩) _ (by first|omega|(simp only [];omega)|(simp;omega))).other (a:=⟨w.heap.size+1,3,none⟩) _ (by first|omega|(simp only [];omega)|(simp;omega))),((((HB1_56.out.set 0 (.int .i64 p.w)).set 1 (.int .i64 p.x)).set 2 (.int .i64 p.y)).set 3 (.int .i64 p.z))⟩ ?_
    rintro w57 ⟨e57,bB0_57,bB1_57⟩
    have HX57:=Lib.hid e57;have HB0_57:=Lib.hid bB0_57;have HB1_57:=Lib.hid bB1_57
    clear e57 bB0_57 bB1_57 c0_0 c0_1 c0_2 c0_3 c1_0 f1_0 c1_1 f1_1 c1_2 f1_2 c1_3 f1_3
    have gB1_0:=HB1_57.out.cell 0 rfl
    have gB1_1:=HB1_57.out.cell 1 rfl
    have gB1_2:=HB1_57.out.cell 2 rfl
    have gB1_3:=HB1_57.out.cell 3 rfl
    rw [HEP.out]
    refine bodyPost_ret (v:=.agg #[.int .i64 p.w,.int .i64 p.x,.int .i64 p.y,.int .i64 p.z]) (by simp [results,Tryz.results55,go_sem,gB1_0,gB1_1,gB1_2,gB1_3]) rfl ⟨rfl,HX57.out⟩
  · have hsg:sg4 t=-1:=(sg4_k2 h0 h1 (by omega)).trans (Int.sign_eq_neg_one_of_neg h2)
    have hp:=prim4_at HEP.out hsg (congrArg (fun n:Nat=>(n:Int)) HG4.out)
    have qw:t.w.tdiv (-(gc4:Int))=p.w:=by have:=hp.1;simpa using this
    have qx:t.x.tdiv (-(gc4:Int))=p.x:=by have:=hp.2.1;simpa using this
    have qy:t.y.tdiv (-(gc4:Int))=p.y:=by have:=hp.2.2.1;simpa using this
    have qz:t.z.tdiv (-(gc4:Int))=p.z:=by have:=hp.2.2.2;simpa using this
    have hsd:decide (t.y<0)=true:=decide_eq_true (by omega)
    have g4z2:(-(gc4:Int) == 0)=false:=beq_eq_false_iff_ne.2 (by omega)
    have g4n2:¬ (-(gc4:Int)=0):=by omega
    have HZ0:=Lib.hid h0;have HZ1:=Lib.hid h1
    have HK:=Lib.hid (show t.y≠0 by omega)
    clear hsg hp h0 h1
    go_wp2_with fail
    refine (ixn_2 t (w.heap.size) _ (HG.out.ext HX51.out) HB0_51.out HZ0.out HZ1.out HK.out).mono ?_;rintro e w52 ⟨rfl,e52⟩
    have HX52:Hid (Ext w w52):=Lib.hid (HX51.out.trans e52)
    have HB0_52:=Lib.hid (Blk.ext HB0_51.out e52)
    have HB1_52:=Lib.hid (Blk.ext HB1_51.out e52)
    clear e52
    have c0_2:=HB0_52.out.cell 2 rfl
    go_wp2_with fail
    refine wp_loop_rounds 5 ?_
    rw [rounds_succ]
    clear c0_2
    have c0_0:=HB0_52.out.cell 0 rfl
    have f0_0:=HB0_52.out.free 0
    go_wp2_with fail
    rw [rounds_succ]
    clear c0_0 f0_0
    go_upto_region 15 with fail
    refine wp_name (fun W=>Ext w W∧Blk W (w.heap.size) #[.int .i64 p.w,.int .i64 t.x,.int .i64 t.y,.int .i64 t.z] 22∧Blk W (w.heap.size+1) #[.int .i64 0,.int .i64 0,.int .i64 0,.int .i64 0] 22) ⟨(HX52.out.setCell (by have:=HGEB0.out;first|omega|(simp only [];omega)|(simp;omega)) _),(HB0_52.out.set 0 (.int .i64 p.w)),(HB1_52.out.other (a:=⟨w.heap.size,0,none⟩) _ (by first|omega|(simp only [];omega)|(simp;omega)))⟩ ?_
    rintro w53 ⟨e53,bB0_53,bB1_53⟩
    have HX53:=Lib.hid e53;have HB0_53:=Lib.hid bB0_53;have HB1_53:=Lib.hid bB1_53
    clear e53 bB0_53 bB1_53
    have c0_1:=HB0_53.out.cell 1 rfl
    have f0_1:=HB0_53.out.free 1
    go_wp2_with fail
    rw [rounds_succ]
    clear c0_1 f0_1
    go_upto_region 15 with fail
    refine wp_name (fun W=>Ext w W∧Blk W (w.heap.size) #[.int .i64 p.w,.int .i64 p.x,.int .i64 t.y,.int .i64 t.z] 22∧Blk W (w.heap.size+1) #[.int .i64 0,.int .i64 0,.int .i64 0,.int .i64 0] 22) ⟨(HX53.out.setCell (by have:=HGEB0.out;first|omega|(simp only [];omega)|(simp;omega)) _),(HB0_53.out.set 1 (.int .i64 p.x)),(HB1_53.out.other (a:=⟨w.heap.size,1,none⟩) _ (by first|omega|(simp only [];omega)|(simp;omega)))⟩ ?_
    rintro w54 ⟨e54,bB0_54,bB1_54⟩
    have HX54:=Lib.hid e54;have HB0_54:=Lib.hid bB0_54;have HB1_54:=Lib.hid bB1_54
    clear e54 bB0_54 bB1_54
    have c0_2:=HB0_54.out.cell 2 rfl
    have f0_2:=HB0_54.out.free 2
    go_wp2_with fail
    rw [rounds_succ]
    clear c0_2 f0_2
    go_upto_region 15 with fail
    refine wp_name (fun W=>Ext w W∧Blk W (w.heap.size) #[.int .i64 p.w,.int .i64 p.x,.int .i64 p.y,.int .i64 t.z] 22∧Blk W (w.heap.size+1) #[.int .i64 0,.int .i64 0,.int .i64 0,.int .i64 0] 22) ⟨(HX54.out.setCell (by have:=HGEB0.out;first|omega|(simp only [];omega)|(simp;omega)) _),(HB0_54.out.set 2 (.int .i64 p.y)),(HB1_54.out.other (a:=⟨w.heap.size,2,none⟩) _ (by first|omega|(simp only [];omega)|(simp;omega)))⟩ ?_
    rintro w55 ⟨e55,bB0_55,bB1_55⟩
    have HX55:=Lib.hid e55;have HB0_55:=Lib.hid bB0_55;have HB1_55:=Lib.hid bB1_55
    clear e55 bB0_55 bB1_55
    have c0_3:=HB0_55.out.cell 3 rfl
    have f0_3:=HB0_55.out.free 3
    go_wp2_with fail
    rw [rounds_succ]
    clear c0_3 f0_3
    go_upto_region 17 with fail
    refine wp_name (fun W=>Ext w W∧Blk W (w.heap.size) #[.int .i64 p.w,.int .i64 p.x,.int .i64 p.y,.int .i64 p.z] 22∧Blk W (w.heap.size+1) #[.int .i64 0,.int .i64 0,.int .i64 0,.int .i64 0] 22) ⟨(HX55.out.setCell (by have:=HGEB0.out;first|omega|(simp only [];omega)|(simp;omega)) _),(HB0_55.out.set 3 (.int .i64 p.z)),(HB1_55.out.other (a:=⟨w.heap.size,3,none⟩) _ (by first|omega|(simp only [];omega)|(simp;omega)))⟩ ?_
    rintro w56 ⟨e56,bB0_56,bB1_56⟩
    have HX56:=Lib.hid e56;have HB0_56:=Lib.hid bB0_56;have HB1_56:=Lib.hid bB1_56
    clear e56 bB0_56 bB1_56
    have c0_0:=HB0_56.out.cell 0 rfl
    have c0_1:=HB0_56.out.cell 1 rfl
    have c0_2:=HB0_56.out.cell 2 rfl
    have c0_3:=HB0_56.out.cell 3 rfl
    have c1_0:=HB1_56.out.cell 0 rfl
    have f1_0:=HB1_56.out.free 0
    have c1_1:=HB1_56.out.cell 1 rfl
    have f1_1:=HB1_56.out.free 1
    have c1_2:=HB1_56.out.cell 2 rfl
    have f1_2:=HB1_56.out.free 2
    have c1_3:=HB1_56.out.cell 3 rfl
    have f1_3:=HB1_56.out.free 3
    go_wp2_with fail
    refine wp_name (fun W=>Ext w W∧Blk W (w.heap.size) #[.int .i64 p.w,.int .i64 p.x,.int .i64 p.y,.int .i64 p.z] 22∧Blk W (w.heap.size+1) #[.int .i64 p.w,.int .i64 p.x,.int .i64 p.y,.int .i64 p.z] 22) ⟨((((HX56.out.setCell (by have:=HGEB1.out;first|omega|(simp only [];omega)|(simp;omega)) _).setCell (by have:=HGEB1.out;first|omega|(simp only [];omega)|(simp;omega)) _).setCell (by have:=HGEB1.out;first|omega|(simp only [];omega)|(simp;omega)) _).setCell (by have:=HGEB1.out;first|omega|(simp only [];omega)|(simp;omega)) _),((((HB0_56.out.other (a:=⟨w.heap.size+1,0,none⟩) _ (by first|omega|(simp only [];omega)|(simp;omega))).other (a:=⟨w.heap.size+1,1,none⟩) _ (by first|omega|(simp only [];omega)|(simp;omega))).other (a:=⟨w.heap.size+1,2,none⟩) _ (by first|omega|(simp only [];omega)|(simp;omega))).other (a:=⟨w.heap.size+1,3,none⟩) _ (by first|omega|(simp only [];omega)|(simp;omega))),((((HB1_56.out.set 0 (.int .i64 p.w)).set 1 (.int .i64 p.x)).set 2 (.int .i64 p.y)).set 3 (.int .i64 p.z))⟩ ?_
    rintro w57 ⟨e57,bB0_57,bB1_57⟩
    have HX57:=Lib.hid e57;have HB0_57:=Lib.hid bB0_57;have HB1_57:=Lib.hid bB1_57
    clear e57 bB0_57 bB1_57 c0_0 c0_1 c0_2 c0_3 c1_0 f1_0 c1_1 f1_1 c1_2 f1_2 c1_3 f1_3
    have gB1_0:=HB1_57.out.cell 0 rfl
    have gB1_1:=HB1_57.out.cell 1 rfl
    have gB1_2:=HB1_57.out.cell 2 rfl
    have gB1_3:=HB1_57.out.cell 3 rfl
    rw [HEP.out]
    refine bodyPost_ret (v:=.agg #[.int .i64 p.w,.int .i64 p.x,.int .i64 p.y,.int .i64 p.z]) (by simp [results,Tryz.results55,go_sem,gB1_0,gB1_1,gB1_2,gB1_3]) rfl ⟨rfl,HX57.out⟩
  · have hsg:sg4 t=1:=(sg4_k3 h0 h1 h2).trans (Int.sign_eq_one_of_pos h3)
    have hp:=prim4_at HEP.out hsg (congrArg (fun n:Nat=>(n:Int)) HG4.out)
    have qw:t.w.tdiv (gc4:Int)=p.w:=by have:=hp.1;simpa using this
    have qx:t.x.tdiv (gc4:Int)=p.x:=by have:=hp.2.1;simpa using this
    have qy:t.y.tdiv (gc4:Int)=p.y:=by have:=hp.2.2.1;simpa using this
    have qz:t.z.tdiv (gc4:Int)=p.z:=by have:=hp.2.2.2;simpa using this
    have hsd:decide (t.z<0)=false:=decide_eq_false (by omega)
    have HZ0:=Lib.hid h0;have HZ1:=Lib.hid h1;have HZ2:=Lib.hid h2
    have HK:=Lib.hid (show t.z≠0 by omega)
    clear hsg hp h0 h1 h2
    go_wp2_with fail
    refine (ixn_3 t (w.heap.size) _ (HG.out.ext HX51.out) HB0_51.out HZ0.out HZ1.out HZ2.out HK.out).mono ?_;rintro e w52 ⟨rfl,e52⟩
    have HX52:Hid (Ext w w52):=Lib.hid (HX51.out.trans e52)
    have HB0_52:=Lib.hid (Blk.ext HB0_51.out e52)
    have HB1_52:=Lib.hid (Blk.ext HB1_51.out e52)
    clear e52
    have c0_3:=HB0_52.out.cell 3 rfl
    go_wp2_with fail
    refine wp_loop_rounds 5 ?_
    rw [rounds_succ]
    clear c0_3
    have c0_0:=HB0_52.out.cell 0 rfl
    have f0_0:=HB0_52.out.free 0
    go_wp2_with fail
    rw [rounds_succ]
    clear c0_0 f0_0
    go_upto_region 15 with fail
    refine wp_name (fun W=>Ext w W∧Blk W (w.heap.size) #[.int .i64 p.w,.int .i64 t.x,.int .i64 t.y,.int .i64 t.z] 22∧Blk W (w.heap.size+1) #[.int .i64 0,.int .i64 0,.int .i64 0,.int .i64 0] 22) ⟨(HX52.out.setCell (by have:=HGEB0.out;first|omega|(simp only [];omega)|(simp;omega)) _),(HB0_52.out.set 0 (.int .i64 p.w)),(HB1_52.out.other (a:=⟨w.heap.size,0,none⟩) _ (by first|omega|(simp only [];omega)|(simp;omega)))⟩ ?_
    rintro w53 ⟨e53,bB0_53,bB1_53⟩
    have HX53:=Lib.hid e53;have HB0_53:=Lib.hid bB0_53;have HB1_53:=Lib.hid bB1_53
    clear e53 bB0_53 bB1_53
    have c0_1:=HB0_53.out.cell 1 rfl
    have f0_1:=HB0_53.out.free 1
    go_wp2_with fail
    rw [rounds_succ]
    clear c0_1 f0_1
    go_upto_region 15 with fail
    refine wp_name (fun W=>Ext w W∧Blk W (w.heap.size) #[.int .i64 p.w,.int .i64 p.x,.int .i64 t.y,.int .i64 t.z] 22∧Blk W (w.heap.size+1) #[.int .i64 0,.int .i64 0,.int .i64 0,.int .i64 0] 22) ⟨(HX53.out.setCell (by have:=HGEB0.out;first|omega|(simp only [];omega)|(simp;omega)) _),(HB0_53.out.set 1 (.int .i64 p.x)),(HB1_53.out.other (a:=⟨w.heap.size,1,none⟩) _ (by first|omega|(simp only [];omega)|(simp;omega)))⟩ ?_
    rintro w54 ⟨e54,bB0_54,bB1_54⟩
    have HX54:=Lib.hid e54;have HB0_54:=Lib.hid bB0_54;have HB1_54:=Lib.hid bB1_54
    clear e54 bB0_54 bB1_54
    have c0_2:=HB0_54.out.cell 2 rfl
    have f0_2:=HB0_54.out.free 2
    go_wp2_with fail
    rw [rounds_succ]
    clear c0_2 f0_2
    go_upto_region 15 with fail
    refine wp_name (fun W=>Ext w W∧Blk W (w.heap.size) #[.int .i64 p.w,.int .i64 p.x,.int .i64 p.y,.int .i64 t.z] 22∧Blk W (w.heap.size+1) #[.int .i64 0,.int .i64 0,.int .i64 0,.int .i64 0] 22) ⟨(HX54.out.setCell (by have:=HGEB0.out;first|omega|(simp only [];omega)|(simp;omega)) _),(HB0_54.out.set 2 (.int .i64 p.y)),(HB1_54.out.other (a:=⟨w.heap.size,2,none⟩) _ (by first|omega|(simp only [];omega)|(simp;omega)))⟩ ?_
    rintro w55 ⟨e55,bB0_55,bB1_55⟩
    have HX55:=Lib.hid e55;have HB0_55:=Lib.hid bB0_55;have HB1_55:=Lib.hid bB1_55
    clear e55 bB0_55 bB1_55
    have c0_3:=HB0_55.out.cell 3 rfl
    have f0_3:=HB0_55.out.free 3
    go_wp2_with fail
    rw [rounds_succ]
    clear c0_3 f0_3
    go_upto_region 17 with fail
    refine wp_name (fun W=>Ext w W∧Blk W (w.heap.size) #[.int .i64 p.w,.int .i64 p.x,.int .i64 p.y,.int .i64 p.z] 22∧Blk W (w.heap.size+1) #[.int .i64 0,.int .i64 0,.int .i64 0,.int .i64 0] 22) ⟨(HX55.out.setCell (by have:=HGEB0.out;first|omega|(simp only [];omega)|(simp;omega)) _),(HB0_55.out.set 3 (.int .i64 p.z)),(HB1_55.out.other (a:=⟨w.heap.size,3,none⟩) _ (by first|omega|(simp only [];omega)|(simp;omega)))⟩ ?_
    rintro w56 ⟨e56,bB0_56,bB1_56⟩
    have HX56:=Lib.hid e56;have HB0_56:=Lib.hid bB0_56;have HB1_56:=Lib.hid bB1_56
    clear e56 bB0_56 bB1_56
    have c0_0:=HB0_56.out.cell 0 rfl
    have c0_1:=HB0_56.out.cell 1 rfl
    have c0_2:=HB0_56.out.cell 2 rfl
    have c0_3:=HB0_56.out.cell 3 rfl
    have c1_0:=HB1_56.out.cell 0 rfl
    have f1_0:=HB1_56.out.free 0
    have c1_1:=HB1_56.out.cell 1 rfl
    have f1_1:=HB1_56.out.free 1
    have c1_2:=HB1_56.out.cell 2 rfl
    have f1_2:=HB1_56.out.free 2
    have c1_3:=HB1_56.out.cell 3 rfl
    have f1_3:=HB1_56.out.free 3
    go_wp2_with fail
    refine wp_name (fun W=>Ext w W∧Blk W (w.heap.size) #[.int .i64 p.w,.int .i64 p.x,.int .i64 p.y,.int .i64 p.z] 22∧Blk W (w.heap.size+1) #[.int .i64 p.w,.int .i64 p.x,.int .i64 p.y,.int .i64 p.z] 22) ⟨((((HX56.out.setCell (by have:=HGEB1.out;first|omega|(simp only [];omega)|(simp;omega)) _).setCell (by have:=HGEB1.out;first|omega|(simp only [];omega)|(simp;omega)) _).setCell (by have:=HGEB1.out;first|omega|(simp only [];omega)|(simp;omega)) _).setCell (by have:=HGEB1.out;first|omega|(simp only [];omega)|(simp;omega)) _),((((HB0_56.out.other (a:=⟨w.heap.size+1,0,none⟩) _ (by first|omega|(simp only [];omega)|(simp;omega))).other (a:=⟨w.heap.size+1,1,none⟩) _ (by first|omega|(simp only [];omega)|(simp;omega))).other (a:=⟨w.heap.size+1,2,none⟩) _ (by first|omega|(simp only [];omega)|(simp;omega))).other (a:=⟨w.heap.size+1,3,none⟩) _ (by first|omega|(simp only [];omega)|(simp;omega))),((((HB1_56.out.set 0 (.int .i64 p.w)).set 1 (.int .i64 p.x)).set 2 (.int .i64 p.y)).set 3 (.int .i64 p.z))⟩ ?_
    rintro w57 ⟨e57,bB0_57,bB1_57⟩
    have HX57:=Lib.hid e57;have HB0_57:=Lib.hid bB0_57;have HB1_57:=Lib.hid bB1_57
    clear e57 bB0_57 bB1_57 c0_0 c0_1 c0_2 c0_3 c1_0 f1_0 c1_1 f1_1 c1_2 f1_2 c1_3 f1_3
    have gB1_0:=HB1_57.out.cell 0 rfl
    have gB1_1:=HB1_57.out.cell 1 rfl
    have gB1_2:=HB1_57.out.cell 2 rfl
    have gB1_3:=HB1_57.out.cell 3 rfl
    rw [HEP.out]
    refine bodyPost_ret (v:=.agg #[.int .i64 p.w,.int .i64 p.x,.int .i64 p.y,.int .i64 p.z]) (by simp [results,Tryz.results55,go_sem,gB1_0,gB1_1,gB1_2,gB1_3]) rfl ⟨rfl,HX57.out⟩
  · have hsg:sg4 t=-1:=(sg4_k3 h0 h1 h2).trans (Int.sign_eq_neg_one_of_neg h3)
    have hp:=prim4_at HEP.out hsg (congrArg (fun n:Nat=>(n:Int)) HG4.out)
    have qw:t.w.tdiv (-(gc4:Int))=p.w:=by have:=hp.1;simpa using this
    have qx:t.x.tdiv (-(gc4:Int))=p.x:=by have:=hp.2.1;simpa using this
    have qy:t.y.tdiv (-(gc4:Int))=p.y:=by have:=hp.2.2.1;simpa using this
    have qz:t.z.tdiv (-(gc4:Int))=p.z:=by have:=hp.2.2.2;simpa using this
    have hsd:decide (t.z<0)=true:=decide_eq_true (by omega)
    have g4z2:(-(gc4:Int) == 0)=false:=beq_eq_false_iff_ne.2 (by omega)
    have g4n2:¬ (-(gc4:Int)=0):=by omega
    have HZ0:=Lib.hid h0;have HZ1:=Lib.hid h1;have HZ2:=Lib.hid h2
    have HK:=Lib.hid (show t.z≠0 by omega)
    clear hsg hp h0 h1 h2
    go_wp2_with fail
    refine (ixn_3 t (w.heap.size) _ (HG.out.ext HX51.out) HB0_51.out HZ0.out HZ1.out HZ2.out HK.out).mono ?_;rintro e w52 ⟨rfl,e52⟩
    have HX52:Hid (Ext w w52):=Lib.hid (HX51.out.trans e52)
    have HB0_52:=Lib.hid (Blk.ext HB0_51.out e52)
    have HB1_52:=Lib.hid (Blk.ext HB1_51.out e52)
    clear e52
    have c0_3:=HB0_52.out.cell 3 rfl
    go_wp2_with fail
    refine wp_loop_rounds 5 ?_
    rw [rounds_succ]
    clear c0_3
    have c0_0:=HB0_52.out.cell 0 rfl
    have f0_0:=HB0_52.out.free 0
    go_wp2_with fail
    rw [rounds_succ]
    clear c0_0 f0_0
    go_upto_region 15 with fail
    refine wp_name (fun W=>Ext w W∧Blk W (w.heap.size) #[.int .i64 p.w,.int .i64 t.x,.int .i64 t.y,.int .i64 t.z] 22∧Blk W (w.heap.size+1) #[.int .i64 0,.int .i64 0,.int .i64 0,.int .i64 0] 22) ⟨(HX52.out.setCell (by have:=HGEB0.out;first|omega|(simp only [];omega)|(simp;omega)) _),(HB0_52.out.set 0 (.int .i64 p.w)),(HB1_52.out.other (a:=⟨w.heap.size,0,none⟩) _ (by first|omega|(simp only [];omega)|(simp;omega)))⟩ ?_
    rintro w53 ⟨e53,bB0_53,bB1_53⟩
    have HX53:=Lib.hid e53;have HB0_53:=Lib.hid bB0_53;have HB1_53:=Lib.hid bB1_53
    clear e53 bB0_53 bB1_53
    have c0_1:=HB0_53.out.cell 1 rfl
    have f0_1:=HB0_53.out.free 1
    go_wp2_with fail
    rw [rounds_succ]
    clear c0_1 f0_1
    go_upto_region 15 with fail
    refine wp_name (fun W=>Ext w W∧Blk W (w.heap.size) #[.int .i64 p.w,.int .i64 p.x,.int .i64 t.y,.int .i64 t.z] 22∧Blk W (w.heap.size+1) #[.int .i64 0,.int .i64 0,.int .i64 0,.int .i64 0] 22) ⟨(HX53.out.setCell (by have:=HGEB0.out;first|omega|(simp only [];omega)|(simp;omega)) _),(HB0_53.out.set 1 (.int .i64 p.x)),(HB1_53.out.other (a:=⟨w.heap.size,1,none⟩) _ (by first|omega|(simp only [];omega)|(simp;omega)))⟩ ?_
    rintro w54 ⟨e54,bB0_54,bB1_54⟩
    have HX54:=Lib.hid e54;have HB0_54:=Lib.hid bB0_54;have HB1_54:=Lib.hid bB1_54
    clear e54 bB0_54 bB1_54
    have c0_2:=HB0_54.out.cell 2 rfl
    have f0_2:=HB0_54.out.free 2
    go_wp2_with fail
    rw [rounds_succ]
    clear c0_2 f0_2
    go_upto_region 15 with fail
    refine wp_name (fun W=>Ext w W∧Blk W (w.heap.size) #[.int .i64 p.w,.int .i64 p.x,.int .i64 p.y,.int .i64 t.z] 22∧Blk W (w.heap.size+1) #[.int .i64 0,.int .i64 0,.int .i64 0,.int .i64 0] 22) ⟨(HX54.out.setCell (by have:=HGEB0.out;first|omega|(simp only [];omega)|(simp;omega)) _),(HB0_54.out.set 2 (.int .i64 p.y)),(HB1_54.out.other (a:=⟨w.heap.size,2,none⟩) _ (by first|omega|(simp only [];omega)|(simp;omega)))⟩ ?_
    rintro w55 ⟨e55,bB0_55,bB1_55⟩
    have HX55:=Lib.hid e55;have HB0_55:=Lib.hid bB0_55;have HB1_55:=Lib.hid bB1_55
    clear e55 bB0_55 bB1_55
    have c0_3:=HB0_55.out.cell 3 rfl
    have f0_3:=HB0_55.out.free 3
    go_wp2_with fail
    rw [rounds_succ]
    clear c0_3 f0_3
    go_upto_region 17 with fail
    refine wp_name (fun W=>Ext w W∧Blk W (w.heap.size) #[.int .i64 p.w,.int .i64 p.x,.int .i64 p.y,.int .i64 p.z] 22∧Blk W (w.heap.size+1) #[.int .i64 0,.int .i64 0,.int .i64 0,.int .i64 0] 22) ⟨(HX55.out.setCell (by have:=HGEB0.out;first|omega|(simp only [];omega)|(simp;omega)) _),(HB0_55.out.set 3 (.int .i64 p.z)),(HB1_55.out.other (a:=⟨w.heap.size,3,none⟩) _ (by first|omega|(simp only [];omega)|(simp;omega)))⟩ ?_
    rintro w56 ⟨e56,bB0_56,bB1_56⟩
    have HX56:=Lib.hid e56;have HB0_56:=Lib.hid bB0_56;have HB1_56:=Lib.hid bB1_56
    clear e56 bB0_56 bB1_56
    have c0_0:=HB0_56.out.cell 0 rfl
    have c0_1:=HB0_56.out.cell 1 rfl
    have c0_2:=HB0_56.out.cell 2 rfl
    have c0_3:=HB0_56.out.cell 3 rfl
    have c1_0:=HB1_56.out.cell 0 rfl
    have f1_0:=HB1_56.out.free 0
    have c1_1:=HB1_56.out.cell 1 rfl
    have f1_1:=HB1_56.out.free 1
    have c1_2:=HB1_56.out.cell 2 rfl
    have f1_2:=HB1_56.out.free 2
    have c1_3:=HB1_56.out.cell 3 rfl
    have f1_3:=HB1_56.out.free 3
    go_wp2_with fail
    refine wp_name (fun W=>Ext w W∧Blk W (w.heap.size) #[.int .i64 p.w,.int .i64 p.x,.int .i64 p.y,.int .i64 p.z] 22∧Blk W (w.heap.size+1) #[.int .i64 p.w,.int .i64 p.x,.int .i64 p.y,.int .i64 p.z] 22) ⟨((((HX56.out.setCell (by have:=HGEB1.out;first|omega|(simp only [];omega)|(simp;omega)) _).setCell (by have:=HGEB1.out;first|omega|(simp only [];omega)|(simp;omega)) _).setCell (by have:=HGEB1.out;first|omega|(simp only [];omega)|(simp;omega)) _).setCell (by have:=HGEB1.out;first|omega|(simp only [];omega)|(simp;omega)) _),((((HB0_56.out.other (a:=⟨w.heap.size+1,0,none⟩) _ (by first|omega|(simp only [];omega)|(simp;omega))).other (a:=⟨w.heap.size+1,1,none⟩) _ (by first|omega|(simp only [];omega)|(simp;omega))).other (a:=⟨w.heap.size+1,2,none⟩) _ (by first|omega|(simp only [];omega)|(simp;omega))).other (a:=⟨w.heap.size+1,3,none⟩) _ (by first|omega|(simp only [];omega)|(simp;omega))),((((HB1_56.out.set 0 (.int .i64 p.w)).set 1 (.int .i64 p.x)).set 2 (.int .i64 p.y)).set 3 (.int .i64 p.z))⟩ ?_
    rintro w57 ⟨e57,bB0_57,bB1_57⟩
    have HX57:=Lib.hid e57;have HB0_57:=Lib.hid bB0_57;have HB1_57:=Lib.hid bB1_57
    clear e57 bB0_57 bB1_57 c0_0 c0_1 c0_2 c0_3 c1_0 f1_0 c1_1 f1_1 c1_2 f1_2 c1_3 f1_3
    have gB1_0:=HB1_57.out.cell 0 rfl
    have gB1_1:=HB1_57.out.cell 1 rfl
    have gB1_2:=HB1_57.out.cell 2 rfl
    have gB1_3:=HB1_57.out.cell 3 rfl
    rw [HEP.out]
    refine bodyPost_ret (v:=.agg #[.int .i64 p.w,.int .i64 p.x,.int .i64 p.y,.int .i64 p.z]) (by simp [results,Tryz.results55,go_sem,gB1_0,gB1_1,gB1_2,gB1_3]) rfl ⟨rfl,HX57.out⟩

end Go.Proofs.YtjeimihnoiephaaGreatDoor

namespace Go.Proofs.YtjeimihnoiephaaGreatDoor
open Go Go.RowKit
set_option linter.unusedVariables false
theorem rprim_as (a p:Q4) (e:prim4 a=p) (w:World) (g:Gd w) (hb:Q4Bd a) (hz:¬ a.zero):Calls Tryz.prog 55 #[.agg #[.int .i64 a.w,.int .i64 a.x,.int .i64 a.y,.int .i64 a.z]] w (Ret w (.agg #[.int .i64 p.w,.int .i64 p.x,.int .i64 p.y,.int .i64 p.z])):=by subst e;exact rprim_c a w g hb hz
end Go.Proofs.YtjeimihnoiephaaGreatDoor

namespace Go.Proofs.YtjeimihnoiephaaGreatDoor
open Go Go.RowKit
set_option linter.unusedVariables false
theorem prim4_in {t:Q4} (h:Q4In t):Q4In (prim4 t):=⟨tdiv_bd h.w,tdiv_bd h.x,tdiv_bd h.y,tdiv_bd h.z⟩

end Go.Proofs.YtjeimihnoiephaaGreatDoor
