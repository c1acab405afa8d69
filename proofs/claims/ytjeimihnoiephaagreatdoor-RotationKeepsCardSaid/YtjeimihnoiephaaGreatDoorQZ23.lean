/- Part 23 of the proof: B2, B3, B4, B5. -/
import Derived.Test.YtjeimihnoiephaaGreatDoorQZ22
set_option maxRecDepth 100000
namespace Go.Proofs.YtjeimihnoiephaaGreatDoor
open Go Go.RowKit
theorem qs_mk1 (n:Int):qs (mkRat n 1)=zs n:=by
  rw [Rat.mkRat_one];unfold qs zs;rw [ql_one (by rfl)];rfl

set_option maxHeartbeats 4000000 in
theorem flowest_c (n : Int) (d : Nat) (w : World) (g : Gd w) (hn : n.natAbs ≤ 4000000000000000000) (hd : d ≠ 0) (hd2 : d ≤ 4000000000000000000) :
    Calls Tryz.prog 112 #[.int .i64 n,.int .i64 d] w (Ret w (.string (qs (mkRat n d)))):=by
  have nb1:-4000000000000000000≤n:=by omega
  have nb2:n≤4000000000000000000:=by omega
  have HN:=Lib.hid hn;have HD:=Lib.hid hd;have HD2:=Lib.hid hd2;have HG:=Lib.hid g
  by_cases h1:d=1
  · subst h1
    have E:=Lib.hid (qs_mk1 n)
    clear hn hd hd2 g
    go_enter Tryz.func112,Tryz.ntmps112
    go_wp2_with (go_at_call 116;refine (itoa_c n (by omega) (by omega) _ HG.out).mono ?_;rintro e w3 ⟨rfl,e3⟩)
    go_ret
    exact ⟨ret_qs E.out.symm,e3⟩
  · have h1':¬ (d:Int)=1:=by omega
    clear h1
    by_cases hneg:n<0
    · clear hn hd g
      go_enter Tryz.func112,Tryz.ntmps112
      go_wp2
      go_loopw [5,6] (fun x y W=>∃ X Y:Int,x = .int .i64 X∧y = .int .i64 Y∧Int.gcd X Y=Int.gcd n d∧(0≤X∧X≤4000000000000000000)∧(0≤Y∧Y≤4000000000000000000)∧Ext w W)
        (fun _ y _=>(intOf y).natAbs)
      case atStart=>exact ⟨-n,d,by first|rfl|go_num,rfl,Int.neg_gcd,⟨by omega,by omega⟩,⟨by omega,by omega⟩,Ext.refl _⟩
      case round =>
        obtain ⟨X,Y,rfl,rfl,hg,⟨x1,x2⟩,⟨y1,y2⟩,hx⟩:=hrel
        have HGC:=Lib.hid hg
        clear hg
        by_cases h0:Y=0
        · subst h0
          have hf:Int.gcd n d=X.natAbs:=by rw [← HGC.out,Int.gcd_zero]
          obtain ⟨G,hG⟩:∃ G:Nat,G=X.natAbs:=⟨_,rfl⟩
          rw [← hG] at hf
          have hG0:G≠0:=by
            intro e;rw [e] at hf
            exact absurd hf (Int.gcd_ne_zero_right (by have:=HD.out;omega))
          obtain rfl:X=(G:Int):=by omega
          have hdv:(G:Int)∣n:=by rw [← hf];exact Int.gcd_dvd_left _ _
          have eq:=ql_mkRat (n:=n) (d:=d) (g:=G) HD.out hf
          have hGd:G≤d:=by rw [← hf];have:=Int.gcd_le_natAbs_right n (b:=(d:Int)) (by have:=HD.out;omega);simpa using this
          have HF:=Lib.hid hf;have HEQ:=Lib.hid eq;have HDV:=Lib.hid hdv
          obtain ⟨N',hN'⟩:∃ N',N'=n.tdiv G:=⟨_,rfl⟩
          obtain ⟨D',hD'⟩:∃ D',D'=d / G:=⟨_,rfl⟩
          have hNa:N'.natAbs≤4000000000000000000:=by
            rw [hN',Int.natAbs_tdiv]
            exact Nat.le_trans (Nat.div_le_self _ _) HN.out
          have hDa:D'≤4000000000000000000:=by rw [hD'];exact Nat.le_trans (Nat.div_le_self _ _) HD2.out
          have n1:-4000000000000000000≤N':=by omega
          have n2:N'≤4000000000000000000:=by omega
          have d2:(D':Int)≤4000000000000000000:=by omega
          have q1:IntKind.i64.wrap (n.tdiv G)=N':=by rw [← hN'];exact IntWalk.i64_in _ (by omega)
          have q2:(d:Int) / (G:Int)=(D':Int):=by rw [hD'];simp
          have q3:(d:Int).tdiv (G:Int)=(D':Int):=by rw [hD'];rfl
          have q4:IntKind.i64.wrap (D':Int)=(D':Int):=IntWalk.i64_in _ (by omega)
          rw [← hN',← hD'] at HEQ
          have HND:=Lib.hid (And.intro hN' hD')
          have gpos:1≤(G:Int):=by omega
          have hne:¬ (G:Int)=0:=by omega
          have hne2:¬ G=0:=hG0
          clear hf eq hdv hG hN' hD' hNa hDa hG0 hGd
          by_cases h1:D'=1
          · subst h1
            have e1:(⟨(joinl N' 1).toArray⟩:ByteArray)=zs N':=rfl
            have E1:=Lib.hid e1
            clear e1
            go_wp2
            go_region
            all_goals
              go_wp2_with (go_at_call 116;refine (itoa_c N' (by omega) (by omega) _ (HG.out.ext hx.drew)).mono ?_;rintro e w3 ⟨rfl,e3⟩)
              go_ret
              exact ⟨ret_qs (by unfold qs;rw [HEQ.out];rfl),hx.drew.trans e3⟩
          · have h1':¬ (D':Int)=1:=by omega
            have e1:=join_bytes N' D'
            have s1:(zs N').size≤100:=by
              rw [zs_size];have:=zl_len_le (n:=N') (k:=19) (by decide) (by omega);omega
            have s2:(zs (D':Int)).size≤100:=by
              rw [zs_size];have:=zl_len_le (n:=(D':Int)) (k:=19) (by decide) (by omega);omega
            have e2:qs (mkRat n d)=zs N' ++ (⟨#[47]⟩:ByteArray) ++ zs (D':Int):=by
              rw [e1];unfold qs;rw [HEQ.out];unfold joinl;rw [if_neg h1]
            have E2:=Lib.hid e2
            clear e1 e2 h1
            go_wp2
            go_region
            all_goals
              go_wp2_with (first
                | (go_at_call 116;((with_reducible refine (itoa_c N' (by omega) (by omega) wr.drew (HG.out.ext hx.drew)).mono ?_);rintro e w3 ⟨rfl,e3⟩))
                | (go_at_call 116;refine (itoa_c (D':Int) (by omega) (by omega) _ (HG.out.ext (hx.drew.trans e3))).mono ?_;rintro e w4 ⟨rfl,e4⟩))
              go_ret
              exact ⟨ret_qs E2.out.symm,(hx.drew.trans e3).trans e4⟩
        · have hs:=gcd_step X Y
          have hm:=Int.natAbs_tmod X Y
          rw [Int.tmod_eq_emod_of_nonneg x1] at hs hm
          have hlt:=Nat.mod_lt X.natAbs (show 0<Y.natAbs by omega)
          have hnn:=Int.emod_nonneg X h0
          have HS:=Lib.hid hs;have HL:=Lib.hid (show (X % Y).natAbs<Y.natAbs by omega);have HNN:=Lib.hid hnn
          clear hs hm hlt hnn
          go_wp2
          go_region
          all_goals
            go_roundw
            case rel=>(repeat apply Exists.intro);exact ⟨⟨Y,X % Y,rfl,rfl,by rw [HS.out,HGC.out],⟨y1,y2⟩,⟨HNN.out,by have:=HL.out;have:=HNN.out;omega⟩,hx.drew⟩,rfl⟩
            case measure=>have:=HL.out;simpa [intOf] using this
    · clear hn hd g
      go_enter Tryz.func112,Tryz.ntmps112
      go_wp2
      go_loopw [5,6] (fun x y W=>∃ X Y:Int,x = .int .i64 X∧y = .int .i64 Y∧Int.gcd X Y=Int.gcd n d∧(0≤X∧X≤4000000000000000000)∧(0≤Y∧Y≤4000000000000000000)∧Ext w W)
        (fun _ y _=>(intOf y).natAbs)
      case atStart=>exact ⟨n,d,by first|rfl|go_num,rfl,rfl,⟨by omega,by omega⟩,⟨by omega,by omega⟩,Ext.refl _⟩
      case round =>
        obtain ⟨X,Y,rfl,rfl,hg,⟨x1,x2⟩,⟨y1,y2⟩,hx⟩:=hrel
        have HGC:=Lib.hid hg
        clear hg
        by_cases h0:Y=0
        · subst h0
          have hf:Int.gcd n d=X.natAbs:=by rw [← HGC.out,Int.gcd_zero]
          obtain ⟨G,hG⟩:∃ G:Nat,G=X.natAbs:=⟨_,rfl⟩
          rw [← hG] at hf
          have hG0:G≠0:=by
            intro e;rw [e] at hf
            exact absurd hf (Int.gcd_ne_zero_right (by have:=HD.out;omega))
          obtain rfl:X=(G:Int):=by omega
          have hdv:(G:Int)∣n:=by rw [← hf];exact Int.gcd_dvd_left _ _
          have eq:=ql_mkRat (n:=n) (d:=d) (g:=G) HD.out hf
          have hGd:G≤d:=by rw [← hf];have:=Int.gcd_le_natAbs_right n (b:=(d:Int)) (by have:=HD.out;omega);simpa using this
          have HF:=Lib.hid hf;have HEQ:=Lib.hid eq;have HDV:=Lib.hid hdv
          obtain ⟨N',hN'⟩:∃ N',N'=n.tdiv G:=⟨_,rfl⟩
          obtain ⟨D',hD'⟩:∃ D',D'=d / G:=⟨_,rfl⟩
          have hNa:N'.natAbs≤4000000000000000000:=by
            rw [hN',Int.natAbs_tdiv]
            exact Nat.le_trans (Nat.div_le_self _ _) HN.out
          have hDa:D'≤4000000000000000000:=by rw [hD'];exact Nat.le_trans (Nat.div_le_self _ _) HD2.out
          have n1:-4000000000000000000≤N':=by omega
          have n2:N'≤4000000000000000000:=by omega
          have d2:(D':Int)≤4000000000000000000:=by omega
          have q1:IntKind.i64.wrap (n.tdiv G)=N':=by rw [← hN'];exact IntWalk.i64_in _ (by omega)
          have q2:(d:Int) / (G:Int)=(D':Int):=by rw [hD'];simp
          have q3:(d:Int).tdiv (G:Int)=(D':Int):=by rw [hD'];rfl
          have q4:IntKind.i64.wrap (D':Int)=(D':Int):=IntWalk.i64_in _ (by omega)
          rw [← hN',← hD'] at HEQ
          have HND:=Lib.hid (And.intro hN' hD')
          have gpos:1≤(G:Int):=by omega
          have hne:¬ (G:Int)=0:=by omega
          have hne2:¬ G=0:=hG0
          clear hf eq hdv hG hN' hD' hNa hDa hG0 hGd
          by_cases h1:D'=1
          · subst h1
            have e1:(⟨(joinl N' 1).toArray⟩:ByteArray)=zs N':=rfl
            have E1:=Lib.hid e1
            clear e1
            go_wp2
            go_region
            all_goals
              go_wp2_with (go_at_call 116;refine (itoa_c N' (by omega) (by omega) _ (HG.out.ext hx.drew)).mono ?_;rintro e w3 ⟨rfl,e3⟩)
              go_ret
              exact ⟨ret_qs (by unfold qs;rw [HEQ.out];rfl),hx.drew.trans e3⟩
          · have h1':¬ (D':Int)=1:=by omega
            have e1:=join_bytes N' D'
            have s1:(zs N').size≤100:=by
              rw [zs_size];have:=zl_len_le (n:=N') (k:=19) (by decide) (by omega);omega
            have s2:(zs (D':Int)).size≤100:=by
              rw [zs_size];have:=zl_len_le (n:=(D':Int)) (k:=19) (by decide) (by omega);omega
            have e2:qs (mkRat n d)=zs N' ++ (⟨#[47]⟩:ByteArray) ++ zs (D':Int):=by
              rw [e1];unfold qs;rw [HEQ.out];unfold joinl;rw [if_neg h1]
            have E2:=Lib.hid e2
            clear e1 e2 h1
            go_wp2
            go_region
            all_goals
              go_wp2_with (first
                | (go_at_call 116;((with_reducible refine (itoa_c N' (by omega) (by omega) wr.drew (HG.out.ext hx.drew)).mono ?_);rintro e w3 ⟨rfl,e3⟩))
                | (go_at_call 116;refine (itoa_c (D':Int) (by omega) (by omega) _ (HG.out.ext (hx.drew.trans e3))).mono ?_;rintro e w4 ⟨rfl,e4⟩))
              go_ret
              exact ⟨ret_qs E2.out.symm,(hx.drew.trans e3).trans e4⟩
        · have hs:=gcd_step X Y
          have hm:=Int.natAbs_tmod X Y
          rw [Int.tmod_eq_emod_of_nonneg x1] at hs hm
          have hlt:=Nat.mod_lt X.natAbs (show 0<Y.natAbs by omega)
          have hnn:=Int.emod_nonneg X h0
          have HS:=Lib.hid hs;have HL:=Lib.hid (show (X % Y).natAbs<Y.natAbs by omega);have HNN:=Lib.hid hnn
          clear hs hm hlt hnn
          go_wp2
          go_region
          all_goals
            go_roundw
            case rel=>(repeat apply Exists.intro);exact ⟨⟨Y,X % Y,rfl,rfl,by rw [HS.out,HGC.out],⟨y1,y2⟩,⟨HNN.out,by have:=HL.out;have:=HNN.out;omega⟩,hx.drew⟩,rfl⟩
            case measure=>have:=HL.out;simpa [intOf] using this

set_option maxHeartbeats 4000000 in
theorem fsmall_pos (n : Int) (d : Nat) (w : World) (g : Gd w) (hn : n.natAbs < 1000000000) (hd : d ≠ 0) (hdb : d < 1000000000) :
    Calls Tryz.prog 114 #[.string (zs n),.string (zs (d:Int))] w (Ret w (.string (qs (mkRat n d)))):=by
  have L1:Hid ((zl n).length≤18):=Lib.hid (by have:=zl_len_le (n:=n) (k:=9) (by decide) (by omega);omega)
  have L2:Hid ((zl (d:Int)).length≤18):=Lib.hid (by have:=zl_len_le (n:=(d:Int)) (k:=9) (by decide) (by omega);omega)
  have nb1:-1000000000≤n:=by omega
  have nb2:n≤1000000000:=by omega
  have db1:(0:Int)<d:=by omega
  have db2:(d:Int)≤1000000000:=by omega
  have HN:Hid (n.natAbs≤4000000000000000000):=Lib.hid (by omega)
  have HD:=Lib.hid hd;have HD2:Hid (d≤4000000000000000000):=Lib.hid (by omega)
  have HG:=Lib.hid g
  by_cases hneg:n<0
  · clear hn hd hdb g
    go_enter Tryz.func114,Tryz.ntmps114
    go_wp2_with (first
      | (go_at_call 161;((with_reducible refine (atoi_c n L1.out w).mono ?_);rintro e w1 ⟨rfl,e1⟩))
      | (go_at_call 161;refine (atoi_c (d:Int) L2.out _).mono ?_;rintro e w2 ⟨rfl,e2⟩;have e12:=Ext.trans e1 e2;replace HG:=Lib.hid (HG.out.ext e12)))
    go_loopw [9,10] (fun x y W=>∃ X Y:Int,x = .int .i64 X∧y = .int .i64 Y∧Int.gcd X Y=Int.gcd n d∧(0≤X∧X≤4000000000000000000)∧(0≤Y∧Y≤4000000000000000000)∧Ext w2 W)
      (fun _ y _=>(intOf y).natAbs)
    case atStart=>exact ⟨-n,d,by first|rfl|go_num,rfl,Int.neg_gcd,⟨by omega,by omega⟩,⟨by omega,by omega⟩,Ext.refl _⟩
    case round =>
      obtain ⟨X,Y,rfl,rfl,hg,⟨x1,x2⟩,⟨y1,y2⟩,hx⟩:=hrel
      have HGC:=Lib.hid hg
      clear hg
      by_cases h0:Y=0
      · subst h0
        have hf:Int.gcd n d=X.natAbs:=by rw [← HGC.out,Int.gcd_zero]
        obtain ⟨G,hG⟩:∃ G:Nat,G=X.natAbs:=⟨_,rfl⟩
        rw [← hG] at hf
        have hG0:G≠0:=by
          intro e;rw [e] at hf
          exact absurd hf (Int.gcd_ne_zero_right (by have:=HD.out;omega))
        obtain rfl:X=(G:Int):=by omega
        have hdv:(G:Int)∣n:=by rw [← hf];exact Int.gcd_dvd_left _ _
        have eq:=ql_mkRat (n:=n) (d:=d) (g:=G) HD.out hf
        have hGd:G≤d:=by rw [← hf];have:=Int.gcd_le_natAbs_right n (b:=(d:Int)) (by have:=HD.out;omega);simpa using this
        have HF:=Lib.hid hf;have HEQ:=Lib.hid eq;have HDV:=Lib.hid hdv
        obtain ⟨N',hN'⟩:∃ N',N'=n.tdiv G:=⟨_,rfl⟩
        obtain ⟨D',hD'⟩:∃ D',D'=d / G:=⟨_,rfl⟩
        have hNa:N'.natAbs≤4000000000000000000:=by
          rw [hN',Int.natAbs_tdiv]
          exact Nat.le_trans (Nat.div_le_self _ _) HN.out
        have hDa:D'≤4000000000000000000:=by rw [hD'];exact Nat.le_trans (Nat.div_le_self _ _) HD2.out
        have n1:-4000000000000000000≤N':=by omega
        have n2:N'≤4000000000000000000:=by omega
        have d2:(D':Int)≤4000000000000000000:=by omega
        have q1:IntKind.i64.wrap (n.tdiv G)=N':=by rw [← hN'];exact IntWalk.i64_in _ (by omega)
        have q2:(d:Int) / (G:Int)=(D':Int):=by rw [hD'];simp
        have q3:(d:Int).tdiv (G:Int)=(D':Int):=by rw [hD'];rfl
        have q4:IntKind.i64.wrap (D':Int)=(D':Int):=IntWalk.i64_in _ (by omega)
        rw [← hN',← hD'] at HEQ
        have HND:=Lib.hid (And.intro hN' hD')
        have gpos:1≤(G:Int):=by omega
        have hne:¬ (G:Int)=0:=by omega
        have hne2:¬ G=0:=hG0
        clear hf eq hdv hG hN' hD' hNa hDa hG0 hGd
        by_cases h1:D'=1
        · subst h1
          have e1:(⟨(joinl N' 1).toArray⟩:ByteArray)=zs N':=rfl
          have E1:=Lib.hid e1
          clear e1
          go_wp2
          go_region
          all_goals
            go_wp2_with (go_at_call 116;refine (itoa_c N' (by omega) (by omega) _ (HG.out.ext hx.drew)).mono ?_;rintro e w3 ⟨rfl,e3⟩)
            go_ret
            exact ⟨ret_qs (by unfold qs;rw [HEQ.out];rfl),e12.trans (hx.drew.trans e3)⟩
        · have h1':¬ (D':Int)=1:=by omega
          have e1:=join_bytes N' D'
          have s1:(zs N').size≤100:=by
            rw [zs_size];have:=zl_len_le (n:=N') (k:=19) (by decide) (by omega);omega
          have s2:(zs (D':Int)).size≤100:=by
            rw [zs_size];have:=zl_len_le (n:=(D':Int)) (k:=19) (by decide) (by omega);omega
          have e2:qs (mkRat n d)=zs N' ++ (⟨#[47]⟩:ByteArray) ++ zs (D':Int):=by
            rw [e1];unfold qs;rw [HEQ.out];unfold joinl;rw [if_neg h1]
          have E2:=Lib.hid e2
          clear e1 e2 h1
          go_wp2
          go_region
          all_goals
            go_wp2_with (first
              | (go_at_call 116;((with_reducible refine (itoa_c N' (by omega) (by omega) wr.drew (HG.out.ext hx.drew)).mono ?_);rintro e w3 ⟨rfl,e3⟩))
              | (go_at_call 116;refine (itoa_c (D':Int) (by omega) (by omega) _ (HG.out.ext (hx.drew.trans e3))).mono ?_;rintro e w4 ⟨rfl,e4⟩))
            go_ret
            exact ⟨ret_qs E2.out.symm,e12.trans ((hx.drew.trans e3).trans e4)⟩
      · have hs:=gcd_step X Y
        have hm:=Int.natAbs_tmod X Y
        rw [Int.tmod_eq_emod_of_nonneg x1] at hs hm
        have hlt:=Nat.mod_lt X.natAbs (show 0<Y.natAbs by omega)
        have hnn:=Int.emod_nonneg X h0
        have HS:=Lib.hid hs;have HL:=Lib.hid (show (X % Y).natAbs<Y.natAbs by omega);have HNN:=Lib.hid hnn
        clear hs hm hlt hnn
        go_wp2
        go_region
        all_goals
          go_roundw
          case rel=>(repeat apply Exists.intro);exact ⟨⟨Y,X % Y,rfl,rfl,by rw [HS.out,HGC.out],⟨y1,y2⟩,⟨HNN.out,by have:=HL.out;have:=HNN.out;omega⟩,hx.drew⟩,rfl⟩
          case measure=>have:=HL.out;simpa [intOf] using this
  · clear hn hd hdb g
    go_enter Tryz.func114,Tryz.ntmps114
    go_wp2_with (first
      | (go_at_call 161;((with_reducible refine (atoi_c n L1.out w).mono ?_);rintro e w1 ⟨rfl,e1⟩))
      | (go_at_call 161;refine (atoi_c (d:Int) L2.out _).mono ?_;rintro e w2 ⟨rfl,e2⟩;have e12:=Ext.trans e1 e2;replace HG:=Lib.hid (HG.out.ext e12)))
    go_loopw [9,10] (fun x y W=>∃ X Y:Int,x = .int .i64 X∧y = .int .i64 Y∧Int.gcd X Y=Int.gcd n d∧(0≤X∧X≤4000000000000000000)∧(0≤Y∧Y≤4000000000000000000)∧Ext w2 W)
      (fun _ y _=>(intOf y).natAbs)
    case atStart=>exact ⟨n,d,by first|rfl|go_num,rfl,rfl,⟨by omega,by omega⟩,⟨by omega,by omega⟩,Ext.refl _⟩
    case round =>
      obtain ⟨X,Y,rfl,rfl,hg,⟨x1,x2⟩,⟨y1,y2⟩,hx⟩:=hrel
      have HGC:=Lib.hid hg
      clear hg
      by_cases h0:Y=0
      · subst h0
        have hf:Int.gcd n d=X.natAbs:=by rw [← HGC.out,Int.gcd_zero]
        obtain ⟨G,hG⟩:∃ G:Nat,G=X.natAbs:=⟨_,rfl⟩
        rw [← hG] at hf
        have hG0:G≠0:=by
          intro e;rw [e] at hf
          exact absurd hf (Int.gcd_ne_zero_right (by have:=HD.out;omega))
        obtain rfl:X=(G:Int):=by omega
        have hdv:(G:Int)∣n:=by rw [← hf];exact Int.gcd_dvd_left _ _
        have eq:=ql_mkRat (n:=n) (d:=d) (g:=G) HD.out hf
        have hGd:G≤d:=by rw [← hf];have:=Int.gcd_le_natAbs_right n (b:=(d:Int)) (by have:=HD.out;omega);simpa using this
        have HF:=Lib.hid hf;have HEQ:=Lib.hid eq;have HDV:=Lib.hid hdv
        obtain ⟨N',hN'⟩:∃ N',N'=n.tdiv G:=⟨_,rfl⟩
        obtain ⟨D',hD'⟩:∃ D',D'=d / G:=⟨_,rfl⟩
        have hNa:N'.natAbs≤4000000000000000000:=by
          rw [hN',Int.natAbs_tdiv]
          exact Nat.le_trans (Nat.div_le_self _ _) HN.out
        have hDa:D'≤4000000000000000000:=by rw [hD'];exact Nat.le_trans (Nat.div_le_self _ _) HD2.out
        have n1:-4000000000000000000≤N':=by omega
        have n2:N'≤4000000000000000000:=by omega
        have d2:(D':Int)≤4000000000000000000:=by omega
        have q1:IntKind.i64.wrap (n.tdiv G)=N':=by rw [← hN'];exact IntWalk.i64_in _ (by omega)
        have q2:(d:Int) / (G:Int)=(D':Int):=by rw [hD'];simp
        have q3:(d:Int).tdiv (G:Int)=(D':Int):=by rw [hD'];rfl
        have q4:IntKind.i64.wrap (D':Int)=(D':Int):=IntWalk.i64_in _ (by omega)
        rw [← hN',← hD'] at HEQ
        have HND:=Lib.hid (And.intro hN' hD')
        have gpos:1≤(G:Int):=by omega
        have hne:¬ (G:Int)=0:=by omega
        have hne2:¬ G=0:=hG0
        clear hf eq hdv hG hN' hD' hNa hDa hG0 hGd
        by_cases h1:D'=1
        · subst h1
          have e1:(⟨(joinl N' 1).toArray⟩:ByteArray)=zs N':=rfl
          have E1:=Lib.hid e1
          clear e1
          go_wp2
          go_region
          all_goals
            go_wp2_with (go_at_call 116;refine (itoa_c N' (by omega) (by omega) _ (HG.out.ext hx.drew)).mono ?_;rintro e w3 ⟨rfl,e3⟩)
            go_ret
            exact ⟨ret_qs (by unfold qs;rw [HEQ.out];rfl),e12.trans (hx.drew.trans e3)⟩
        · have h1':¬ (D':Int)=1:=by omega
          have e1:=join_bytes N' D'
          have s1:(zs N').size≤100:=by
            rw [zs_size];have:=zl_len_le (n:=N') (k:=19) (by decide) (by omega);omega
          have s2:(zs (D':Int)).size≤100:=by
            rw [zs_size];have:=zl_len_le (n:=(D':Int)) (k:=19) (by decide) (by omega);omega
          have e2:qs (mkRat n d)=zs N' ++ (⟨#[47]⟩:ByteArray) ++ zs (D':Int):=by
            rw [e1];unfold qs;rw [HEQ.out];unfold joinl;rw [if_neg h1]
          have E2:=Lib.hid e2
          clear e1 e2 h1
          go_wp2
          go_region
          all_goals
            go_wp2_with (first
              | (go_at_call 116;((with_reducible refine (itoa_c N' (by omega) (by omega) wr.drew (HG.out.ext hx.drew)).mono ?_);rintro e w3 ⟨rfl,e3⟩))
              | (go_at_call 116;refine (itoa_c (D':Int) (by omega) (by omega) _ (HG.out.ext (hx.drew.trans e3))).mono ?_;rintro e w4 ⟨rfl,e4⟩))
            go_ret
            exact ⟨ret_qs E2.out.symm,e12.trans ((hx.drew.trans e3).trans e4)⟩
      · have hs:=gcd_step X Y
        have hm:=Int.natAbs_tmod X Y
        rw [Int.tmod_eq_emod_of_nonneg x1] at hs hm
        have hlt:=Nat.mod_lt X.natAbs (show 0<Y.natAbs by omega)
        have hnn:=Int.emod_nonneg X h0
        have HS:=Lib.hid hs;have HL:=Lib.hid (show (X % Y).natAbs<Y.natAbs by omega);have HNN:=Lib.hid hnn
        clear hs hm hlt hnn
        go_wp2
        go_region
        all_goals
          go_roundw
          case rel=>(repeat apply Exists.intro);exact ⟨⟨Y,X % Y,rfl,rfl,by rw [HS.out,HGC.out],⟨y1,y2⟩,⟨HNN.out,by have:=HL.out;have:=HNN.out;omega⟩,hx.drew⟩,rfl⟩
          case measure=>have:=HL.out;simpa [intOf] using this

end Go.Proofs.YtjeimihnoiephaaGreatDoor

namespace Go.Proofs.YtjeimihnoiephaaGreatDoor
open Go Go.RowKit
theorem idx_none (s:ByteArray) (w:World) (h:(47:UInt8) ∉ s.data.toList):Calls Tryz.prog 49 #[.string s,.int .u8 47] w fun e w'=>e = .returned (.int .i64 (-1))∧w=w' :=
  (Tryz.strings_IndexByte s 47 w).mono fun _ _ ⟨e,h2⟩=>⟨by rw [e,← indexByte_none h];rfl,h2.symm⟩

theorem idx_at (s:ByteArray) (x y:List UInt8) (w:World) (hs:s.data.toList=x ++ 47 :: y) (h:(47:UInt8) ∉ x):Calls Tryz.prog 49 #[.string s,.int .u8 47] w fun e w'=>e = .returned (.int .i64 x.length)∧w=w' :=
  (Tryz.strings_IndexByte s 47 w).mono fun _ _ ⟨e,h2⟩=>⟨by rw [e,← indexByte_at (y:=y) h,← hs];rfl,h2.symm⟩

theorem fcut_none (s:ByteArray) (w:World) (h:(47:UInt8) ∉ s.data.toList):Calls Tryz.prog 47 #[.string s] w fun e w'=>e = .returned (.tuple #[.string s,.string ⟨#[49]⟩])∧Ext w w':=by
  have H:=Lib.hid h
  clear h
  go_enter Tryz.func47,Tryz.ntmps47
  go_wp2_with (go_at_call 49;refine (idx_none s _ H.out).mono ?_;rintro e w' ⟨rfl,rfl⟩)
  go_ret2
  exact ⟨rfl,Ext.refl _⟩

theorem fcut_at (s : ByteArray) (x y : List UInt8) (w : World) (hs : s.data.toList = x ++ 47 :: y) (h : (47 : UInt8) ∉ x) (hl : s.size ≤ 1000000) :
    Calls Tryz.prog 47 #[.string s] w fun e w'=>e = .returned (.tuple #[.string ⟨x.toArray⟩,.string ⟨y.toArray⟩])∧Ext w w':=by
  have hi:=fun w=>idx_at s x y w hs h
  have hsz:x.length+1≤s.size:=by
    have:s.size=s.data.toList.length:=by rw [Array.length_toList];rfl
    rw [this,hs];simp
  have hcl:=cut_left x y
  have hcr:=cut_right x y
  rw [show (⟨(x ++ 47 :: y).toArray⟩:ByteArray)=s by rw [← hs]] at hcl hcr
  obtain ⟨n,hn⟩:∃ n,n=x.length:=⟨_,rfl⟩
  rw [← hn] at hi hsz hcl hcr
  have HI:=Lib.hid hi;have HL:=Lib.hid hcl;have HR:=Lib.hid hcr
  clear hi h hs hn hcl hcr
  have hsz':(n:Int)+1≤(s.size:Int):=by omega
  have hsz2:(n:Int)≤(s.size:Int):=by omega
  go_enter Tryz.func47,Tryz.ntmps47
  go_wp2_with (go_at_call 49;refine (HI.out _).mono ?_;rintro e w' ⟨rfl,rfl⟩)
  go_region
  all_goals
    go_wp2
    go_ret2
    exact ⟨by rw [← HL.out,← HR.out];rfl,(Ext.refl _).drew⟩

theorem fqparts_c (q : Rat) {k : Nat} (w : World) (hq : QB k q) (hk : k ≤ 9000) :
    Calls Tryz.prog 47 #[.string (qs q)] w (Ret w (.tuple #[.string (zs q.num),.string (zs q.den)])):=by
  have hl:=hq.len hk
  by_cases h:q.den=1
  · have e1:qs q=zs q.num:=by unfold qs zs;rw [ql_one h]
    have e2:zs (q.den:Int)=⟨#[49]⟩:=by rw [h];exact zs_one
    rw [e1,e2]
    exact (fcut_none _ w (by rw [zs_list];exact zl_no_slash _)).mono fun _ _ ⟨h1,h2⟩=>⟨h1,h2⟩
  · have e2:zs (q.den:Int)=⟨(Lib.decDigits q.den).toArray⟩:=by unfold zs;rw [zl_nat]
    have e3:zs q.num=⟨(zl q.num).toArray⟩:=rfl
    rw [e2,e3]
    exact (fcut_at _ _ _ w (by rw [qs_list,ql_frac h]) (zl_no_slash _) hl).mono fun _ _ ⟨h1,h2⟩=>⟨h1,h2⟩

theorem zs9 {n:Int} (h:(zs n).size≤9):n.natAbs<1000000000:=by
  rw [zs_size] at h
  apply (dec_len9 _).1
  rcases Int.lt_or_le n 0 with h1|h1
  · rw [zl_neg h1] at h;simp at h;omega
  · rw [zl_pos h1] at h;exact h

set_option maxHeartbeats 1000000 in
theorem ffrac_small (n : Int) (d : Nat) (w : World) (g : Gd w) (hd : d ≠ 0) (h1 : (zs n).size ≤ 9) (h2 : (zs (d : Int)).size ≤ 9) :
    Calls Tryz.prog 53 #[.string (zs n),.string (zs (d:Int))] w (Ret w (.string (qs (mkRat n d)))):=by
  have hn:=zs9 h1
  have hdb:=zs9 h2
  rw [Int.natAbs_natCast] at hdb
  have HG:=Lib.hid g;have HD:=Lib.hid hd;have HN:=Lib.hid hn;have HDB:=Lib.hid hdb
  have h1':((zs n).size:Int)≤9:=by omega
  have h2':((zs (d:Int)).size:Int)≤9:=by omega
  clear hn hdb g hd
  go_enter Tryz.func53,Tryz.ntmps53
  go_wp2_with (go_at_call 114;refine (fsmall_pos n d _ HG.out HN.out HD.out HDB.out).mono ?_;rintro e w1 ⟨rfl,e1⟩)
  go_ret
  exact ⟨rfl,e1⟩

set_option maxHeartbeats 2000000 in
theorem ffrac_big (n : Int) (d : Nat) {k m : Nat} (w : World) (g : Gd w) (hd : d ≠ 0) (hn : IB k n) (hdb : IB m (d : Int)) (hk : k ≤ 8000) (hm : m ≤ 8000) (h : ¬ ((zs n).size ≤ 9 ∧ (zs (d : Int)).size ≤ 9)) :
    Calls Tryz.prog 53 #[.string (zs n),.string (zs (d:Int))] w (Ret w (.string (qs (mkRat n d)))):=by
  obtain ⟨f1,f2,f3,f4,f5,f6⟩:=low_facts n d hd hn hdb
  have hs:(d:Int).sign=1:=Int.sign_eq_one_of_pos (by omega)
  obtain ⟨G,hG⟩:∃ G:Nat,G=Int.gcd n d:=⟨_,rfl⟩
  rw [← hG] at f1 f2 f3 f4 f5 f6
  rw [← f6]
  have HF1:=Lib.hid f1;have HF2:=Lib.hid f2;have HF3:=Lib.hid f3;have HF4:=Lib.hid f4;have HF5:=Lib.hid f5;have HG:=Lib.hid hG;have HN:=Lib.hid hn;have HD:=Lib.hid hdb;have HS:=Lib.hid hs;have HGD:=Lib.hid g
  obtain ⟨D',hD'⟩:∃ D',D'=d / G:=⟨_,rfl⟩
  rw [← hD'] at HF3 HF4 f3
  rw [← hD']
  have l1:=zs_size_le f2 (by omega)
  have l2:=zs_size_le f3 (by omega)
  have hgo:∀ v:ByteArray,Hid (v=⟨(joinl (n / (G:Int)) D').toArray⟩)→((D'=1→v=zs (n / (G:Int)))∧(D'≠1→v=(zs (n / (G:Int)) ++ (⟨#[47]⟩:ByteArray)) ++ zs (D':Int))):=by
    intro v hv
    refine ⟨fun h=>?_,fun h=>?_⟩
    · rw [hv.out];unfold joinl;rw [if_pos h];rfl
    · rw [hv.out,join_bytes];unfold joinl;rw [if_neg h]
  have HV:=Lib.hid (hgo _ (Lib.hid rfl))
  have hlen:(zs n).size≤9→¬ (zs (d:Int)).size≤9:=fun h1 h2=>h ⟨h1,h2⟩
  by_cases c1:(zs n).size≤9
  · have c2:=hlen c1
    have c1':((zs n).size:Int)≤9:=by omega
    have c2':¬ ((zs (d:Int)).size:Int)≤9:=by omega
    by_cases h1:D'=1
    · have g1:=zs_is1 (n:=(D':Int)) (by omega)
      have E:=Lib.hid (HV.out.1 h1)
      clear f1 f2 f3 f4 f5 f6 hG hn hdb hs g h1 hd h hD' hgo hlen HV c1 c2
      go_enter Tryz.func53,Tryz.ntmps53
      go_wp2_with (first
        | (go_at_call 107;refine (fsign_c _ _).mono ?_;rw [HS.out];rintro e w0 ⟨rfl,e0⟩)
        | (go_at_call 51;refine (fgcd_c _ _ _ (HGD.out.ext e0) HN.out HD.out (by omega) (by omega)).mono ?_;rw [← HG.out];rintro e w1 ⟨rfl,e1⟩)
        | (go_at_call 110;((with_reducible refine (fdivmod_c n (G:Int) w1 (HGD.out.ext (e0.trans e1)) HN.out HF1.out (by omega) (by omega) HF5.out).mono ?_);rintro e w2 ⟨rfl,e2⟩))
        | (go_at_call 110;refine (fdivmod_c (d:Int) (G:Int) _ (HGD.out.ext ((e0.trans e1).trans e2)) HD.out HF1.out (by omega) (by omega) HF5.out).mono ?_;rw [HF4.out];rintro e w3 ⟨rfl,e3⟩))
      go_ret
      exact ⟨ret_qs E.out.symm,((e0.trans e1).trans e2).trans e3⟩
    · have g1:=zs_not1 (n:=(D':Int)) (by omega)
      have E:=Lib.hid (HV.out.2 h1)
      clear f1 f2 f3 f4 f5 f6 hG hn hdb hs g h1 hd h hD' hgo hlen HV c1 c2
      go_enter Tryz.func53,Tryz.ntmps53
      go_wp2_with (first
        | (go_at_call 107;refine (fsign_c _ _).mono ?_;rw [HS.out];rintro e w0 ⟨rfl,e0⟩)
        | (go_at_call 51;refine (fgcd_c _ _ _ (HGD.out.ext e0) HN.out HD.out (by omega) (by omega)).mono ?_;rw [← HG.out];rintro e w1 ⟨rfl,e1⟩)
        | (go_at_call 110;((with_reducible refine (fdivmod_c n (G:Int) w1 (HGD.out.ext (e0.trans e1)) HN.out HF1.out (by omega) (by omega) HF5.out).mono ?_);rintro e w2 ⟨rfl,e2⟩))
        | (go_at_call 110;refine (fdivmod_c (d:Int) (G:Int) _ (HGD.out.ext ((e0.trans e1).trans e2)) HD.out HF1.out (by omega) (by omega) HF5.out).mono ?_;rw [HF4.out];rintro e w3 ⟨rfl,e3⟩))
      go_ret
      exact ⟨ret_qs E.out.symm,((e0.trans e1).trans e2).trans e3⟩
  · have c1':¬ ((zs n).size:Int)≤9:=by omega
    by_cases h1:D'=1
    · have g1:=zs_is1 (n:=(D':Int)) (by omega)
      have E:=Lib.hid (HV.out.1 h1)
      clear f1 f2 f3 f4 f5 f6 hG hn hdb hs g h1 hd h hD' hgo hlen HV c1
      go_enter Tryz.func53,Tryz.ntmps53
      go_wp2_with (first
        | (go_at_call 107;refine (fsign_c _ _).mono ?_;rw [HS.out];rintro e w0 ⟨rfl,e0⟩)
        | (go_at_call 51;refine (fgcd_c _ _ _ (HGD.out.ext e0) HN.out HD.out (by omega) (by omega)).mono ?_;rw [← HG.out];rintro e w1 ⟨rfl,e1⟩)
        | (go_at_call 110;((with_reducible refine (fdivmod_c n (G:Int) w1 (HGD.out.ext (e0.trans e1)) HN.out HF1.out (by omega) (by omega) HF5.out).mono ?_);rintro e w2 ⟨rfl,e2⟩))
        | (go_at_call 110;refine (fdivmod_c (d:Int) (G:Int) _ (HGD.out.ext ((e0.trans e1).trans e2)) HD.out HF1.out (by omega) (by omega) HF5.out).mono ?_;rw [HF4.out];rintro e w3 ⟨rfl,e3⟩))
      go_ret
      exact ⟨ret_qs E.out.symm,((e0.trans e1).trans e2).trans e3⟩
    · have g1:=zs_not1 (n:=(D':Int)) (by omega)
      have E:=Lib.hid (HV.out.2 h1)
      clear f1 f2 f3 f4 f5 f6 hG hn hdb hs g h1 hd h hD' hgo hlen HV c1
      go_enter Tryz.func53,Tryz.ntmps53
      go_wp2_with (first
        | (go_at_call 107;refine (fsign_c _ _).mono ?_;rw [HS.out];rintro e w0 ⟨rfl,e0⟩)
        | (go_at_call 51;refine (fgcd_c _ _ _ (HGD.out.ext e0) HN.out HD.out (by omega) (by omega)).mono ?_;rw [← HG.out];rintro e w1 ⟨rfl,e1⟩)
        | (go_at_call 110;((with_reducible refine (fdivmod_c n (G:Int) w1 (HGD.out.ext (e0.trans e1)) HN.out HF1.out (by omega) (by omega) HF5.out).mono ?_);rintro e w2 ⟨rfl,e2⟩))
        | (go_at_call 110;refine (fdivmod_c (d:Int) (G:Int) _ (HGD.out.ext ((e0.trans e1).trans e2)) HD.out HF1.out (by omega) (by omega) HF5.out).mono ?_;rw [HF4.out];rintro e w3 ⟨rfl,e3⟩))
      go_ret
      exact ⟨ret_qs E.out.symm,((e0.trans e1).trans e2).trans e3⟩

theorem ffrac_c (n : Int) (d : Nat) {k m : Nat} (w : World) (g : Gd w) (hd : d ≠ 0) (hn : IB k n) (hdb : IB m (d : Int)) (hk : k ≤ 8000) (hm : m ≤ 8000) :
    Calls Tryz.prog 53 #[.string (zs n),.string (zs (d:Int))] w (Ret w (.string (qs (mkRat n d)))):=by
  by_cases h:(zs n).size≤9∧(zs (d:Int)).size≤9
  · exact ffrac_small n d w g hd h.1 h.2
  · exact ffrac_big n d w g hd hn hdb hk hm h

theorem fqof_c (n : Int) (d : Nat) (w : World) (g : Gd w) (hd : d ≠ 0) (h0 : -9223372036854775808 ≤ n) (h1 : n ≤ 9223372036854775807) (h2 : (d : Int) ≤ 9223372036854775807) :
    Calls Tryz.prog 18 #[.int .i64 n,.int .i64 (d:Int)] w (Ret w (.string (qs (mkRat n d)))):=by
  have HG:=Lib.hid g;have HD:=Lib.hid hd
  have I1:Hid (IB 20 n):=Lib.hid ⟨by omega⟩
  have I2:Hid (IB 20 (d:Int)):=Lib.hid ⟨by omega⟩
  clear g hd
  have d0:(0:Int)≤d:=by omega
  go_enter Tryz.func18,Tryz.ntmps18
  go_wp2_with (first
    | (go_at_call 54;((with_reducible refine (fof_c n (by omega) (by omega) w HG.out).mono ?_);rintro e w1 ⟨rfl,e1⟩))
    | (go_at_call 54;refine (fof_c (d:Int) (by omega) (by omega) _ (HG.out.ext e1)).mono ?_;rintro e w2 ⟨rfl,e2⟩)
    | (go_at_call 53;refine (ffrac_c n d _ (HG.out.ext (e1.trans e2)) HD.out I1.out I2.out (by omega) (by omega)).mono ?_;rintro e w3 ⟨rfl,e3⟩))
  go_ret
  exact ⟨rfl,(e1.trans e2).trans e3⟩

end Go.Proofs.YtjeimihnoiephaaGreatDoor

namespace Go.Proofs.YtjeimihnoiephaaGreatDoor
open Go Go.RowKit
theorem flow_c (n D : Int) (d : Nat) (w : World) (g : Gd w) (hD : D = (d : Int)) (hn : n.natAbs ≤ 4000000000000000000) (hd : d ≠ 0) (hd2 : d ≤ 4000000000000000000) :
    Calls Tryz.prog 112 #[.int .i64 n,.int .i64 D] w (Ret w (.string (qs (mkRat n d)))):=by
  subst hD;exact flowest_c n d w g hn hd hd2

set_option maxHeartbeats 1000000 in
theorem fqadd_quick (a b:Rat) (w:World) (g:Gd w) (ha9:(qs a).size≤9) (hb9:(qs b).size≤9):Calls Tryz.prog 123 #[.string (qs a),.string (qs b)] w (Ret w (.string (qs (a+b)))):=by
  have ha:=qs_small9 ha9
  have hb:=qs_small9 hb9
  have E:=Lib.hid (Rat.add_def' a b)
  have HA:=Lib.hid ha9;have HB:=Lib.hid hb9;have HG:=Lib.hid g
  obtain ⟨p1,p2⟩:=prod_bd (a:=a.num) (b:=(b.den:Int)) ha.1 (by rw [Int.natAbs_natCast];exact hb.2)
  obtain ⟨p3,p4⟩:=prod_bd (a:=b.num) (b:=(a.den:Int)) hb.1 (by rw [Int.natAbs_natCast];exact ha.2)
  obtain ⟨p5,p6⟩:=prod_bd (a:=(a.den:Int)) (b:=(b.den:Int)) (by rw [Int.natAbs_natCast];exact ha.2) (by rw [Int.natAbs_natCast];exact hb.2)
  have p7:=nprod_bd ha.2 hb.2
  have P7:=Lib.hid p7
  have P8:=Lib.hid (Nat.mul_ne_zero a.den_nz b.den_nz)
  have P9:=Lib.hid (Int.natCast_mul a.den b.den).symm
  clear ha hb ha9 hb9 g p7
  go_enter Tryz.func123,Tryz.ntmps123
  go_wp2_with (first
    | (go_at_call 111;((with_reducible refine (fbrief_yes a _ HA.out).mono ?_);rintro e w' ⟨rfl,rfl⟩))
    | (go_at_call 111;refine (fbrief_yes b _ HB.out).mono ?_;rintro e w' ⟨rfl,rfl⟩)
    | (go_at_call 112;refine (flow_c (a.num*b.den+b.num*a.den) _ (a.den*b.den) _ HG.out P9.out (by omega) P8.out (by have:=P7.out;omega)).mono ?_;rintro e w1 ⟨rfl,e1⟩))
  go_ret
  exact ⟨ret_qs (by rw [E.out]),e1⟩

set_option maxHeartbeats 2000000 in
theorem fqadd_big (a b:Rat) {k m:Nat} (w:World) (g:Gd w) (qa:QB k a) (qb:QB m b) (hk:k≤3000) (hm:m≤3000) (h:¬ ((qs a).size≤9∧(qs b).size≤9)):Calls Tryz.prog 123 #[.string (qs a),.string (qs b)] w (Ret w (.string (qs (a+b)))):=by
  have E:=Lib.hid (Rat.add_def' a b)
  have HG:=Lib.hid g
  have QA:=Lib.hid qa;have QB':=Lib.hid qb
  have P8:=Lib.hid (Nat.mul_ne_zero a.den_nz b.den_nz)
  have P9:Hid ((a.den:Int)*(b.den:Int)=((a.den*b.den:Nat):Int)):=Lib.hid (Int.natCast_mul a.den b.den).symm
  have IBD:Hid (IB (k+m) ((a.den*b.den:Nat):Int)):=Lib.hid (by rw [← P9.out];exact qa.denIB.mul qb.denIB)
  clear g qa qb
  by_cases hsa:(qs a).size≤9
  · have hsb:(9:Int)<(qs b).size:=by have:¬ (qs b).size≤9:=fun e=>h ⟨hsa,e⟩;omega
    have HA:=Lib.hid hsa;have HB:=Lib.hid hsb
    clear h hsa hsb
    go_enter Tryz.func123,Tryz.ntmps123
    go_wp2_with (first
      | (go_at_call 111;((with_reducible refine (fbrief_yes a _ HA.out).mono ?_);rintro e w' ⟨rfl,rfl⟩))
      | (go_at_call 111;refine (fbrief_no _ _ HB.out).mono ?_;rintro e w' ⟨rfl,rfl⟩)
      | (go_at_call 47;((with_reducible refine (fqparts_c a w QA.out (by omega)).mono ?_);rintro e w1 ⟨rfl,e1⟩))
      | (go_at_call 47;refine (fqparts_c b w1 QB'.out (by omega)).mono ?_;rintro e w2 ⟨rfl,e2⟩;have e12:=Ext.trans e1 e2)
      | (go_at_call 113;((with_reducible refine (fmul_c a.num b.den w2 (HG.out.ext e12) QA.out.numIB QB'.out.denIB (by omega) (by omega)).mono ?_);rintro e w3 ⟨rfl,e3⟩;have e13:=e12.trans e3))
      | (go_at_call 113;((with_reducible refine (fmul_c b.num a.den w3 (HG.out.ext e13) QB'.out.numIB QA.out.denIB (by omega) (by omega)).mono ?_);rintro e w4 ⟨rfl,e4⟩;have e14:=e13.trans e4))
      | (go_at_call 153;refine (fadd_c _ _ _ (HG.out.ext e14) (QA.out.numIB.mul QB'.out.denIB) (QB'.out.numIB.mul QA.out.denIB) (by omega) (by omega)).mono ?_;rintro e w5 ⟨rfl,e5⟩;have e15:=e14.trans e5)
      | (go_at_call 113;refine (fmul_c (a.den:Int) b.den _ (HG.out.ext e15) QA.out.denIB QB'.out.denIB (by omega) (by omega)).mono ?_;rw [P9.out];rintro e w6 ⟨rfl,e6⟩;have e16:=e15.trans e6)
      | (go_at_call 53;refine (ffrac_c _ (a.den*b.den) _ (HG.out.ext e16) P8.out ((QA.out.numIB.mul QB'.out.denIB).add (QB'.out.numIB.mul QA.out.denIB)) IBD.out (by omega) (by omega)).mono ?_;rintro e w7 ⟨rfl,e7⟩))
    go_ret
    exact ⟨ret_qs (by rw [E.out]),e16.trans e7⟩
  · have HA:Hid ((9:Int)<(qs a).size):=Lib.hid (by omega)
    clear h hsa
    go_enter Tryz.func123,Tryz.ntmps123
    go_wp2_with (first
      | (go_at_call 111;refine (fbrief_no _ _ HA.out).mono ?_;rintro e w' ⟨rfl,rfl⟩)
      | (go_at_call 47;((with_reducible refine (fqparts_c a w QA.out (by omega)).mono ?_);rintro e w1 ⟨rfl,e1⟩))
      | (go_at_call 47;refine (fqparts_c b w1 QB'.out (by omega)).mono ?_;rintro e w2 ⟨rfl,e2⟩;have e12:=Ext.trans e1 e2)
      | (go_at_call 113;((with_reducible refine (fmul_c a.num b.den w2 (HG.out.ext e12) QA.out.numIB QB'.out.denIB (by omega) (by omega)).mono ?_);rintro e w3 ⟨rfl,e3⟩;have e13:=e12.trans e3))
      | (go_at_call 113;((with_reducible refine (fmul_c b.num a.den w3 (HG.out.ext e13) QB'.out.numIB QA.out.denIB (by omega) (by omega)).mono ?_);rintro e w4 ⟨rfl,e4⟩;have e14:=e13.trans e4))
      | (go_at_call 153;refine (fadd_c _ _ _ (HG.out.ext e14) (QA.out.numIB.mul QB'.out.denIB) (QB'.out.numIB.mul QA.out.denIB) (by omega) (by omega)).mono ?_;rintro e w5 ⟨rfl,e5⟩;have e15:=e14.trans e5)
      | (go_at_call 113;refine (fmul_c (a.den:Int) b.den _ (HG.out.ext e15) QA.out.denIB QB'.out.denIB (by omega) (by omega)).mono ?_;rw [P9.out];rintro e w6 ⟨rfl,e6⟩;have e16:=e15.trans e6)
      | (go_at_call 53;refine (ffrac_c _ (a.den*b.den) _ (HG.out.ext e16) P8.out ((QA.out.numIB.mul QB'.out.denIB).add (QB'.out.numIB.mul QA.out.denIB)) IBD.out (by omega) (by omega)).mono ?_;rintro e w7 ⟨rfl,e7⟩))
    go_ret
    exact ⟨ret_qs (by rw [E.out]),e16.trans e7⟩

theorem fqadd_c (a b:Rat) {k m:Nat} (w:World) (g:Gd w) (qa:QB k a) (qb:QB m b) (hk:k≤3000) (hm:m≤3000):Calls Tryz.prog 123 #[.string (qs a),.string (qs b)] w (Ret w (.string (qs (a+b)))):=by
  by_cases h:(qs a).size≤9∧(qs b).size≤9
  · exact fqadd_quick a b w g h.1 h.2
  · exact fqadd_big a b w g qa qb hk hm h

set_option maxHeartbeats 1000000 in
theorem fqmul_quick (a b:Rat) (w:World) (g:Gd w) (ha9:(qs a).size≤9) (hb9:(qs b).size≤9):Calls Tryz.prog 52 #[.string (qs a),.string (qs b)] w (Ret w (.string (qs (a*b)))):=by
  have ha:=qs_small9 ha9
  have hb:=qs_small9 hb9
  have E:=Lib.hid (Rat.mul_def' a b)
  have HA:=Lib.hid ha9;have HB:=Lib.hid hb9;have HG:=Lib.hid g
  obtain ⟨p1,p2⟩:=prod_bd (a:=a.num) (b:=b.num) ha.1 hb.1
  obtain ⟨p5,p6⟩:=prod_bd (a:=(a.den:Int)) (b:=(b.den:Int)) (by rw [Int.natAbs_natCast];exact ha.2) (by rw [Int.natAbs_natCast];exact hb.2)
  have p7:=nprod_bd ha.2 hb.2
  have P7:=Lib.hid p7
  have P8:=Lib.hid (Nat.mul_ne_zero a.den_nz b.den_nz)
  have P9:=Lib.hid (Int.natCast_mul a.den b.den).symm
  clear ha hb ha9 hb9 g p7
  go_enter Tryz.func52,Tryz.ntmps52
  go_wp2_with (first
    | (go_at_call 111;((with_reducible refine (fbrief_yes a _ HA.out).mono ?_);rintro e w' ⟨rfl,rfl⟩))
    | (go_at_call 111;refine (fbrief_yes b _ HB.out).mono ?_;rintro e w' ⟨rfl,rfl⟩)
    | (go_at_call 112;refine (flow_c (a.num*b.num) _ (a.den*b.den) _ HG.out P9.out (by omega) P8.out (by have:=P7.out;omega)).mono ?_;rintro e w1 ⟨rfl,e1⟩))
  go_ret
  exact ⟨ret_qs (by rw [E.out]),e1⟩

set_option maxHeartbeats 2000000 in
theorem fqmul_big (a b:Rat) {k m:Nat} (w:World) (g:Gd w) (qa:QB k a) (qb:QB m b) (hk:k≤3000) (hm:m≤3000) (h:¬ ((qs a).size≤9∧(qs b).size≤9)):Calls Tryz.prog 52 #[.string (qs a),.string (qs b)] w (Ret w (.string (qs (a*b)))):=by
  have E:=Lib.hid (Rat.mul_def' a b)
  have HG:=Lib.hid g
  have QA:=Lib.hid qa;have QB':=Lib.hid qb
  have P8:=Lib.hid (Nat.mul_ne_zero a.den_nz b.den_nz)
  have P9:Hid ((a.den:Int)*(b.den:Int)=((a.den*b.den:Nat):Int)):=Lib.hid (Int.natCast_mul a.den b.den).symm
  have IBD:Hid (IB (k+m) ((a.den*b.den:Nat):Int)):=Lib.hid (by rw [← P9.out];exact qa.denIB.mul qb.denIB)
  clear g qa qb
  by_cases hsa:(qs a).size≤9
  · have hsb:(9:Int)<(qs b).size:=by have:¬ (qs b).size≤9:=fun e=>h ⟨hsa,e⟩;omega
    have HA:=Lib.hid hsa;have HB:=Lib.hid hsb
    clear h hsa hsb
    go_enter Tryz.func52,Tryz.ntmps52
    go_wp2_with (first
      | (go_at_call 111;((with_reducible refine (fbrief_yes a _ HA.out).mono ?_);rintro e w' ⟨rfl,rfl⟩))
      | (go_at_call 111;refine (fbrief_no _ _ HB.out).mono ?_;rintro e w' ⟨rfl,rfl⟩)
      | (go_at_call 47;((with_reducible refine (fqparts_c a w QA.out (by omega)).mono ?_);rintro e w1 ⟨rfl,e1⟩))
      | (go_at_call 47;refine (fqparts_c b w1 QB'.out (by omega)).mono ?_;rintro e w2 ⟨rfl,e2⟩;have e12:=Ext.trans e1 e2)
      | (go_at_call 113;((with_reducible refine (fmul_c a.num b.num w2 (HG.out.ext e12) QA.out.numIB QB'.out.numIB (by omega) (by omega)).mono ?_);rintro e w3 ⟨rfl,e3⟩;have e15:=e12.trans e3))
      | (go_at_call 113;refine (fmul_c (a.den:Int) b.den _ (HG.out.ext e15) QA.out.denIB QB'.out.denIB (by omega) (by omega)).mono ?_;rw [P9.out];rintro e w6 ⟨rfl,e6⟩;have e16:=e15.trans e6)
      | (go_at_call 53;refine (ffrac_c _ (a.den*b.den) _ (HG.out.ext e16) P8.out (QA.out.numIB.mul QB'.out.numIB) IBD.out (by omega) (by omega)).mono ?_;rintro e w7 ⟨rfl,e7⟩))
    go_ret
    exact ⟨ret_qs (by rw [E.out]),e16.trans e7⟩
  · have HA:Hid ((9:Int)<(qs a).size):=Lib.hid (by omega)
    clear h hsa
    go_enter Tryz.func52,Tryz.ntmps52
    go_wp2_with (first
      | (go_at_call 111;refine (fbrief_no _ _ HA.out).mono ?_;rintro e w' ⟨rfl,rfl⟩)
      | (go_at_call 47;((with_reducible refine (fqparts_c a w QA.out (by omega)).mono ?_);rintro e w1 ⟨rfl,e1⟩))
      | (go_at_call 47;refine (fqparts_c b w1 QB'.out (by omega)).mono ?_;rintro e w2 ⟨rfl,e2⟩;have e12:=Ext.trans e1 e2)
      | (go_at_call 113;((with_reducible refine (fmul_c a.num b.num w2 (HG.out.ext e12) QA.out.numIB QB'.out.numIB (by omega) (by omega)).mono ?_);rintro e w3 ⟨rfl,e3⟩;have e15:=e12.trans e3))
      | (go_at_call 113;refine (fmul_c (a.den:Int) b.den _ (HG.out.ext e15) QA.out.denIB QB'.out.denIB (by omega) (by omega)).mono ?_;rw [P9.out];rintro e w6 ⟨rfl,e6⟩;have e16:=e15.trans e6)
      | (go_at_call 53;refine (ffrac_c _ (a.den*b.den) _ (HG.out.ext e16) P8.out (QA.out.numIB.mul QB'.out.numIB) IBD.out (by omega) (by omega)).mono ?_;rintro e w7 ⟨rfl,e7⟩))
    go_ret
    exact ⟨ret_qs (by rw [E.out]),e16.trans e7⟩

theorem fqmul_c (a b:Rat) {k m:Nat} (w:World) (g:Gd w) (qa:QB k a) (qb:QB m b) (hk:k≤3000) (hm:m≤3000):Calls Tryz.prog 52 #[.string (qs a),.string (qs b)] w (Ret w (.string (qs (a*b)))):=by
  by_cases h:(qs a).size≤9∧(qs b).size≤9
  · exact fqmul_quick a b w g h.1 h.2
  · exact fqmul_big a b w g qa qb hk hm h

end Go.Proofs.YtjeimihnoiephaaGreatDoor

namespace Go.Proofs.YtjeimihnoiephaaGreatDoor
open Go Go.RowKit
set_option maxHeartbeats 1000000 in
theorem fqright_bad (s x y : ByteArray) (w : World) (lx : x.size ≤ 1000000) (_ly : y.size ≤ 1000000) (hc : ∀ w, Calls Tryz.prog 47 #[.string s] w fun e w' => e = .returned (.tuple #[.string x, .string y]) ∧ Ext w w') (hx : ¬ RightI x.data.toList) :
    Calls Tryz.prog 16 #[.string s] w (Ret w (.bool false)):=by
  have HX:=Lib.hid hx
  clear hx
  go_enter Tryz.func16,Tryz.ntmps16
  go_wp2_with (first
    | (go_at_call 47;refine (hc _).mono ?_;rintro e w1 ⟨rfl,e1⟩)
    | (go_at_call 48;((with_reducible refine (fright_c x false w1 lx ⟨fun h=>absurd h HX.out,fun _=>rfl⟩).mono ?_);rintro e w2 ⟨rfl,e2⟩)))
  go_ret
  exact ⟨rfl,e1.trans e2⟩

set_option maxHeartbeats 1000000 in
theorem fqright_den (s x y : ByteArray) (w : World) (lx : x.size ≤ 1000000) (ly : y.size ≤ 1000000) (hc : ∀ w, Calls Tryz.prog 47 #[.string s] w fun e w' => e = .returned (.tuple #[.string x, .string y]) ∧ Ext w w') (hx : RightI x.data.toList) (hy : ¬ RightI y.data.toList) :
    Calls Tryz.prog 16 #[.string s] w (Ret w (.bool false)):=by
  have HX:=Lib.hid hx
  have HY:=Lib.hid hy
  clear hx hy
  go_enter Tryz.func16,Tryz.ntmps16
  go_wp2_with (first
    | (go_at_call 47;refine (hc _).mono ?_;rintro e w1 ⟨rfl,e1⟩)
    | (go_at_call 48;((with_reducible refine (fright_c x true w1 lx ⟨fun _=>rfl,fun h=>absurd HX.out h⟩).mono ?_);rintro e w2 ⟨rfl,e2⟩))
    | (go_at_call 48;refine (fright_c y false w2 ly ⟨fun h=>absurd h HY.out,fun _=>rfl⟩).mono ?_;rintro e w3 ⟨rfl,e3⟩))
  go_ret
  exact ⟨rfl,(e1.trans e2).trans e3⟩

set_option maxHeartbeats 1000000 in
theorem fqright_whole (s x y : ByteArray) (w : World) (lx : x.size ≤ 1000000) (ly : y.size ≤ 1000000) (hc : ∀ w, Calls Tryz.prog 47 #[.string s] w fun e w' => e = .returned (.tuple #[.string x, .string y]) ∧ Ext w w') (hx : RightI x.data.toList) (hy : RightI y.data.toList) (hi : ∀ w, Calls Tryz.prog 49 #[.string s, .int .u8 47] w fun e w' => e = .returned (.int .i64 (-1)) ∧ w = w') :
    Calls Tryz.prog 16 #[.string s] w (Ret w (.bool true)):=by
  have HX:=Lib.hid hx
  have HY:=Lib.hid hy
  clear hx hy
  go_enter Tryz.func16,Tryz.ntmps16
  go_wp2_with (first
    | (go_at_call 47;refine (hc _).mono ?_;rintro e w1 ⟨rfl,e1⟩)
    | (go_at_call 48;((with_reducible refine (fright_c x true w1 lx ⟨fun _=>rfl,fun h=>absurd HX.out h⟩).mono ?_);rintro e w2 ⟨rfl,e2⟩))
    | (go_at_call 48;refine (fright_c y true w2 ly ⟨fun _=>rfl,fun h=>absurd HY.out h⟩).mono ?_;rintro e w3 ⟨rfl,e3⟩)
    | (go_at_call 49;refine (hi _).mono ?_;rintro e w4 ⟨rfl,rfl⟩))
  go_ret
  exact ⟨rfl,(e1.trans e2).trans e3⟩

set_option maxHeartbeats 1000000 in
theorem fqright_num (s : ByteArray) (a b : Int) (n : Nat) (v : Bool) (w : World) (g : Gd w) (lx : (zs a).size ≤ 1000000) (ly : (zs b).size ≤ 1000000) (hc : ∀ w, Calls Tryz.prog 47 #[.string s] w fun e w' => e = .returned (.tuple #[.string (zs a), .string (zs b)]) ∧ Ext w w')
    (hi:∀ w,Calls Tryz.prog 49 #[.string s,.int .u8 47] w fun e w'=>e = .returned (.int .i64 (n:Int))∧w=w')
    (ha:(Lib.decDigits a.natAbs).length≤200) (hb:(Lib.decDigits b.natAbs).length≤200)
    (hv:(1<b∧a≠0∧Int.gcd a b=1→v=true)∧(¬ (1<b∧a≠0∧Int.gcd a b=1)→v=false)) :
    Calls Tryz.prog 16 #[.string s] w (Ret w (.bool v)):=by
  have HA:=Lib.hid (IB.of_len ha);have HB:=Lib.hid (IB.of_len hb)
  have RA:Hid (RightI (zs a).data.toList):=Lib.hid (by rw [zs_list];exact right_zl.2 ha)
  have RB:Hid (RightI (zs b).data.toList):=Lib.hid (by rw [zs_list];exact right_zl.2 hb)
  have one:zs 1=⟨#[49]⟩:=zs_one
  have HCC:Hid (∀ w,Gd w→Calls Tryz.prog 50 #[.string (zs b),.string ⟨#[49]⟩] w (Ret w (.int .i64 (icmp b 1)))):=Lib.hid (fun w g=>by have:=fcompare_c b 1 w g HB.out (m:=1) ⟨by decide⟩ (by decide) (by decide);rw [one] at this;exact this)
  clear one ha hb
  have hn0:(0:Int)≤n:=by omega
  have hn1:¬ (n:Int)<0:=by omega
  obtain ⟨c,hcc⟩:∃ c,c=icmp b 1:=⟨_,rfl⟩
  have HC1:=Lib.hid hcc
  by_cases h1:1<b
  · have hc1:0<c:=by rw [hcc,icmp_gt h1];omega
    by_cases h2:a=0
    · have hv2:=hv.2 (fun h=>h.2.1 h2)
      have HV:=Lib.hid hv2
      have z1:=zs_is0 h2;have z2:=zs_nis0 h2
      clear hv hv2 hcc h1 h2
      go_enter Tryz.func16,Tryz.ntmps16
      go_wp2_with (first
        | (go_at_call 47;refine (hc _).mono ?_;rintro e w1 ⟨rfl,e1⟩)
        | (go_at_call 48;((with_reducible refine (fright_c (zs a) true w1 lx ⟨fun _=>rfl,fun h=>absurd RA.out h⟩).mono ?_);rintro e w2 ⟨rfl,e2⟩))
        | (go_at_call 48;refine (fright_c (zs b) true w2 ly ⟨fun _=>rfl,fun h=>absurd RB.out h⟩).mono ?_;rintro e w3 ⟨rfl,e3⟩)
        | (go_at_call 49;refine (hi _).mono ?_;rintro e w4 ⟨rfl,rfl⟩)
        | (go_at_call 50;refine (HCC.out _ (g.ext ((e1.trans e2).trans e3))).mono ?_;rw [← HC1.out];rintro e w5 ⟨rfl,e5⟩))
      go_ret
      exact ⟨by rw [HV.out];rfl,((e1.trans e2).trans e3).trans e5⟩
    · have z1:=zs_not0 h2;have z2:=zs_nnot0 h2
      obtain ⟨G,hG⟩:∃ G:Nat,G=Int.gcd a b:=⟨_,rfl⟩
      have HG:=Lib.hid hG
      by_cases h3:(G:Int)=1
      · have hv2:=hv.1 ⟨h1,h2,by omega⟩
        have HV:=Lib.hid hv2
        have z3:=zs_is1 h3;have z4:=zs_nis1 h3
        clear hv hv2 hcc h1 h2 h3 hG
        go_enter Tryz.func16,Tryz.ntmps16
        go_wp2_with (first
          | (go_at_call 47;refine (hc _).mono ?_;rintro e w1 ⟨rfl,e1⟩)
          | (go_at_call 48;((with_reducible refine (fright_c (zs a) true w1 lx ⟨fun _=>rfl,fun h=>absurd RA.out h⟩).mono ?_);rintro e w2 ⟨rfl,e2⟩))
          | (go_at_call 48;refine (fright_c (zs b) true w2 ly ⟨fun _=>rfl,fun h=>absurd RB.out h⟩).mono ?_;rintro e w3 ⟨rfl,e3⟩)
          | (go_at_call 49;refine (hi _).mono ?_;rintro e w4 ⟨rfl,rfl⟩)
          | (go_at_call 50;refine (HCC.out _ (g.ext ((e1.trans e2).trans e3))).mono ?_;rw [← HC1.out];rintro e w5 ⟨rfl,e5⟩)
          | (go_at_call 51;refine (fgcd_c a b _ (g.ext (((e1.trans e2).trans e3).trans e5)) HA.out HB.out (by decide) (by decide)).mono ?_;rw [← HG.out];rintro e w6 ⟨rfl,e6⟩))
        go_ret
        exact ⟨by rw [HV.out];rfl,(((e1.trans e2).trans e3).trans e5).trans e6⟩
      · have hv2:=hv.2 (fun h=>h3 (by have:=h.2.2;omega))
        have HV:=Lib.hid hv2
        have z3:=zs_not1 h3;have z4:=zs_nnot1 h3
        clear hv hv2 hcc h1 h2 h3 hG
        go_enter Tryz.func16,Tryz.ntmps16
        go_wp2_with (first
          | (go_at_call 47;refine (hc _).mono ?_;rintro e w1 ⟨rfl,e1⟩)
          | (go_at_call 48;((with_reducible refine (fright_c (zs a) true w1 lx ⟨fun _=>rfl,fun h=>absurd RA.out h⟩).mono ?_);rintro e w2 ⟨rfl,e2⟩))
          | (go_at_call 48;refine (fright_c (zs b) true w2 ly ⟨fun _=>rfl,fun h=>absurd RB.out h⟩).mono ?_;rintro e w3 ⟨rfl,e3⟩)
          | (go_at_call 49;refine (hi _).mono ?_;rintro e w4 ⟨rfl,rfl⟩)
          | (go_at_call 50;refine (HCC.out _ (g.ext ((e1.trans e2).trans e3))).mono ?_;rw [← HC1.out];rintro e w5 ⟨rfl,e5⟩)
          | (go_at_call 51;refine (fgcd_c a b _ (g.ext (((e1.trans e2).trans e3).trans e5)) HA.out HB.out (by decide) (by decide)).mono ?_;rw [← HG.out];rintro e w6 ⟨rfl,e6⟩))
        go_ret
        exact ⟨by rw [HV.out];rfl,(((e1.trans e2).trans e3).trans e5).trans e6⟩
  · have hc1:¬ 0<c:=by
      rw [hcc]
      by_cases h:b=1
      · subst h;rw [icmp_eq];omega
      · rw [icmp_lt (by omega)];omega
    have hv2:=hv.2 (fun h=>h1 h.1)
    have HV:=Lib.hid hv2
    clear hv hv2 hcc h1
    go_enter Tryz.func16,Tryz.ntmps16
    go_wp2_with (first
      | (go_at_call 47;refine (hc _).mono ?_;rintro e w1 ⟨rfl,e1⟩)
      | (go_at_call 48;((with_reducible refine (fright_c (zs a) true w1 lx ⟨fun _=>rfl,fun h=>absurd RA.out h⟩).mono ?_);rintro e w2 ⟨rfl,e2⟩))
      | (go_at_call 48;refine (fright_c (zs b) true w2 ly ⟨fun _=>rfl,fun h=>absurd RB.out h⟩).mono ?_;rintro e w3 ⟨rfl,e3⟩)
      | (go_at_call 49;refine (hi _).mono ?_;rintro e w4 ⟨rfl,rfl⟩)
      | (go_at_call 50;refine (HCC.out _ (g.ext ((e1.trans e2).trans e3))).mono ?_;rw [← HC1.out];rintro e w5 ⟨rfl,e5⟩))
    go_ret
    exact ⟨by rw [HV.out];rfl,((e1.trans e2).trans e3).trans e5⟩

theorem fqright_c (s : ByteArray) (w : World) (g : Gd w) (v : Bool) (hl : s.size ≤ 1000000) (hv : (RightQ s.data.toList → v = true) ∧ (¬ RightQ s.data.toList → v = false)) :
    Calls Tryz.prog 16 #[.string s] w (Ret w (.bool v)):=by
  have hszl:s.size=s.data.toList.length:=by rw [Array.length_toList];rfl
  rcases slash_cases s.data.toList with hn|⟨x,y,hs,hx⟩
  · have hc:=fun w=>fcut_none s w hn
    have r1:RightI (⟨#[49]⟩:ByteArray).data.toList:=⟨1,by rw [← zs_one,zs_list],by rw [show (1:Int).natAbs=1 from rfl,dec_one];decide⟩
    by_cases h:RightI s.data.toList
    · rw [hv.1 ((rightQ_none hn).2 h)]
      exact fqright_whole s s ⟨#[49]⟩ w hl (by decide) hc h r1 (fun w=>idx_none s w hn)
    · rw [hv.2 (fun e=>h ((rightQ_none hn).1 e))]
      exact fqright_bad s s _ w hl (by decide) hc h
  · have hc:=fun w=>fcut_at s x y w hs hx hl
    have hi:=fun w=>idx_at s x y w hs hx
    have hq:=rightQ_at hs hx
    have hlen:x.length+y.length<s.size:=by rw [hszl,hs,List.length_append,List.length_cons];omega
    have lx:(⟨x.toArray⟩:ByteArray).size≤1000000:=by rw [size_list];simp only;omega
    have ly:(⟨y.toArray⟩:ByteArray).size≤1000000:=by rw [size_list];simp only;omega
    by_cases h1:RightI x
    · by_cases h2:RightI y
      · obtain ⟨a,rfl,ha⟩:=h1
        obtain ⟨b,rfl,hb⟩:=h2
        refine fqright_num s a b _ v w g lx ly hc hi ha hb ⟨fun ⟨k1,k2,k3⟩=>hv.1 (hq.2 ⟨a,b.natAbs,rfl,?_,ha,hb,by omega,k2,?_⟩),fun hh=>hv.2 (fun e=>hh ?_)⟩
        · rw [show ((b.natAbs:Nat):Int)=b by omega]
        · rw [show ((b.natAbs:Nat):Int)=b by omega];exact k3
        · obtain ⟨a',b',e1,e2,_,_,k1,k2,k3⟩:=hq.1 e
          have:=zl_inj e1;have:=zl_inj e2
          subst_vars
          exact ⟨by omega,k2,k3⟩
      · rw [hv.2 (fun e=>by obtain ⟨a,b,e1,e2,_,h4,_⟩:=hq.1 e;exact h2 ⟨b,e2,by simpa using h4⟩)]
        exact fqright_den s ⟨x.toArray⟩ ⟨y.toArray⟩ w lx ly hc (by simpa using h1) (by simpa using h2)
    · rw [hv.2 (fun e=>by obtain ⟨a,b,e1,e2,h3,_⟩:=hq.1 e;exact h1 ⟨a,e1,h3⟩)]
      exact fqright_bad s ⟨x.toArray⟩ ⟨y.toArray⟩ w lx ly hc (by simpa using h1)
end Go.Proofs.YtjeimihnoiephaaGreatDoor
