/- Joined of SAccV SLim. No condition. -/
import Derived.Test.YtfbkkmnkpjgciaaGreatPG10
namespace Go.Proofs.YtfbkkmnkpjgciaaGreat
open Go.RowKit
theorem ZeM (t:TypeId) (a b:ByteArray):binOp .leq t (.string a) (.string b)=pure (.bool (Op.bytesLess a.toList b.toList || (a.toList==b.toList))):=by simp [binOp,Op.stringOp]
theorem run_leq_str (w:World) (a b:List UInt8) (r:Bool) (hr:leqL a b=r):(binOp .leq 9 (.string ⟨a.toArray⟩) (.string ⟨b.toArray⟩)).run Tryz.prog w=.ok (.bool r) w:=by
 rw [ZeM,← hr]
 simp [leqL]
theorem alloc_chn (w:World):(Instr.alloc 54 true (.tuple #[])).run Tryz.prog w=.ok (.pointer (some ⟨w.heap.size,0,none⟩)) (w.alloc (.cells #[.int .i64 0,.int .i64 0] 54)):=by kernel_rfl
theorem chn_info (x:Chn):(Tryz.prog.info? 54).map (·.size)=some x.cs.length:=by
 show (Tryz.prog.info? 54).map (·.size)=some 2
 kernel_rfl
set_option maxRecDepth 100000 in
set_option maxHeartbeats 16000000 in
theorem accv_sx (w:World) (AU:Option Addr) (nU cU:Nat) (AC:Option Addr) (nC cC:Nat) (U:List Usr) (C:List Chn) (hU:UsrL w w.heap.size AU nU U) (hC:ChnL w w.heap.size AC nC C) (hnU:nU≤maxLen) (hnC:nC≤maxLen) (r:Int) (hr:accV U C=r) :
  Calls Tryz.prog 92 #[.agg #[.slice AU nU cU,.slice AC nC cC]] w fun e w'=>e=.returned (.int .i64 r)∧Below w.heap.size w w':=by
 have hlU:=hU.len (by omega)
 have hlC:=hC.len (by omega)
 unfold accV at hr
 rw [hlU,hlC] at hr
 unfold maxLen at hnU hnC
 have HB0:=jd ((Below.refl w.heap.size w).alloc (Nat.le_refl _) (.cells #[.slice AU nU cU,.slice AC nC cC] 33))
 have HK0:=jd (Blk.new w 33 #[.slice AU nU cU,.slice AC nC cC])
 by_cases h8:8 < nU
 ·obtain rfl:3=r:=by rw [← hr]; simp [h8]
  have e1:((8:Int) < (nU:Int))=True:=by simp; omega
  clear hr hU hC hlU hlC
  go_enter Tryz.func92,Tryz.ntmps92
  go_wp2_with fail
  go_ret
  exact ⟨rfl,uh HB0⟩
 have e1:((8:Int) < (nU:Int))=False:=by simp; omega
 by_cases h4:4 < nC
 ·obtain rfl:3=r:=by rw [← hr]; simp [h4]
  have e2:((4:Int) < (nC:Int))=True:=by simp; omega
  clear hr hU hC hlU hlC
  go_enter Tryz.func92,Tryz.ntmps92
  go_wp2_with fail
  go_ret
  exact ⟨rfl,uh HB0⟩
 have e2:((4:Int) < (nC:Int))=False:=by simp; omega
 rw [if_neg (by omega)] at hr
 obtain ⟨E,hE⟩ :∃E,Zbz (errU U) nU 0=E:=⟨_,rfl⟩
 obtain ⟨G,hG⟩ :∃G,Zbz (errC C) nC 0=G:=⟨_,rfl⟩
 rw [hE,hG] at hr
 have HR:=jd hr
 have HE:Hid (Zbz (errU U) (nU - 0) 0=E):=jd hE
 have HG:Hid (Zbz (errC C) (nC - 0) 0=G):=jd hG
 have HU:=jd hU
 have HC:=jd hC
 have HLU:=jd hlU
 have HLC:=jd hlC
 clear hr hE hG hU hC hlU hlC
 go_enter Tryz.func92,Tryz.ntmps92
 go_wp2_with fail
 go_loopw [20] (fun i wr=>∃ k:Nat,k≤nU∧i=.int .i64 k∧Hid (Zbz (errU U) (nU - k) k=E)∧Hid (Blk wr w.heap.size 33 #[.slice AU nU cU,.slice AC nC cC])∧Hid (Below w.heap.size w wr)) (fun i _=>nU - (intOf i).toNat)
 case atStart=>exact ⟨0,by omega,rfl,HE,HK0,HB0⟩
 case round =>
  obtain ⟨k,hk,rfl,hrk,HK,HB⟩:=hrel
  by_cases hlt:k < nU
  ·obtain ⟨g,oo,x,hA,hg,hx,hxo,_,hrg⟩:=((uh HU).below (uh HB)).at_ (by omega) hlt
   have hv:=Zdf (errU U) hlt
   have HRK0:Hid (∀ e,errU U k=e→e≠0→r=e):=jd (fun e he hne=>by
    have h1:=uh hrk
    rw [hv,he,if_neg hne] at h1
    rw [← uh HR,← h1,if_neg hne])
   have HRK1:Hid (errU U k=0→Zbz (errU U) (nU - (k+1)) (k+1)=E):=jd (fun he=>by have h1:=uh hrk; rwa [hv,if_pos he] at h1)
   have HX:=jd hx
   have HXO:=jd hxo
   have HRG:=jd hrg
   have HN:=jd (Blk.new wr 52 zUsr.cs.toArray)
   have HBn:=jd ((uh HB).alloc (uh HB).size (.cells zUsr.cs.toArray 52))
   have HKn:=jd ((uh HK).alloc (.cells zUsr.cs.toArray 52))
   have hlt2:(k:Int) < (nU:Int):=by omega
   have HA:=jd hA
   clear hx hxo hrg hv
   subst hA
   go_upto_region 6 with (first
    | (refine wpList_load_mid rfl 52 (.tmp 23) rfl g (oo+k*19) rfl _ _ (uh HRG) Tryz.underlying52 rfl (usr_info (uh HXO)) ?_)
    | (refine Zag rfl 52 rfl _ wr.heap.size rfl (alloc_usr _) ?_)
    |(refine Zaa rfl 52 (.tmp 4) (.tmp 24) rfl wr.heap.size 52 _ x.cs.toArray rfl rfl (uh HN) (Usr.size_eq (uh HXO)) (usr_infoA (uh HXO)) (fun v hv=>Usr.one v (by simpa using hv)) ?_
      intro w5 hb5 hg5
      have X5:=jd hb5
      have K5:=jd ((uh HKn).grown hg5 (fun e=>by injection e with e; have:=(uh HK).lt; omega))
      have B5:=jd ((uh HBn).grown hg5 (uh HBn).size (fun j e=>by injection e with e; have:=(uh HB).size; omega))
      clear hb5 hg5)
    | fail)
   have hat:=(Usr.blk (uh HXO) (uh X5))
   have c0:=hat.name
   have c18:=hat.limit
   have hux:=(uh HXO).name
   clear hat HBn HKn HN HRG
   obtain ⟨t3,ht3⟩ :∃b,ZbC x.name=b:=⟨_,rfl⟩
   have HNM:=jd ht3
   cases t3
   case false =>
    obtain rfl:r=1:=uh HRK0 1 (by unfold errU; rw [uh HX]; simp [ht3]) (by omega)
    go_wp2_with (first
     | (go_at_call 45; refine (Za3 _ x.name hux _ (uh HNM)).mono ?_; rintro e w' ⟨rfl,rfl⟩)
     | fail)
    go_ret
    exact ⟨rfl,uh B5⟩
   obtain ⟨t4,ht4⟩ :∃b,lvl0 x.limit=b:=⟨_,rfl⟩
   have HLV:=jd ht4
   cases t4
   case false =>
    obtain rfl:r=2:=uh HRK0 2 (by unfold errU; rw [uh HX]; simp [ht3,ht4]) (by omega)
    go_wp2_with (first
     | (go_at_call 45; refine (Za3 _ x.name hux _ (uh HNM)).mono ?_; rintro e w' ⟨rfl,rfl⟩)
     | (go_at_call 108; refine (Zeb _ x.limit _ (uh HLV)).mono ?_; rintro e w' ⟨rfl,rfl⟩)
     | fail)
    go_ret
    exact ⟨rfl,uh B5⟩
   have HT3:=jd ht3
   have HT4:=jd ht4
   clear ht3 ht4
   go_upto_region 10 with (first
     | (go_at_call 45; refine (Za3 _ x.name hux _ (uh HNM)).mono ?_; rintro e w' ⟨rfl,rfl⟩)
     | (go_at_call 108; refine (Zeb _ x.limit _ (uh HLV)).mono ?_; rintro e w' ⟨rfl,rfl⟩)
     | fail)
   rcases k with _ | m
   ·have HNX:=jd (uh HRK1 (by unfold errU; rw [uh HX]; simp [uh HT3,uh HT4]))
    have hS0:(fun _:World=>True) w5.drew:=trivial
    refine wp_region_noPanic (wp_region_held_drew (S:=fun _=>True) (by kernel_rfl) hS0 (fun _=>?_))
    refine tq 0 rfl hS0 ?_
    refine tJz (v:=.bool false) 1 rfl (Or.inl ⟨by rfl,fun wz hSw=>?_⟩) hS0 ?_
    ·skip
     go_simp
    refine tq 2 rfl hS0 ?_
    refine tJz (v:=undef) 3 rfl (Or.inr ⟨by rfl,rfl⟩) hS0 ?_
    refine tJz (v:=undef) 4 rfl (Or.inr ⟨by rfl,rfl⟩) hS0 ?_
    refine tJz (v:=undef) 5 rfl (Or.inr ⟨by rfl,rfl⟩) hS0 ?_
    refine tJz (v:=undef) 6 rfl (Or.inr ⟨by rfl,rfl⟩) hS0 ?_
    refine tJz (v:=undef) 7 rfl (Or.inr ⟨by rfl,rfl⟩) hS0 ?_
    refine tJz (v:=undef) 8 rfl (Or.inr ⟨by rfl,rfl⟩) hS0 ?_
    refine tJz (v:=undef) 9 rfl (Or.inr ⟨by rfl,rfl⟩) hS0 ?_
    refine tJz (v:=undef) 10 rfl (Or.inr ⟨by rfl,rfl⟩) hS0 ?_
    refine tJz (v:=undef) 11 rfl (Or.inr ⟨by rfl,rfl⟩) hS0 ?_
    refine tJz (v:=undef) 12 rfl (Or.inr ⟨by rfl,rfl⟩) hS0 ?_
    refine tJz (v:=.bool false) 13 rfl (Or.inl ⟨by rfl,fun wz hSw=>?_⟩) hS0 ?_
    ·skip
     go_simp
    refine tq 14 rfl hS0 ?_
    refine tDz ?_
    have B6:Hid (Below w.heap.size w w5.drew):=jd (uh B5).drew
    have K6:Hid (Blk w5.drew w.heap.size 33 #[.slice (some ⟨g,oo,none⟩) nU cU,.slice AC nC cC]):=K5
    clear hS0
    go_wp2_with fail
    go_roundw
    case rel=>exact ⟨_,by omega,by go_num,HNX,K6,B6⟩
    case measure=>simp [intOf]; omega
   ·obtain ⟨g',oo',p,hA',hg',hp,hpo,_,hrgp⟩:=((uh HU).below ((uh B5))).at_ (k:=m) (by omega) (by omega)
    injection hA' with hA'
    injection hA' with hA1 hA2 _
    subst hA1
    subst hA2
    have hcp0:=(Usr.range hpo hrgp).name
    have hcp:w5.cell? ⟨g,oo+m*19,none⟩=some (.string ⟨p.name.toArray⟩):=by simpa using hcp0
    have hgw:g < w5.heap.size:=Nat.lt_of_lt_of_le hg (uh B5).size
    obtain ⟨t,ht⟩ :∃t,leqL x.name p.name=t:=⟨_,rfl⟩
    have HP:=jd hp
    have HT:=jd ht
    have HE0:Hid (t=false→errU U (m+1)=0):=jd (fun e=>by unfold errU; rw [uh HX]; simp [uh HT3,uh HT4,uh HP,uh HT,e])
    have HE7:Hid (t=true→errU U (m+1)=7):=jd (fun e=>by unfold errU; rw [uh HX]; simp [uh HT3,uh HT4,uh HP,uh HT,e])
    have hi1:IntKind.i64.wrap ((m:Int)+1 - 1)=(m:Int):=by rw [show (m:Int)+1 - 1=(m:Int) by omega]; exact IntWalk.i64_in _ (by omega)
    have hi0:(m:Int)+1 - 1=(m:Int):=by omega
    have hi9:IntKind.i64.wrap (m:Int)=(m:Int):=IntWalk.i64_in _ (by omega)
    have hi2:(0:Int)≤(m:Int):=by omega
    have hi3:(m:Int) < (nU:Int):=by omega
    have hi4:(0:Int) < (m:Int)+1:=by omega
    have HLEQ:=jd (fun W=>run_leq_str W x.name p.name t ht)
    have hx5:=(uh X5).lt
    have hk5:=(uh K5).lt
    have CP:=jd (fun W (hW:Below w5.heap.size w5 W)=>(hW.cell (p:=⟨g,oo+m*19,none⟩) hgw).trans hcp)
    have CX:=jd (fun W (hW:Below w5.heap.size w5 W)=>(hW.cell (p:=⟨wr.heap.size,0,none⟩) hx5).trans c0)
    have CA:=jd (fun W (hW:Below w5.heap.size w5 W)=>(hW.cell (p:=⟨w.heap.size,0,none⟩) hk5).trans ((uh K5).cell 0))
    clear hcp hcp0 hp hpo hrgp ht c0 c18
    have hS0:Below w5.heap.size w5 w5.drew:=(Below.refl _ _).drew
    refine wp_region_noPanic (wp_region_held_drew (S:=fun wz=>Below w5.heap.size w5 wz) (by kernel_rfl) hS0 (fun _=>?_))
    refine tq 0 rfl hS0 ?_
    refine tJz (v:=.bool true) 1 rfl (Or.inl ⟨by rfl,fun wz hSw=>?_⟩) hS0 ?_
    ·skip
     go_simp
    refine tq 2 rfl hS0 ?_
    refine tq 3 rfl hS0 ?_
    refine tJz (v:=.string ⟨x.name.toArray⟩) 4 rfl (Or.inl ⟨by rfl,fun wz hSw=>?_⟩) hS0 ?_
    ·have hq:=uh CX wz hSw
     go_simp
    refine tq 5 rfl hS0 ?_
    refine tJz (v:=.slice (some ⟨g,oo,none⟩) nU cU) 6 rfl (Or.inl ⟨by rfl,fun wz hSw=>?_⟩) hS0 ?_
    ·have hq:=uh CA wz hSw
     go_simp
    refine tq 7 rfl hS0 ?_
    refine tJz (v:=.int .i64 (m:Int)) 8 rfl (Or.inl ⟨by rfl,fun wz hSw=>?_⟩) hS0 ?_
    ·skip
     go_simp
    refine tq 9 rfl hS0 ?_
    refine tq 10 rfl hS0 ?_
    refine tJz (v:=.string ⟨p.name.toArray⟩) 11 rfl (Or.inl ⟨by rfl,fun wz hSw=>?_⟩) hS0 ?_
    ·have hq:=uh CP wz hSw
     go_simp
    refine tJz (v:=.bool t) 12 rfl (Or.inl ⟨by rfl,fun wz hSw=>?_⟩) hS0 ?_
    ·have hq:=uh HLEQ wz
     go_simp
    refine tJz (v:=.bool t) 13 rfl (Or.inl ⟨by rfl,fun wz hSw=>?_⟩) hS0 ?_
    ·skip
     go_simp
    refine tq 14 rfl hS0 ?_
    refine tDz ?_
    have B6:Hid (Below w.heap.size w w5.drew):=jd (uh B5).drew
    have K6:Hid (Blk w5.drew w.heap.size 33 #[.slice (some ⟨g,oo,none⟩) nU cU,.slice AC nC cC]):=K5
    clear hS0
    cases t with
    |true =>
     obtain rfl:r=7:=uh HRK0 7 (uh HE7 rfl) (by omega)
     go_wp2_with fail
     go_ret
     exact ⟨rfl,uh B6⟩
    |false =>
     have HNX:=jd (uh HRK1 (uh HE0 rfl))
     go_wp2_with fail
     go_roundw
     case rel=>exact ⟨_,by omega,by go_num,HNX,K6,B6⟩
     case measure=>simp [intOf]; omega
  ·obtain rfl:k=nU:=by omega
   have hz:=uh hrk
   rw [Nat.sub_self] at hz
   have HRG:Hid (r=G):=jd (by rw [← uh HR,← hz]; rfl)
   have d1:wr.cell? ⟨w.heap.size,1,none⟩=some (.slice AC nC cC):=(uh HK).cell 1
   clear hrk hz
   go_wp2_with fail
   clear d1
   go_loopw [54] (fun i wr=>∃ q:Nat,q≤nC∧i=.int .i64 q∧Hid (Zbz (errC C) (nC - q) q=G)∧Hid (Blk wr w.heap.size 33 #[.slice AU k cU,.slice AC nC cC])∧Hid (Below w.heap.size w wr)) (fun i _=>nC - (intOf i).toNat)
   case atStart=>exact ⟨0,by omega,rfl,HG,HK,HB⟩
   case round =>
    clear HK HB
    obtain ⟨q,hq,rfl,hrk,HK,HB⟩:=hrel
    by_cases hlt2:q < nC
    ·obtain ⟨g,oo,x,hA,hg,hx,_,_,hrg⟩:=((uh HC).below (uh HB)).at_ (by omega) hlt2
     have hv:=Zdf (errC C) hlt2
     have HRK0:Hid (∀ e,errC C q=e→e≠0→r=e):=jd (fun e he hne=>by
       have h1:=uh hrk
       rw [hv,he,if_neg hne] at h1
       rw [uh HRG,← h1])
     have HRK1:Hid (errC C q=0→Zbz (errC C) (nC - (q+1)) (q+1)=G):=jd (fun he=>by have h1:=uh hrk; rwa [hv,if_pos he] at h1)
     have HX:=jd hx
     have HRGx:=jd hrg
     have HN:=jd (Blk.new wr 54 #[.int .i64 0,.int .i64 0])
     have HBn:=jd ((uh HB).alloc (uh HB).size (.cells #[.int .i64 0,.int .i64 0] 54))
     have HKn:=jd ((uh HK).alloc (.cells #[.int .i64 0,.int .i64 0] 54))
     have hltz:(q:Int) < (nC:Int):=by omega
     clear hx hrg hv
     subst hA
     go_upto_region 16 with (first
       | (refine wpList_load_mid rfl 54 (.tmp 57) rfl g (oo+q*2) rfl _ _ (uh HRGx) Tryz.underlying54 rfl (chn_info x) ?_)
       | (refine Zag rfl 54 rfl _ wr.heap.size rfl (alloc_chn _) ?_)
       |(refine Zaa rfl 54 (.tmp 6) (.tmp 58) rfl wr.heap.size 54 _ x.cs.toArray rfl rfl (uh HN) rfl (chn_info x) (by intro v hv; simp [Chn.cs] at hv; rcases hv with rfl | rfl<;>rfl) ?_
         intro w5 hb5 hg5
         have X5:=jd hb5
         have K5:=jd ((uh HKn).grown hg5 (fun e=>by injection e with e; have:=(uh HK).lt; omega))
         have B5:=jd ((uh HBn).grown hg5 (uh HBn).size (fun j e=>by injection e with e; have:=(uh HB).size; omega))
         clear hb5 hg5)
       | fail)
     have c0:w5.cell? ⟨wr.heap.size,0,none⟩=some (.int .i64 x.number):=(uh X5).cell 0
     have c1:w5.cell? ⟨wr.heap.size,1,none⟩=some (.int .i64 x.limit):=(uh X5).cell 1
     clear HBn HKn HN HRGx
     by_cases n0:x.number < 0
     · obtain rfl:r=2:=uh HRK0 2 (by unfold errC; rw [uh HX]; simp [n0]) (by omega)
       go_wp2_with fail
       go_ret
       exact ⟨rfl,uh B5⟩
     by_cases n4:4≤x.number
     · obtain rfl:r=2:=uh HRK0 2 (by unfold errC; rw [uh HX]; simp [n4]) (by omega)
       go_wp2_with fail
       go_ret
       exact ⟨rfl,uh B5⟩
     obtain ⟨t4,ht4⟩ :∃b,lvl0 x.limit=b:=⟨_,rfl⟩
     have HLV:=jd ht4
     have HN0:=jd n0
     have HN4:=jd n4
     have f0:(x.number < 0)=False:=by simp; omega
     have f4:(4≤x.number)=False:=by simp; omega
     clear n0 n4
     cases t4
     case false =>
       obtain rfl:r=2:=uh HRK0 2 (by unfold errC; rw [uh HX]; simp [ht4]) (by omega)
       clear ht4
       go_wp2_with (first
        | (go_at_call 108; refine (Zeb _ x.limit _ (uh HLV)).mono ?_; rintro e w' ⟨rfl,rfl⟩)
        | fail)
       go_ret
       exact ⟨rfl,uh B5⟩
     clear ht4
     go_upto_region 18 with (first
        | (go_at_call 108; refine (Zeb _ x.limit _ (uh HLV)).mono ?_; rintro e w' ⟨rfl,rfl⟩)
        | fail)
     rcases q with _ | m
     · have HNX:=jd (uh HRK1 (by unfold errC; rw [uh HX]; simp [uh HN0,uh HN4,uh HLV]))
       have hS0:(fun _:World=>True) w5.drew:=trivial
       refine wp_region_noPanic (wp_region_held_drew (S:=fun _=>True) (by kernel_rfl) hS0 (fun _=>?_))
       refine tq 0 rfl hS0 ?_
       refine tJz (v:=.bool false) 1 rfl (Or.inl ⟨by rfl,fun wz hSw=>?_⟩) hS0 ?_
       ·skip
        go_simp
       refine tq 2 rfl hS0 ?_
       refine tJz (v:=undef) 3 rfl (Or.inr ⟨by rfl,rfl⟩) hS0 ?_
       refine tJz (v:=undef) 4 rfl (Or.inr ⟨by rfl,rfl⟩) hS0 ?_
       refine tJz (v:=undef) 5 rfl (Or.inr ⟨by rfl,rfl⟩) hS0 ?_
       refine tJz (v:=undef) 6 rfl (Or.inr ⟨by rfl,rfl⟩) hS0 ?_
       refine tJz (v:=undef) 7 rfl (Or.inr ⟨by rfl,rfl⟩) hS0 ?_
       refine tJz (v:=undef) 8 rfl (Or.inr ⟨by rfl,rfl⟩) hS0 ?_
       refine tJz (v:=undef) 9 rfl (Or.inr ⟨by rfl,rfl⟩) hS0 ?_
       refine tJz (v:=undef) 10 rfl (Or.inr ⟨by rfl,rfl⟩) hS0 ?_
       refine tJz (v:=undef) 11 rfl (Or.inr ⟨by rfl,rfl⟩) hS0 ?_
       refine tJz (v:=undef) 12 rfl (Or.inr ⟨by rfl,rfl⟩) hS0 ?_
       refine tJz (v:=.bool false) 13 rfl (Or.inl ⟨by rfl,fun wz hSw=>?_⟩) hS0 ?_
       ·skip
        go_simp
       refine tq 14 rfl hS0 ?_
       refine tDz ?_
       have B6:Hid (Below w.heap.size w w5.drew):=jd (uh B5).drew
       have K6:Hid (Blk w5.drew w.heap.size 33 #[.slice AU k cU,.slice (some ⟨g,oo,none⟩) nC cC]):=K5
       clear hS0
       go_wp2_with fail
       go_roundw
       case rel=>exact ⟨_,by omega,by go_num,HNX,K6,B6⟩
       case measure=>simp [intOf]; omega
     · obtain ⟨g',oo',p,hA',hg',hp,_,_,hrgp⟩:=((uh HC).below ((uh B5))).at_ (k:=m) (by omega) (by omega)
       injection hA' with hA'
       injection hA' with hA1 hA2 _
       subst hA1
       subst hA2
       have hcp:w5.cell? ⟨g,oo+m*2,none⟩=some (.int .i64 p.number):=by have:=hrgp 0 _ rfl; simpa using this
       have hgw:g < w5.heap.size:=Nat.lt_of_lt_of_le hg (uh B5).size
       obtain ⟨t,ht⟩ :∃t,decide (x.number≤p.number)=t:=⟨_,rfl⟩
       have HP:=jd hp
       have HT:=jd ht
       have HNG:Hid (¬ (x.number < 0∨4≤x.number∨lvl0 x.limit=false)):=jd (by have:=uh HN0; have:=uh HN4; rw [uh HLV]; simp; omega)
       have HE0:Hid (t=false→errC C (m+1)=0):=jd (fun e=>by unfold errC; rw [uh HX]; have:=uh HT; rw [e] at this; simp at this; dsimp only; rw [if_neg (uh HNG)]; simp [uh HP]; omega)
       have HE7:Hid (t=true→errC C (m+1)=7):=jd (fun e=>by unfold errC; rw [uh HX]; have:=uh HT; rw [e] at this; simp at this; dsimp only; rw [if_neg (uh HNG)]; simp [uh HP]; omega)
       have hi1:IntKind.i64.wrap ((m:Int)+1 - 1)=(m:Int):=by rw [show (m:Int)+1 - 1=(m:Int) by omega]; exact IntWalk.i64_in _ (by omega)
       have hi0:(m:Int)+1 - 1=(m:Int):=by omega
       have hi9:IntKind.i64.wrap (m:Int)=(m:Int):=IntWalk.i64_in _ (by omega)
       have hi2:(0:Int)≤(m:Int):=by omega
       have hi3:(m:Int) < (nC:Int):=by omega
       have hi4:(0:Int) < (m:Int)+1:=by omega
       have hx5:=(uh X5).lt
       have hk5:=(uh K5).lt
       have CP:=jd (fun W (hW:Below w5.heap.size w5 W)=>(hW.cell (p:=⟨g,oo+m*2,none⟩) hgw).trans hcp)
       have CX:=jd (fun W (hW:Below w5.heap.size w5 W)=>(hW.cell (p:=⟨wr.heap.size,0,none⟩) hx5).trans c0)
       have CA:=jd (fun W (hW:Below w5.heap.size w5 W)=>(hW.cell (p:=⟨w.heap.size,1,none⟩) hk5).trans ((uh K5).cell 1))
       clear hcp hp hrgp ht c0 c1
       have hS0:Below w5.heap.size w5 w5.drew:=(Below.refl _ _).drew
       refine wp_region_noPanic (wp_region_held_drew (S:=fun wz=>Below w5.heap.size w5 wz) (by kernel_rfl) hS0 (fun _=>?_))
       refine tq 0 rfl hS0 ?_
       refine tJz (v:=.bool true) 1 rfl (Or.inl ⟨by rfl,fun wz hSw=>?_⟩) hS0 ?_
       ·skip
        go_simp
       refine tq 2 rfl hS0 ?_
       refine tq 3 rfl hS0 ?_
       refine tJz (v:=.int .i64 x.number) 4 rfl (Or.inl ⟨by rfl,fun wz hSw=>?_⟩) hS0 ?_
       ·have hq:=uh CX wz hSw
        go_simp
       refine tq 5 rfl hS0 ?_
       refine tJz (v:=.slice (some ⟨g,oo,none⟩) nC cC) 6 rfl (Or.inl ⟨by rfl,fun wz hSw=>?_⟩) hS0 ?_
       ·have hq:=uh CA wz hSw
        go_simp
       refine tq 7 rfl hS0 ?_
       refine tJz (v:=.int .i64 (m:Int)) 8 rfl (Or.inl ⟨by rfl,fun wz hSw=>?_⟩) hS0 ?_
       ·skip
        go_simp
       refine tq 9 rfl hS0 ?_
       refine tq 10 rfl hS0 ?_
       refine tJz (v:=.int .i64 p.number) 11 rfl (Or.inl ⟨by rfl,fun wz hSw=>?_⟩) hS0 ?_
       ·have hq:=uh CP wz hSw
        go_simp
       refine tJz (v:=.bool t) 12 rfl (Or.inl ⟨by rfl,fun wz hSw=>?_⟩) hS0 ?_
       ·have ht:=uh HT
        go_simp
       refine tJz (v:=.bool t) 13 rfl (Or.inl ⟨by rfl,fun wz hSw=>?_⟩) hS0 ?_
       ·skip
        go_simp
       refine tq 14 rfl hS0 ?_
       refine tDz ?_
       have B6:Hid (Below w.heap.size w w5.drew):=jd (uh B5).drew
       have K6:Hid (Blk w5.drew w.heap.size 33 #[.slice AU k cU,.slice (some ⟨g,oo,none⟩) nC cC]):=K5
       clear hS0
       cases t with
       |true =>
        obtain rfl:r=7:=uh HRK0 7 (uh HE7 rfl) (by omega)
        go_wp2_with fail
        go_ret
        exact ⟨rfl,uh B6⟩
       |false =>
        have HNX:=jd (uh HRK1 (uh HE0 rfl))
        go_wp2_with fail
        go_roundw
        case rel=>exact ⟨_,by omega,by go_num,HNX,K6,B6⟩
        case measure=>simp [intOf]; omega
    ·obtain rfl:q=nC:=by omega
     have hz:=uh hrk
     rw [Nat.sub_self] at hz
     obtain rfl:r=0:=by rw [uh HRG,← hz]; rfl
     clear hrk hz
     go_wp2_with fail
     go_ret
     exact ⟨rfl,uh HB⟩
def Zby {α : Type} (p:α→Bool):List α→Nat→Int
 | [],_=>-1
 | x::r,k=>if p x=true then (k:Int) else Zby p r (k+1)
theorem Zex {α : Type} {p:α→Bool} {L:List α} {k:Nat} {x:α} (h:L[k]?=some x):Zby p (L.drop k) k=if p x=true then (k:Int) else Zby p (L.drop (k+1)) (k+1):=by
 have hk:=(List.getElem?_eq_some_iff.1 h).1
 have e:=(List.getElem?_eq_some_iff.1 h).2
 rw [List.drop_eq_getElem_cons hk,e]
 rfl
theorem findA_spec {α : Type} (p:α→Bool):∀ (L:List α) (k:Nat),(Zby p L k=-1∧∀ x∈L,p x=false)∨∃ i x,Zby p L k=((k+i:Nat):Int)∧L[i]?=some x∧p x=true
 | [],_=>.inl ⟨rfl,fun x hx=>by cases hx⟩
 |y::r,k=>by
  cases h:p y with
  | true=>exact .inr ⟨0,y,by simp [Zby,h],rfl,h⟩
  |false =>
   rcases findA_spec p r (k+1) with ⟨e,ha⟩ | ⟨i,x,e,hx,hp⟩
   ·refine .inl ⟨by simp [Zby,h,e],fun x hx=>?_⟩
    rcases List.mem_cons.1 hx with rfl | hx
    · exact h
    · exact ha x hx
   · exact .inr ⟨i+1,x,by simp only [Zby,h]; rw [if_neg (by simp),e]; congr 1; omega,by simpa using hx,hp⟩
theorem min_if (a b:Int):(if b < a then b else a)=min a b:=by split<;>omega
def ZbR (s:List UInt8) (x:Usr):Bool:=x.name==s
def ZcC (n:Int) (x:Chn):Bool:=x.number==n
set_option maxRecDepth 100000 in
theorem ufind1_sx (w:World) (x:Usr) (hx:x.Ok) (b:Nat) (s:List UInt8) (hb:b < w.heap.size) (hc:w.cell? ⟨b,0,none⟩=some (.string ⟨s.toArray⟩)) :
  Calls Tryz.prog 96 #[.agg x.cs.toArray,.pointer (some ⟨b,0,none⟩)] w fun e w'=>e=.returned (.bool (ZbR s x))∧Below w.heap.size w w':=by
 have hat:=(Usr.blk hx (Blk.new w 52 x.cs.toArray))
 have c0:=hat.name
 have hc2:(w.alloc (.cells x.cs.toArray 52)).cell? ⟨b,0,none⟩=some (.string ⟨s.toArray⟩):=by rw [World.cell?_alloc_lt _ _ _ hb]; exact hc
 have HB:=jd ((Below.refl w.heap.size w).alloc (Nat.le_refl _) (.cells x.cs.toArray 52))
 unfold ZbR
 by_cases he:x.name=s
 ·subst he
  clear hat hc hb hx
  go_enter Tryz.func96,Tryz.ntmps96
  go_wp2_with fail
  go_ret
  exact ⟨by simp,uh HB⟩
 ·have hne:(x.name==s)=false:=by simpa using he
  clear hat hc hb hx he
  go_enter Tryz.func96,Tryz.ntmps96
  go_wp2_with fail
  go_ret
  exact ⟨by rw [hne]; first | rfl | (simp; done),uh HB⟩
set_option maxRecDepth 100000 in
theorem cfind1_sx (w:World) (x:Chn) (b:Nat) (n:Int) (hb:b < w.heap.size) (hc:w.cell? ⟨b,0,none⟩=some (.int .i64 n)) :
  Calls Tryz.prog 94 #[.agg x.cs.toArray,.pointer (some ⟨b,0,none⟩)] w fun e w'=>e=.returned (.bool (ZcC n x))∧Below w.heap.size w w':=by
 have c0:(w.alloc (.cells x.cs.toArray 54)).cell? ⟨w.heap.size,0,none⟩=some (.int .i64 x.number):=(Blk.new w 54 x.cs.toArray).cell 0
 have hc2:(w.alloc (.cells x.cs.toArray 54)).cell? ⟨b,0,none⟩=some (.int .i64 n):=by rw [World.cell?_alloc_lt _ _ _ hb]; exact hc
 have HB:=jd ((Below.refl w.heap.size w).alloc (Nat.le_refl _) (.cells x.cs.toArray 54))
 obtain ⟨t,ht⟩ :∃t,(x.number==n)=t:=⟨_,rfl⟩
 have HT:Hid (ZcC n x=t):=jd ht
 clear hc hb
 go_enter Tryz.func94,Tryz.ntmps94
 go_wp2_with fail
 go_ret
 exact ⟨by rw [uh HT,← ht]; first | rfl | (simp; done),uh HB⟩
set_option maxRecDepth 100000 in
set_option maxHeartbeats 4000000 in
theorem idxusr_sx (w:World) (A:Option Addr) (n c:Nat) (L:List Usr) (h:UsrL w w.heap.size A n L) (hnm:n≤maxLen) (b:Nat) (s:List UInt8) (hb:b < w.heap.size) (hc:w.cell? ⟨b,0,none⟩=some (.string ⟨s.toArray⟩)) :
  Calls Tryz.prog 95 #[.slice A n c,.func (.func 96) #[] #[.pointer (some ⟨b,0,none⟩)]] w fun e w'=>e=.returned (.int .i64 (Zby (ZbR s) L 0))∧Below w.heap.size w w':=by
 unfold maxLen at hnm
 have HS:=jd h
 have HC:=jd hc
 have HR:Hid (Zby (ZbR s) (L.drop 0) 0=Zby (ZbR s) L 0):=jd rfl
 obtain ⟨r,hr⟩ :∃r,Zby (ZbR s) L 0=r:=⟨_,rfl⟩
 rw [hr] at HR ⊢
 clear h hc hr
 go_enter Tryz.func95,Tryz.ntmps95
 go_wp2_with fail
 go_loopw [8] (fun i wr=>∃ k:Nat,k≤n∧i=.int .i64 k∧Hid (Zby (ZbR s) (L.drop k) k=r)∧Below w.heap.size w wr) (fun i _=>n - (intOf i).toNat)
 case atStart=>exact ⟨0,by omega,rfl,HR,Below.refl _ _⟩
 case round =>
  obtain ⟨k,hk,rfl,hrk,hB⟩:=hrel
  have HB:=jd hB
  clear hB
  by_cases hlt:k < n
  ·obtain ⟨g,oo,x,rfl,hg,hx,hxo,_,hrg⟩:=((uh HS).below (uh HB)).at_ (by omega) hlt
   have hv:=Zex (p:=ZbR s) hx
   have HRK:=jd (hv.symm.trans (uh hrk))
   have HX:=jd hxo
   have HRG:=jd hrg
   have hlt2:(k:Int) < (n:Int):=by omega
   have HCW:=jd (((uh HB).cell (p:=⟨b,0,none⟩) hb).trans (uh HC))
   have hbw:b < wr.heap.size:=Nat.lt_of_lt_of_le hb (uh HB).size
   have HRK0:Hid (ZbR s x=true→r=(k:Int)):=jd (fun e=>by have:=uh HRK; rw [if_pos e] at this; exact this.symm)
   have HRK1:Hid (ZbR s x=false→Zby (ZbR s) (L.drop (k+1)) (k+1)=r):=jd (fun e=>by have:=uh HRK; rwa [if_neg (by rw [e]; simp)] at this)
   clear hrk hx hxo hrg hv HRK
   obtain ⟨t,ht⟩ :∃t,ZbR s x=t:=⟨_,rfl⟩
   go_wp2_with (first
    | (refine wpList_load_mid rfl 52 (.tmp 14) rfl g (oo+k*19) rfl _ _ (uh HRG) Tryz.underlying52 rfl (usr_info (uh HX)) ?_)
    | fail)
   refine (ufind1_sx wr x (uh HX) b s hbw (uh HCW)).mono ?_
   rw [ht]
   rintro e w2 ⟨rfl,hb2⟩
   have B2:=jd ((uh HB).trans (hb2.mono (uh HB).size))
   clear hb2
   cases t with
   |true =>
    have hrr:=uh HRK0 ht
    clear ht
    go_wp2_with fail
    go_ret
    exact ⟨by rw [hrr]; rfl,uh B2⟩
   |false =>
    have hrr:=jd (uh HRK1 ht)
    clear ht
    go_wp2_with fail
    go_roundw
    case rel=>exact ⟨k+1,by omega,by go_num,hrr,uh B2⟩
    case measure=>simp [intOf]; omega
  ·obtain rfl:k=n:=by omega
   have hdr:L.drop k=[]:=List.drop_of_length_le (by have:=(uh HS).len (by omega); omega)
   have h0:=uh hrk
   rw [hdr] at h0
   obtain rfl:(-1:Int)=r:=h0
   clear hrk hdr
   go_wp2_with fail
   go_ret
   exact ⟨rfl,uh HB⟩
set_option maxRecDepth 100000 in
set_option maxHeartbeats 4000000 in
theorem idxchn_sx (w:World) (A:Option Addr) (n c:Nat) (L:List Chn) (h:ChnL w w.heap.size A n L) (hnm:n≤maxLen) (b:Nat) (ch:Int) (hb:b < w.heap.size) (hc:w.cell? ⟨b,0,none⟩=some (.int .i64 ch)) :
  Calls Tryz.prog 93 #[.slice A n c,.func (.func 94) #[] #[.pointer (some ⟨b,0,none⟩)]] w fun e w'=>e=.returned (.int .i64 (Zby (ZcC ch) L 0))∧Below w.heap.size w w':=by
 unfold maxLen at hnm
 have HS:=jd h
 have HC:=jd hc
 have HR:Hid (Zby (ZcC ch) (L.drop 0) 0=Zby (ZcC ch) L 0):=jd rfl
 obtain ⟨r,hr⟩ :∃r,Zby (ZcC ch) L 0=r:=⟨_,rfl⟩
 rw [hr] at HR ⊢
 clear h hc hr
 go_enter Tryz.func93,Tryz.ntmps93
 go_wp2_with fail
 go_loopw [8] (fun i wr=>∃ k:Nat,k≤n∧i=.int .i64 k∧Hid (Zby (ZcC ch) (L.drop k) k=r)∧Below w.heap.size w wr) (fun i _=>n - (intOf i).toNat)
 case atStart=>exact ⟨0,by omega,rfl,HR,Below.refl _ _⟩
 case round =>
  obtain ⟨k,hk,rfl,hrk,hB⟩:=hrel
  have HB:=jd hB
  clear hB
  by_cases hlt:k < n
  ·obtain ⟨g,oo,x,rfl,hg,hx,hxo,_,hrg⟩:=((uh HS).below (uh HB)).at_ (by omega) hlt
   have hv:=Zex (p:=ZcC ch) hx
   have HRK:=jd (hv.symm.trans (uh hrk))
   have HX:=jd hxo
   have HRG:=jd hrg
   have hlt2:(k:Int) < (n:Int):=by omega
   have HCW:=jd (((uh HB).cell (p:=⟨b,0,none⟩) hb).trans (uh HC))
   have hbw:b < wr.heap.size:=Nat.lt_of_lt_of_le hb (uh HB).size
   have HRK0:Hid (ZcC ch x=true→r=(k:Int)):=jd (fun e=>by have:=uh HRK; rw [if_pos e] at this; exact this.symm)
   have HRK1:Hid (ZcC ch x=false→Zby (ZcC ch) (L.drop (k+1)) (k+1)=r):=jd (fun e=>by have:=uh HRK; rwa [if_neg (by rw [e]; simp)] at this)
   clear hrk hx hxo hrg hv HRK
   obtain ⟨t,ht⟩ :∃t,ZcC ch x=t:=⟨_,rfl⟩
   go_wp2_with (first
    | (refine wpList_load_mid rfl 54 (.tmp 14) rfl g (oo+k*2) rfl _ _ (uh HRG) Tryz.underlying54 rfl (chn_info x) ?_)
    | fail)
   refine (cfind1_sx wr x b ch hbw (uh HCW)).mono ?_
   rw [ht]
   rintro e w2 ⟨rfl,hb2⟩
   have B2:=jd ((uh HB).trans (hb2.mono (uh HB).size))
   clear hb2
   cases t with
   |true =>
    have hrr:=uh HRK0 ht
    clear ht
    go_wp2_with fail
    go_ret
    exact ⟨by rw [hrr]; rfl,uh B2⟩
   |false =>
    have hrr:=jd (uh HRK1 ht)
    clear ht
    go_wp2_with fail
    go_roundw
    case rel=>exact ⟨k+1,by omega,by go_num,hrr,uh B2⟩
    case measure=>simp [intOf]; omega
  ·obtain rfl:k=n:=by omega
   have hdr:L.drop k=[]:=List.drop_of_length_le (by have:=(uh HS).len (by omega); omega)
   have h0:=uh hrk
   rw [hdr] at h0
   obtain rfl:(-1:Int)=r:=h0
   clear hrk hdr
   go_wp2_with fail
   go_ret
   exact ⟨rfl,uh HB⟩
set_option maxRecDepth 100000 in
theorem ufind_sx (w:World) (AU:Option Addr) (nU cU:Nat) (y:Value) (U:List Usr) (hU:UsrL w w.heap.size AU nU U) (hnm:nU≤maxLen) (s:List UInt8) :
  Calls Tryz.prog 48 #[.agg #[.slice AU nU cU,y],.string ⟨s.toArray⟩] w fun e w'=>e=.returned (.int .i64 (Zby (ZbR s) U 0))∧Below w.heap.size w w':=by
 have HB:=jd (below2 w (.cells #[.slice AU nU cU,y] 33) (.cells #[.string ⟨s.toArray⟩] 9))
 have HS:=jd ((hU.below (uh HB)).more (uh HB).size)
 have hcw:((w.alloc (.cells #[.slice AU nU cU,y] 33)).alloc (.cells #[.string ⟨s.toArray⟩] 9)).cell? ⟨w.heap.size+1,0,none⟩=some (.string ⟨s.toArray⟩):=(Blk.new' (g:=w.heap.size+1) (by simp)).cell 0
 have HC:=jd hcw
 clear hU hcw
 go_enter Tryz.func48,Tryz.ntmps48
 go_wp2_with fail
 refine (idxusr_sx _ AU nU cU U (uh HS) hnm (w.heap.size+1) s (by simp) (uh HC)).mono ?_
 rintro e w2 ⟨rfl,hb2⟩
 have B2:=jd ((uh HB).trans (hb2.mono (uh HB).size))
 clear hb2
 go_wp2_with fail
 go_ret
 exact ⟨rfl,uh B2⟩
def limF (U:List Usr) (C:List Chn) (s:List UInt8) (ch:Int):Int × Int :=
 if accV U C≠0 then (0,accV U C) else
  match U.find? (ZbR s),C.find? (ZcC ch) with
  | some u,some c=>if u.on=false then (0,43) else (min u.limit c.limit,0)
  | _,_=>(0,8)
theorem Zcw {α : Type} (p:α→Bool):∀ (L:List α) (k:Nat),(Zby p L k=-1∧L.find? p=none)∨∃ i x,Zby p L k=((k+i:Nat):Int)∧L[i]?=some x∧L.find? p=some x
 | [],_=>.inl ⟨rfl,rfl⟩
 |y::r,k=>by
  cases h:p y with
  | true=>exact .inr ⟨0,y,by simp [Zby,h],rfl,by simp [h]⟩
  |false =>
   rcases Zcw p r (k+1) with ⟨e,ha⟩ | ⟨i,x,e,hx,hp⟩
   · exact .inl ⟨by simp [Zby,h,e],by simp [h,ha]⟩
   · exact .inr ⟨i+1,x,by simp only [Zby,h]; rw [if_neg (by simp),e]; congr 1; omega,by simpa using hx,by simp [h,hp]⟩
set_option maxRecDepth 100000 in
set_option maxHeartbeats 8000000 in
theorem limit_sx (w:World) (AU:Option Addr) (nU cU:Nat) (AC:Option Addr) (nC cC:Nat) (U:List Usr) (C:List Chn) (hU:UsrL w w.heap.size AU nU U) (hC:ChnL w w.heap.size AC nC C) (hnU:nU≤maxLen) (hnC:nC≤maxLen) (s:List UInt8) (ch:Int) (l e:Int) (hr:limF U C s ch=(l,e)) :
  Calls Tryz.prog 46 #[.agg #[.slice AU nU cU,.slice AC nC cC],.string ⟨s.toArray⟩,.int .i64 ch] w fun z w'=>z=.returned (.tuple #[.int .i64 l,.int .i64 e])∧Below w.heap.size w w':=by
 have HU0:=jd hU
 have HC0:=jd hC
 have HR:=jd hr
 have K0:=jd ((Blk.new w 33 #[.slice AU nU cU,.slice AC nC cC]).alloc (.cells #[.int .i64 ch] 3))
 have K1:Hid (Blk ((w.alloc (.cells #[.slice AU nU cU,.slice AC nC cC] 33)).alloc (.cells #[.int .i64 ch] 3)) (w.heap.size+1) 3 #[.int .i64 ch]):=jd (Blk.new' (by simp))
 have B0:=jd (below2 w (.cells #[.slice AU nU cU,.slice AC nC cC] 33) (.cells #[.int .i64 ch] 3))
 have HU:=jd ((hU.below (uh B0)).more (uh B0).size)
 have HC:=jd ((hC.below (uh B0)).more (uh B0).size)
 obtain ⟨v,hv⟩ :∃v,accV U C=v:=⟨_,rfl⟩
 have HV:=jd hv
 have hbU:=hU.len (by omega)
 clear hU hC hr hv
 go_enter Tryz.func46,Tryz.ntmps46
 go_wp2_with (first
  | (refine wpList_load_row rfl 33 _ rfl w.heap.size rfl 33 _ _ _ (uh K0) Tryz.underlying33 rfl (by kernel_rfl) ?_)
  | fail)
 refine (accv_sx _ AU nU cU AC nC cC U C (uh HU) (uh HC) hnU hnC v (uh HV)).mono ?_
 rintro z w2 ⟨rfl,hb2⟩
 have K2:=jd ((uh K0).below hb2 (uh K0).lt)
 have C2:=jd ((uh K1).below hb2 (uh K1).lt)
 have B2:=jd ((uh B0).trans (hb2.mono (uh B0).size))
 have HU2:=jd ((uh HU0).below (uh B2))
 have HC2:=jd ((uh HC0).below (uh B2))
 clear hb2
 by_cases hv0:v=0
 case neg =>
  have h:=uh HR
  unfold limF at h
  rw [uh HV,if_pos hv0] at h
  injection h with h1 h2
  subst h1 h2
  have hvb:(v != 0)=true:=by simpa using hv0
  clear hv0
  go_wp2_with fail
  go_ret2
  exact ⟨rfl,uh B2⟩
 have hvb:(v != 0)=false:=by simpa using hv0
 have HV0:=jd hv0
 clear hv0
 go_wp2_with (first
  | (refine wpList_load_row rfl 33 _ rfl w.heap.size rfl 33 _ _ _ (uh K2) Tryz.underlying33 rfl (by kernel_rfl) ?_)
  | fail)
 refine (ufind_sx w2 AU nU cU _ U ((uh HU2).more (uh B2).size) hnU s).mono ?_
 rintro z w3 ⟨rfl,hb3⟩
 have K3:=jd ((uh K2).below hb3 (uh K2).lt)
 have C3:=jd ((uh C2).below hb3 (uh C2).lt)
 have B3:=jd ((uh B2).trans (hb3.mono (uh B2).size))
 have HU3:=jd ((uh HU0).below (uh B3))
 have HC3:=jd ((uh HC0).below (uh B3))
 clear hb3
 obtain ⟨i,hi⟩ :∃i,Zby (ZbR s) U 0=i:=⟨_,rfl⟩
 rw [hi]
 have HI:=jd hi
 have d1:w3.cell? ⟨w.heap.size,1,none⟩=some (.slice AC nC cC):=(uh K3).cell 1
 clear hi
 go_wp2_with fail
 refine (idxchn_sx w3 AC nC cC C ((uh HC3).more (uh B3).size) hnC (w.heap.size+1) ch (uh C3).lt ((uh C3).cell 0)).mono ?_
 rintro z w4 ⟨rfl,hb4⟩
 have K4:=jd ((uh K3).below hb4 (uh K3).lt)
 have B4:=jd ((uh B3).trans (hb4.mono (uh B3).size))
 have HU4:=jd ((uh HU0).below (uh B4))
 have HC4:=jd ((uh HC0).below (uh B4))
 clear hb4 d1
 obtain ⟨k,hk⟩ :∃k,Zby (ZcC ch) C 0=k:=⟨_,rfl⟩
 rw [hk]
 have HKK:=jd hk
 clear hk
 have hlim:(l,e)=(match U.find? (ZbR s),C.find? (ZcC ch) with
  | some u,some c=>if u.on=false then (0,43) else (min u.limit c.limit,0)
  | _,_=>(0,8)):=by have h:=uh HR; unfold limF at h; rw [uh HV,uh HV0] at h; exact h.symm
 have HLIM:=jd hlim
 clear hlim
 rcases Zcw (ZbR s) U 0 with ⟨e1,f1⟩ | ⟨iu,u,e1,hu,f1⟩
 ·obtain rfl:i=-1:=by rw [← uh HI,e1]
  have h:=uh HLIM
  rw [f1] at h
  injection h with h1 h2
  subst h1 h2
  clear e1 f1
  go_wp2_with fail
  go_ret2
  exact ⟨rfl,uh B4⟩
 obtain rfl:i=(iu:Int):=by rw [← uh HI,e1,Nat.zero_add]
 have hiu:=(List.getElem?_eq_some_iff.1 hu).1
 have hi0:((iu:Int) < 0)=False:=by simp
 have hi0b:(0:Int)≤(iu:Int):=by omega
 have hil:(iu:Int) < (nU:Int):=by omega
 rcases Zcw (ZcC ch) C 0 with ⟨e2,f2⟩ | ⟨ic,x,e2,hx,f2⟩
 ·obtain rfl:k=-1:=by rw [← uh HKK,e2]
  have h:=uh HLIM
  rw [f1,f2] at h
  injection h with h1 h2
  subst h1 h2
  clear e1 f1 e2 f2 hu
  go_wp2_with fail
  go_ret2
  exact ⟨rfl,uh B4⟩
 obtain rfl:k=(ic:Int):=by rw [← uh HKK,e2,Nat.zero_add]
 have hic:=(List.getElem?_eq_some_iff.1 hx).1
 have hcl:=(uh HC4).len (by omega)
 have hk0:((ic:Int) < 0)=False:=by simp
 have hk0b:(0:Int)≤(ic:Int):=by omega
 have hkl:(ic:Int) < (nC:Int):=by omega
 obtain ⟨g,oo,u',hA,hg,hu',huo,_,hru⟩:=(uh HU4).at_ (k:=iu) (by omega) (by omega)
 obtain ⟨g',oo',x',hA',hg',hx',_,_,hrx⟩:=(uh HC4).at_ (k:=ic) (by omega) (by omega)
 obtain rfl:u=u':=Option.some.inj (hu.symm.trans hu')
 obtain rfl:x=x':=Option.some.inj (hx.symm.trans hx')
 have cu17:=(Usr.range huo hru).on
 have cu18:=(Usr.range huo hru).limit
 have cx1:w4.cell? ⟨g',oo'+ic*2+1,none⟩=some (.int .i64 x.limit):=hrx 1 _ rfl
 have d0:w4.cell? ⟨w.heap.size,0,none⟩=some (.slice AU nU cU):=(uh K4).cell 0
 have d1:w4.cell? ⟨w.heap.size,1,none⟩=some (.slice AC nC cC):=(uh K4).cell 1
 have hgw:g < w4.heap.size:=Nat.lt_of_lt_of_le hg (uh B4).size
 have hgw':g' < w4.heap.size:=Nat.lt_of_lt_of_le hg' (uh B4).size
 have h:=uh HLIM
 rw [f1,f2] at h
 dsimp only at h
 have HH:=jd h
 subst hA hA'
 have hbU2:=hbU
 clear h e1 f1 e2 f2 hu hx hu' hx' hru hrx huo hbU hcl
 obtain ⟨t,ht⟩ :∃t,u.on=t:=⟨_,rfl⟩
 rw [ht] at cu17
 have HT:=jd ht
 clear ht
 cases t with
 |false =>
  have h:=uh HH
  rw [if_pos (uh HT)] at h
  injection h with h1 h2
  subst h1 h2
  go_wp2_with fail
  go_ret2
  exact ⟨rfl,uh B4⟩
 |true =>
  have h:=uh HH
  rw [if_neg (by rw [uh HT]; simp)] at h
  injection h with h1 h2
  subst h1 h2
  have CU:=jd (fun W (hW:Below w4.heap.size w4 W)=>(hW.cell (p:=⟨g,oo+iu*19+18,none⟩) hgw).trans cu18)
  have CX:=jd (fun W (hW:Below w4.heap.size w4 W)=>(hW.cell (p:=⟨g',oo'+ic*2+1,none⟩) hgw').trans cx1)
  have CD0:=jd (fun W (hW:Below w4.heap.size w4 W)=>(hW.cell (p:=⟨w.heap.size,0,none⟩) (uh K4).lt).trans d0)
  have CD1:=jd (fun W (hW:Below w4.heap.size w4 W)=>(hW.cell (p:=⟨w.heap.size,1,none⟩) (uh K4).lt).trans d1)
  go_upto_region 10 with fail
  clear cu17 cu18 cx1 d0 d1
  have hS0:Below w4.heap.size w4 w4.drew:=(Below.refl _ _).drew
  refine wp_region_noPanic (wp_region_held_drew (S:=fun wz=>Below w4.heap.size w4 wz) (by kernel_rfl) hS0 (fun _=>?_))
  refine tq 0 rfl hS0 ?_
  refine tJz (v:=.slice (some ⟨g,oo,none⟩) nU cU) 1 rfl (Or.inl ⟨by rfl,fun wz hSw=>?_⟩) hS0 ?_
  ·have hq:=uh CD0 wz hSw
   go_simp
  refine tq 2 rfl hS0 ?_
  refine tq 3 rfl hS0 ?_
  refine tq 4 rfl hS0 ?_
  refine tJz (v:=.int .i64 u.limit) 5 rfl (Or.inl ⟨by rfl,fun wz hSw=>?_⟩) hS0 ?_
  ·have hq:=uh CU wz hSw
   go_simp
  refine tq 6 rfl hS0 ?_
  refine tJz (v:=.slice (some ⟨g',oo',none⟩) nC cC) 7 rfl (Or.inl ⟨by rfl,fun wz hSw=>?_⟩) hS0 ?_
  ·have hq:=uh CD1 wz hSw
   go_simp
  refine tq 8 rfl hS0 ?_
  refine tq 9 rfl hS0 ?_
  refine tq 10 rfl hS0 ?_
  refine tJz (v:=.int .i64 x.limit) 11 rfl (Or.inl ⟨by rfl,fun wz hSw=>?_⟩) hS0 ?_
  ·have hq:=uh CX wz hSw
   go_simp
  refine tJz (v:=.int .i64 (min u.limit x.limit)) 12 rfl (Or.inl ⟨by rfl,fun wz hSw=>?_⟩) hS0 ?_
  ·have hmin:=min_if u.limit x.limit
   go_simp
  refine tq 13 rfl hS0 ?_
  refine tq 14 rfl hS0 ?_
  refine tDz ?_
  have B5:=jd (uh B4).drew
  clear hS0
  go_wp2_with fail
  go_ret2
  exact ⟨rfl,uh B5⟩
end Go.Proofs.YtfbkkmnkpjgciaaGreat
