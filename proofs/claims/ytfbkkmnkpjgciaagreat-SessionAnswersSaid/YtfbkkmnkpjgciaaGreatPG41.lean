/- Joined of TSA. No condition. -/
import Derived.Test.YtfbkkmnkpjgciaaGreatPG40
import Derived.Test.YtfbkkmnkpjgciaaGreatPG36
namespace Go.Proofs.YtfbkkmnkpjgciaaGreat
open Go.RowKit
def AnsR (q0:Nat) (now:Int):Nat→Value→World→Prop
 | 1,v,_=>v=.int .i64 now
 | 3,v,_=>v=.int .i64 now
 | 5,v,_=>ZbO 700 v
 | 6,v,_=>∃ r:Int,v=.int .i64 r
 | 9,v,_=>∃ r:Int,v=.int .i64 r
 | 10,v,w=>∃ (q:Nat) (x0 x1 x2 x3:Int),v=.slice (some ⟨q,0,none⟩) 4 4∧Blk w q 2 #[.int .i64 x0,.int .i64 x1,.int .i64 x2,.int .i64 x3]∧q0≤q
 | 12,v,_=>ZbO 4 v
 | 13,v,w=>∃ (q k:Nat) (x0 x1 x2 x3:Int),v=.pointer (some ⟨q,k,none⟩)∧Blk w q 2 #[.int .i64 x0,.int .i64 x1,.int .i64 x2,.int .i64 x3]∧q0≤q∧k < 4
 | 14,v,_=>∃ r:Int,v=.int .i64 r
 | _,_,_=>True
theorem AnsR.keep {q0:Nat} {now:Int} {g:Nat} (hg:g < q0):∀ (k:Nat) (v:Value) (w w':World),AnsR q0 now k v w→CT g w w'→AnsR q0 now k v w':=by
 intro k v w w' h hb
 unfold AnsR at *
 split at h
 · exact h
 · exact h
 · exact h
 · exact h
 · exact h
 · obtain ⟨q,x0,x1,x2,x3,h1,h2,h3⟩:=h; exact ⟨q,x0,x1,x2,x3,h1,hb.blk h2 (by omega),h3⟩
 · exact h
 · obtain ⟨q,k,x0,x1,x2,x3,h1,h2,h3,h4⟩:=h; exact ⟨q,k,x0,x1,x2,x3,h1,hb.blk h2 (by omega),h3,h4⟩
 · exact h
 · trivial
set_option maxRecDepth 100000 in
set_option maxHeartbeats 16000000 in
theorem ans_any (hstep:StepAll) (w:World) (A:Option Addr) (n c:Nat) (bs:List UInt8) (hn:n≤c) (hc:c≤maxLen) (h:Zaj w w.heap.size 1 A n (bsV bs)) (Ar:Option Addr) (nr cr:Nat) (rs:List UInt8) (hnr:nr≤cr) (hcr:cr≤maxLen) (hr:Zaj w w.heap.size 1 Ar nr (bsV rs))
  (Ad:Option Addr) (nd cd:Nat) (ds:List UInt8) (hnd:nd≤cd) (hcd:cd≤maxLen) (hd:Zaj w w.heap.size 1 Ad nd (bsV ds)) (nonce:Nat) (hno:nonce < 18446744073709551616) (now:Int) :
  Calls Tryz.prog 6 #[.slice A n c,.slice Ar nr cr,.slice Ad nd cd,.int .u64 (nonce:Int),.int .i64 now] w fun e w'=>e=.returned (.bool true)∧Below w.heap.size w w':=by
 have HR:=jd h
 have HRR:=jd hr
 have HRD:=jd hd
 have HSTEP:=jd hstep
 have HNR:=jd hnr
 have HCR:=jd hcr
 have HND:=jd hnd
 have HCD:=jd hcd
 have EGN:=jd (ZaO Tryz.func18 (by kernel_rfl) rfl)
 have EGW:=jd (ZaO Tryz.func25 (by kernel_rfl) rfl)
 clear h hr hd hstep hnr hcr hnd hcd
 go_enter Tryz.func6,Tryz.ntmps6
 go_wp2_with fail
 refine (awake_sx w).mono ?_
 rintro e w1 ⟨rfl,hb1⟩
 have HL1:=jd hb1
 have hs1:=hb1.size
 clear hb1
 by_cases q1:400 < nr
 case pos =>
  have f1:((400:Int) < (nr:Int))=True:=by simp; omega
  go_wp2_with fail
  go_ret
  exact ⟨rfl,uh HL1⟩
 have f1:((400:Int) < (nr:Int))=False:=by simp; omega
 by_cases q2:400 < nd
 case pos =>
  have f2:((400:Int) < (nd:Int))=True:=by simp; omega
  go_wp2_with fail
  go_ret
  exact ⟨rfl,uh HL1⟩
 have f2:((400:Int) < (nd:Int))=False:=by simp; omega
 go_wp2_with fail
 clear f1 f2 q1 q2
 refine (new_any w1 A n c bs 300 (((uh HR).below (uh HL1)).more hs1) hn hc (by decide)).mono ?_
 rintro e w2 ⟨rfl,hc2,hb2⟩
 obtain ⟨g,hg⟩ :∃g,w1.heap.size=g:=⟨_,rfl⟩
 rw [hg] at hc2 ⊢
 have HC2:=jd hc2
 have HL2:=jd ((uh HL1).trans (hb2.mono hs1))
 have hwg:w.heap.size≤g:=by omega
 have hs2:g < w2.heap.size:=hc2.lt
 clear hc2 hb2 hg HL1 hs1 HR
 go_wp2_with fail
 refine (made_cx (uh HSTEP) w2 g g (uh HC2)).mono ?_
 rintro e w3 ⟨d,vs,vu,vc,vx,vp,V,rfl,hm,hok,hc3,hlow⟩
 obtain ⟨base,hbase⟩ :∃base,w2.heap.size=base:=⟨_,rfl⟩
 rw [hbase] at hm
 have hwb:w.heap.size≤base:=by omega
 have hs3:base≤w3.heap.size:=by have:=hlow.size; omega
 have HL3:=jd ((uh HL2).trans (hlow.mono hwg))
 have HOK:=jd hok
 obtain ⟨As,cs,e1,_,_⟩:=Zac hm.s
 obtain ⟨Au,cu,e2,_,_⟩:=Zac hm.u
 obtain ⟨Ac,cc,e3,_,_⟩:=Zac hm.c
 obtain ⟨Ax,cx,e4,_,_⟩:=Zac hm.x
 obtain ⟨Ap,cp,e5,_,_⟩:=Zac hm.p
 subst e1 e2 e3 e4 e5
 obtain ⟨W4,hW4⟩ :∃W4,w3.alloc (.cells zWd 37)=W4:=⟨_,rfl⟩
 have hb4:Below w3.heap.size w3 W4:=hW4 ▸ (Below.refl _ _).alloc (Nat.le_refl _) _
 have HB4:=jd (hW4 ▸ Blk.new w3 _ _:Blk W4 w3.heap.size 37 zWd)
 have HW4:=jd hW4
 have HM4:=jd (hm.below hb4)
 have HC4:=jd (hc3.below_ hb4)
 have HL4:=jd ((uh HL3).trans (hb4.mono (uh HL3).size))
 obtain ⟨q4,hq4⟩ :∃q4,w3.heap.size=q4:=⟨_,rfl⟩
 have hgq:g < q4:=by rw [← hq4]; exact hc3.lt
 clear hm hok hc3 hlow hb4 hW4 HC2 HL2 hbase hs2
 go_upto_region 7 with (first
  |(refine Zag rfl 37 rfl zWd w3.heap.size rfl (alloc_wd _) ?_
    rw [uh HW4])
  |(refine Zaa rfl 37 (.tmp 12) (.tmp 43) rfl w3.heap.size 37 _ (ZaQ d (.slice As d.L.length cs) (.slice Au d.U.length cu) (.slice Ac d.C.length cc) (.slice Ax d.X.length cx) (.slice Ap d.P.length cp)) rfl rfl (uh HB4) rfl wd_info (one7 rfl rfl rfl rfl rfl rfl rfl) ?_
    intro w5 hb5 hg5
    rw [hq4] at hb5 hg5
    have HA5:Hid (WdAt w5 base q4 d (.slice As d.L.length cs) (.slice Au d.U.length cu) (.slice Ac d.C.length cc) (.slice Ax d.X.length cx) (.slice Ap d.P.length cp) V):=jd ⟨hb5,(uh HM4).stored (hq4 ▸ uh HB4) hg5 (by decide)⟩
    have HL5:=jd (gWz (uh HL4) hg5)
    have HC5:=jd ((uh HC4).grown_ hg5 (fun j hj=>by injection hj with hj; omega))
    clear hb5 hg5)
  | fail)
 simp only [Act.put,zA,zB,zC]
 rw [hq4]
 clear HB4 HW4 HM4 HL4 HL3 HC4 hq4
 have hs5:w.heap.size≤w5.heap.size:=(uh HL5).size
 have hL4:=(ZaZ.1 (uh HOK).tab.val).1
 have HUOK:=jd (fun u hu=>((uh HOK).uok u hu).1)
 have hnow0:=(uh HOK).now0
 have hnow1:=(uh HOK).now1
 have hnxd:=(uh HOK).tab.nx
 have HBW:Hid (∀ wz,CJ w5 g g wz→Blk wz q4 37 (ZaQ d (.slice As d.L.length cs) (.slice Au d.U.length cu) (.slice Ac d.C.length cc) (.slice Ax d.X.length cx) (.slice Ap d.P.length cp))):=jd (fun wz hz=>hz.blk (uh HA5).blk (by omega))
 have HP0:Hid (∀ wz,CJ w5 g g wz→wz.rangeAt q4 0 [.slice As d.L.length cs,.int .u32 (d.nx:Int)]):=jd (fun wz hz=>Zb1 (uh HBW wz hz))
 have HP2:Hid (∀ wz,CJ w5 g g wz→wz.rangeAt q4 2 [.slice Au d.U.length cu,.slice Ac d.C.length cc]):=jd (fun wz hz=>Zfe (uh HBW wz hz))
 have HJ5:=jd ((CJ.start (uh HC5)).drew)
 have hS0:CJ w5 g g w5.drew:=uh HJ5
 refine wp_region_noPanic (wp_region_held_drew (S:=fun wz=>CJ w5 g g wz) (by kernel_rfl) hS0 (fun _=>?_))
 refine tq 0 rfl hS0 ?_
 refine tJz 1 rfl (yieldsIf_load_mid (by rfl) 29 (.tmp 44) rfl q4 0 rfl [.slice As d.L.length cs,.int .u32 (d.nx:Int)] _ (uh HP0) Tryz.underlying29 rfl (by kernel_rfl)) hS0 ?_
 refine tq 2 rfl hS0 ?_
 refine tq 3 rfl hS0 ?_
 refine tJz 4 rfl (yieldsIf_load_mid (by rfl) 29 (.tmp 47) rfl q4 0 rfl [.slice As d.L.length cs,.int .u32 (d.nx:Int)] _ (uh HP0) Tryz.underlying29 rfl (by kernel_rfl)) hS0 ?_
 refine tq 8 rfl hS0 ?_
 refine tCz 5 rfl fun K hK=>?_
 go_simp
 have hs0:=Zbp (((uh HA5).cj (uh HC5) hS0.1).m.s) (uh HOK).tab.ok
 refine (odd_cx w5.drew g g (uh HJ5).2 As d.L.length cs d.L d.nx hs0 (by omega) hnxd).mono ?_
 rintro e w6 ⟨A9,c9,L9,nx9,rfl,ho9,hok9,hnx9,hl9,hj9⟩
 have hS6:CJ w5 g g w6:=(uh HJ5).then_ hj9
 have HO9:=jd ho9
 have HOK9:=jd hok9
 have HJ6:=jd hS6
 have hg6:g < w6.heap.size:=hS6.2.lt
 clear ho9 hok9 hj9 hs0
 refine hK.out _ _ hS6 (fun _=>?_)
 clear hK K
 try simp only [Act.put,zA,zB,zC]
 refine tCz 6 rfl fun K hK=>?_
 refine Zc8 73 2 _ rfl [(0,.agg #[.slice As d.L.length cs,.int .u32 (d.nx:Int)]),(1,.agg #[.slice A9 L9.length c9,.int .u32 (nx9:Int)])] rfl _ _ (run_slice_ss w6 As d.L.length cs (d.nx:Int) A9 L9.length c9 (nx9:Int)) ?_
 obtain ⟨W7,hW7⟩ :∃W,w6.alloc (.cells #[.slice As d.L.length cs,.int .u32 (d.nx:Int),.slice A9 L9.length c9,.int .u32 (nx9:Int)] 29)=W:=⟨_,rfl⟩
 rw [hW7]
 have hb7:Below w6.heap.size w6 W7:=hW7 ▸ (Below.refl _ _).alloc (Nat.le_refl _) _
 have HJ7:Hid (CJ w5 g g W7):=jd ((uh HJ6).below hb7 trivial).1
 have HB7:Hid (Blk W7 w6.heap.size 29 #[.slice As d.L.length cs,.int .u32 (d.nx:Int),.slice A9 L9.length c9,.int .u32 (nx9:Int)]):=jd (hW7 ▸ Blk.new w6 _ _)
 have HO7:=jd (Zam (uh HO9) hb7)
 obtain ⟨q50,hq50⟩ :∃q,w6.heap.size=q:=⟨_,rfl⟩
 rw [hq50] at HB7 ⊢
 have hS7:CJ w5 g g W7:=uh HJ7
 clear hW7 hb7 HO9
 refine hK.out _ _ hS7 (fun _=>?_)
 clear hK K
 try simp only [Act.put,zA,zB,zC]
 refine tq 7 rfl hS7 ?_
 refine tDz ?_
 clear hS0 hS6 hS7 HJ6
 have HC7:Hid (Zaq W7 g g):=jd (uh HJ7).2
 have hg7:g < W7.heap.size:=(uh HC7).lt
 have hq50g:g < q50:=by rw [← hq50]; exact hg6
 have HT1:Hid (∀ wz,CJ W7 g g wz→ZaA wz wz.heap.size As d.L.length d.L):=jd (fun wz hz=>Zbp ((uh HA5).cj (uh HC5) ((uh HJ7).then_ hz).1).m.s (uh HOK).tab.ok)
 have HT2:Hid (∀ wz,CJ W7 g g wz→ZaA wz wz.heap.size A9 L9.length L9):=jd (fun wz hz=>ZaA.of_own (Zap (uh HO7) hz.1 (Zbi (uh HC7) (uh HO7) (by decide))) (uh HOK9))
 have HLOW:Hid (∀ wz,CJ W7 g g wz→Below w.heap.size w wz):=jd (fun wz hz=>CJ.low (uh HL5) ((uh HJ7).then_ hz) hs5 hwg)
 clear hq50
 go_wp2_with fail
 go_loopw [52] (fun i wr=>∃ k:Nat,i=.int .i64 (k:Int)∧k≤2∧CJ W7 g g wr) (fun i _=>2 - (intOf i).toNat)
 case atStart=>exact ⟨0,rfl,Nat.zero_le _,CJ.start (uh HC7)⟩
 case round =>
  obtain ⟨k,rfl,hk,hck⟩:=hrel
  obtain ⟨wi,rfl⟩ :∃wi:World,wi=wr:=⟨_,rfl⟩
  have HJI:=jd hck
  clear hck
  by_cases hklt:k < 2
  ·obtain ⟨At,ct,nxt,L,hnxt,hLt,hT,hrg⟩:=two_tab (q:=q50) (c:=cs) (c2:=c9) hnxd hnx9 (by omega) (by omega) (uh HT1) (uh HT2) hklt
   have HT:=jd hT
   have HRG:Hid (wi.rangeAt q50 (k*2) [.slice At L.length ct,.int .u32 (nxt:Int)]):=jd (hrg wi ((uh HJI).blk (uh HB7) (by omega)))
   have hk2:(k:Int) < 2:=by omega
   obtain ⟨W9,hW9⟩ :∃W9,wi.alloc (.cells #[.slice none 0 0,.int .u32 0] 29)=W9:=⟨_,rfl⟩
   have HJ9:Hid (CJ W7 g g W9):=jd (hW9 ▸ (uh HJI).new _)
   have HZ9:Hid (Blk W9 wi.heap.size 29 #[.slice none 0 0,.int .u32 0]):=jd (hW9 ▸ Blk.new wi _ _)
   have HW9:=jd hW9
   obtain ⟨q14,hq14⟩ :∃q,wi.heap.size=q:=⟨_,rfl⟩
   have hq714:W7.heap.size≤q14:=by rw [← hq14]; exact (uh HJI).size
   clear hT hrg hW9
   go_upto_region 10 with (first
     | (refine wpList_load_mid rfl 29 (.tmp 54) rfl q50 (k*2) rfl [.slice At L.length ct,.int .u32 (nxt:Int)] _ (uh HRG) Tryz.underlying29 rfl (by kernel_rfl) ?_)
     |(refine Zag rfl 29 rfl _ wi.heap.size rfl (ZaB _) ?_
       rw [uh HW9])
     |(refine Zaa rfl 29 (.tmp 14) (.tmp 55) rfl wi.heap.size 29 _ #[.slice At L.length ct,.int .u32 (nxt:Int)] rfl rfl (uh HZ9) rfl (by kernel_rfl) (oZz rfl rfl) ?_
       intro w10 hb hg
       rw [hq14] at hb hg
       have HB10:=jd hb
       have HJ10:=jd ((uh HJ9).put hg hq714 (by omega))
       clear hb hg)
     | fail)
   try simp only [Act.put,zA,zB,zC]
   try rw [hq14]
   clear HZ9 HW9 HJ9 HRG hq14
   have hg10:g < w10.heap.size:=(uh HJ10).2.lt
   have hCELL:∀ wz,CJ w10 g g wz→wz.cell? ⟨q4,6,none⟩=some (.int .i64 d.now):=fun wz hz=>(uh HBW wz ((uh HJ7).then_ ((uh HJ10).then_ hz))).cell 6
   have HJD:=jd ((CJ.start (uh HJ10).2:CJ w10 g g w10).drew)
   go_cut [15] from 56 to 70 (fun v wj=>∃ t:Int,v=.int .i64 t∧CJ w10 g g wj)
   case first =>
     as_aux_lemma =>
     refine wp_region_noPanic (wp_region_held_drew (S:=fun _=>True) (by kernel_rfl) trivial (fun _=>?_))
     refine tq 0 rfl trivial ?_
     refine tq 2 rfl trivial ?_
     refine tq 4 rfl trivial ?_
     refine tq 7 rfl trivial ?_
     refine tq 8 rfl trivial ?_
     refine tq 11 rfl trivial ?_
     refine ZcD (CJ w10 g g) (CT g) (AnsR w10.heap.size d.now) [1,3,5,6,9,10,12,13,14] #[true,true,true,true,true,true,true,true,true,true,true,true,true,true,true,false] [(1,some 57),(3,some 59),(5,some 61),(6,some 62),(9,some 65),(10,some 66),(12,some 68),(13,some 69),(14,some 70)] 282 1 (by kernel_rfl) rfl (AnsR.keep (by omega)) (fun _ _=>trivial) (uh HJD) ⟨?_,?_,?_,?_,?_,?_,?_,?_,?_,trivial⟩ ?_ rfl
     ·intro a wa hJ hout hin
      have e56:a.eval (.tmp 56)=.pointer (some ⟨q4,6,none⟩):=hout 56 (by kernel_rfl)
      refine ZaF rfl rfl (v:=.int .i64 d.now) (w':=wa) ?_ (hJ.same rfl)
      have hq:=hCELL wa hJ
      unfold execOp
      simp only [e56]
      go_simp
     ·intro a wa hJ hout hin
      have e58:a.eval (.tmp 58)=.pointer (some ⟨q4,6,none⟩):=hout 58 (by kernel_rfl)
      refine ZaF rfl rfl (v:=.int .i64 d.now) (w':=wa) ?_ (hJ.same rfl)
      have hq:=hCELL wa hJ
      unfold execOp
      simp only [e58]
      go_simp
     ·intro a wa hJ hout hin
      have e60:a.eval (.tmp 60)=.pointer (some ⟨g,0,none⟩):=hout 60 (by kernel_rfl)
      refine ZaI [.pointer (some ⟨g,0,none⟩),.int .i64 700] rfl rfl rfl rfl (uh EGN) ?_ ?_
      · show [a.eval (.tmp 60),_]=_
        rw [e60]
        rfl
      · exact Zbn hJ 700 (by decide) (by decide) (fun _ h=>h)
     ·intro a wa hJ hout hin
      have e59:a.eval (.tmp 59)=.int .i64 d.now:=hin 3 59 (by kernel_rfl)
      obtain ⟨r2,e61,hr20,hr21⟩:ZbO 700 (a.eval (.tmp 61)):=hin 5 61 (by kernel_rfl)
      have hw:IntKind.i64.wrap (d.now+r2)=d.now+r2:=IntWalk.i64_in _ (by omega)
      refine ZaF rfl rfl (v:=.int .i64 (d.now+r2)) (w':=wa) ?_ (hJ.same ⟨_,rfl⟩)
      clear hr21
      unfold execOp
      simp only [e59,e61]
      go_simp
     ·intro a wa hJ hout hin
      have e64:a.eval (.tmp 64)=.pointer (some ⟨g,0,none⟩):=hout 64 (by kernel_rfl)
      refine ZaI [.pointer (some ⟨g,0,none⟩)] rfl rfl rfl rfl (uh EGW) ?_ ?_
      · show [a.eval (.tmp 64)]=_
        rw [e64]
      · exact (now_cx wa g g hJ.2).mono fun _ _ ⟨t,he,hj⟩=>⟨_,he,hJ.codes hj.2 hj.1 ⟨t,rfl⟩⟩
     ·intro a wa hJ hout hin
      have e57:a.eval (.tmp 57)=.int .i64 d.now:=hin 1 57 (by kernel_rfl)
      obtain ⟨x1,e62⟩ :∃r:Int,a.eval (.tmp 62)=.int .i64 r:=hin 6 62 (by kernel_rfl)
      have e63:a.eval (.tmp 63)=.int .i64 now:=hout 63 (by kernel_rfl)
      obtain ⟨x3,e65⟩ :∃r:Int,a.eval (.tmp 65)=.int .i64 r:=hin 9 65 (by kernel_rfl)
      refine ZaF rfl rfl (v:=.slice (some ⟨wa.heap.size,0,none⟩) 4 4) (w':=wa.alloc (.cells #[.int .i64 d.now,.int .i64 x1,.int .i64 now,.int .i64 x3] 2)) ?_ (ZbE hJ _ ⟨_,_,_,_,_,rfl,Blk.new _ _ _,hJ.size⟩)
      simp [execOp,e57,e62,e63,e65,run_slice_t4]
     ·intro a wa hJ hout hin
      have e67:a.eval (.tmp 67)=.pointer (some ⟨g,0,none⟩):=hout 67 (by kernel_rfl)
      refine ZaI [.pointer (some ⟨g,0,none⟩),.int .i64 4] rfl rfl rfl rfl (uh EGN) ?_ ?_
      · show [a.eval (.tmp 67),_]=_
        rw [e67]
        rfl
      · exact Zbn hJ 4 (by decide) (by decide) (fun _ h=>h)
     ·intro a wa hJ hout hin
      obtain ⟨q,x0,x1,x2,x3,e66,hq1,hq2⟩ :∃(q:Nat) (x0 x1 x2 x3:Int),a.eval (.tmp 66)=.slice (some ⟨q,0,none⟩) 4 4∧Blk wa q 2 #[.int .i64 x0,.int .i64 x1,.int .i64 x2,.int .i64 x3]∧w10.heap.size≤q:=hin 10 66 (by kernel_rfl)
      obtain ⟨r2,e68,hr20,hr21⟩:ZbO 4 (a.eval (.tmp 68)):=hin 12 68 (by kernel_rfl)
      obtain ⟨k2,rfl⟩ :∃k2:Nat,r2=(k2:Int):=⟨r2.toNat,by omega⟩
      have hk2':k2 < 4:=by omega
      have hk3:(k2:Int) < 4:=by omega
      have hk4:(0:Int)≤(k2:Int):=by omega
      refine ZaF rfl rfl (v:=.pointer (some ⟨q,k2,none⟩)) (w':=wa) ?_ (hJ.same ⟨q,k2,x0,x1,x2,x3,rfl,hq1,hq2,hk2'⟩)
      clear hr21
      unfold execOp
      simp only [e66,e68]
      go_simp
     ·intro a wa hJ hout hin
      obtain ⟨q,k2,x0,x1,x2,x3,e69,hq1,hq2,hk2'⟩ :∃(q k:Nat) (x0 x1 x2 x3:Int),a.eval (.tmp 69)=.pointer (some ⟨q,k,none⟩)∧Blk wa q 2 #[.int .i64 x0,.int .i64 x1,.int .i64 x2,.int .i64 x3]∧w10.heap.size≤q∧k < 4:=hin 13 69 (by kernel_rfl)
      obtain ⟨m,hx⟩ :∃m:Int,wa.cell? ⟨q,k2,none⟩=some (.int .i64 m):=by
        rw [hq1.cell]
        have:k2=0∨k2=1∨k2=2∨k2=3:=by omega
        rcases this with rfl | rfl | rfl | rfl<;>exact ⟨_,rfl⟩
      refine ZaF rfl rfl (v:=.int .i64 m) (w':=wa) ?_ (hJ.same ⟨_,rfl⟩)
      unfold execOp
      simp only [e69]
      go_simp
     intro vals ww hJw hRw
     simp only [puts,Act.put,zA,zB,zC]
     obtain ⟨t,et⟩ :∃r:Int,vals 14=.int .i64 r:=hRw 14 (by rfl)
     rw [et]
     clear et hRw
     refine tq 15 rfl trivial ?_
     refine tDz ?_
     go_wp2_with fail
     go_meet
     exact ⟨t,rfl,hJw⟩
   case rest =>
     obtain ⟨w11,rfl⟩ :∃w11:World,w11=wc:=⟨_,rfl⟩
     obtain ⟨t,rfl,hjc⟩:=hcut
     have HJ11:=jd ((uh HJ10).then_ hjc)
     have HB11:Hid (Blk w11 q14 29 #[.slice At L.length ct,.int .u32 (nxt:Int)]):=jd (hjc.blk (uh HB10) (by omega))
     clear hjc HB10 HJ10 HJD hCELL hg10
     go_wp2_with fail
     refine (Zav w11 g g 6 (uh HJ11).2 (by decide) (by decide)).mono ?_
     rintro e w12 ⟨r34,rfl,hr0',hr1',hcx,hgx⟩
     have HJ12:=jd ((uh HJ11).then_ ⟨hgx,hcx⟩)
     have HB12:Hid (Blk w12 q14 29 #[.slice At L.length ct,.int .u32 (nxt:Int)]):=jd ((uh HB11).gb hgx)
     obtain ⟨t34,ht34⟩ :∃t,decide ((0:Int) < r34)=t:=⟨_,rfl⟩
     clear hcx hgx HJ11 HB11 hr0' hr1'
     go_upto_if 74 with fail
     go_cut [16] from 74 to 76 (fun v wj=>∃ (Az:Option Addr) (nz cz:Nat) (zs:List UInt8),v=.slice Az nz cz∧nz≤cz∧cz≤maxLen∧(∀ wz,CJ wj g g wz→Zaj wz wz.heap.size 1 Az nz (bsV zs))∧CJ w12 g g wj)
     case first =>
      as_aux_lemma =>
      cases t34
      · go_wp2_with fail
        go_meet
        exact ⟨Ar,nr,cr,rs,rfl,uh HNR,uh HCR,(fun wz hz=>((uh HRR).below ((uh HLOW) wz ((uh HJ12).then_ hz))).more ((uh HLOW) wz ((uh HJ12).then_ hz)).size),CJ.start (uh HJ12).2⟩
      · go_wp2_with fail
        refine (ZdV w12 g g base q4 d _ _ _ _ _ V (uh HJ12).2 ((uh HA5).cj (uh HC5) ((uh HJ7).then_ (uh HJ12)).1) (uh HOK).pok (by have:=(uh HOK).plen; omega)).mono ?_
        rintro e w35 ⟨v35,zs,rfl,_,_,ho35,hj35⟩
        obtain ⟨A35,c35,e35,hn35,hm35⟩:=Zac ho35
        subst e35
        have HO35:=jd ho35
        have HJ35:=jd hj35
        clear ho35 hj35
        go_wp2_with fail
        go_meet
        exact ⟨A35,_,c35,zs,rfl,hn35,hm35,(fun wz hz=>Zaj.of_own (Zap (uh HO35) hz.1 (Zbi (uh HJ35).2 (uh HO35) (by decide)))),uh HJ35⟩
     case rest =>
      obtain ⟨WB,rfl⟩ :∃w16:World,w16=wc:=⟨_,rfl⟩
      obtain ⟨Az,nz,cz,zs,rfl,hnz,hcz,hrz,hjz⟩:=hcut
      have HNZ:=jd hnz
      have HCZ:=jd hcz
      have HRZ:=jd hrz
      have HJB:Hid (CJ W7 g g WB):=jd ((uh HJ12).then_ hjz)
      have HBB:Hid (∀ wz,CJ WB g g wz→Blk wz q14 29 #[.slice At L.length ct,.int .u32 (nxt:Int)]):=jd (fun wz hz=>hz.blk (hjz.blk (uh HB12) (by omega)) (by omega))
      have hq14B:q14 < WB.heap.size:=((uh HBB) WB (CJ.start hjz.2)).lt
      have HSL:Hid (∀ wz,CJ WB g g wz→ZaA wz wz.heap.size At L.length L):=jd (fun wz hz=>uh HT wz ((uh HJB).then_ hz))
      have HDL:Hid (∀ wz,CJ WB g g wz→Zaj wz wz.heap.size 1 Ad nd (bsV ds)):=jd (fun wz hz=>((uh HRD).below ((uh HLOW) wz ((uh HJB).then_ hz))).more ((uh HLOW) wz ((uh HJB).then_ hz)).size)
      have HUL:Hid (∀ wz,CJ WB g g wz→UsrL wz wz.heap.size Au d.U.length d.U∧ChnL wz wz.heap.size Ac d.C.length d.C):=jd (fun wz hz=>by
        have hm:=((uh HA5).cj (uh HC5) ((uh HJ7).then_ ((uh HJB).then_ hz)).1).m
        exact ⟨Zfi hm.u (uh HUOK),Zfh hm.c⟩)
      have HAL:Hid (∀ wz,CJ WB g g wz→wz.rangeAt q4 2 [.slice Au d.U.length cu,.slice Ac d.C.length cc]):=jd (fun wz hz=>uh HP2 wz ((uh HJ7).then_ ((uh HJB).then_ hz)))
      have HOKL:Hid (ZaE L):=jd ((uh HSL) WB (CJ.start hjz.2)).ok
      have hul:=(uh HOK).ulen
      have hcl:=(uh HOK).clen
      have hgB:g < WB.heap.size:=hjz.2.lt
      have HJ0:=jd (CJ.start hjz.2:CJ WB g g WB)
      clear ht34 hnz hcz hrz hjz HJ12 HB12 HT
      go_wp2_with fail
      refine (Zav WB g g 4 (uh HJ0).2 (by decide) (by decide)).mono ?_
      rintro e w13 ⟨r,rfl,hr0',hr1',hcx,hgx⟩
      obtain ⟨id,rfl⟩ :∃n:Nat,r=(n:Int):=⟨r.toNat,by omega⟩
      have hid:id < 4294967296:=by omega
      have hid3:(id:Int) % 4294967296=(id:Int):=by omega
      have HJ13:Hid (CJ WB g g w13):=jd ⟨hgx,hcx⟩
      clear hcx hgx hr0' hr1' HJ0
      go_wp2_with fail
      refine (Zav w13 g g 3 (uh HJ13).2 (by decide) (by decide)).mono ?_
      rintro e w14 ⟨r,rfl,h0,h1,hcx,hgx⟩
      obtain ⟨kb,rfl⟩:=num_byte h0 (show r < 256 by omega)
      have HJ14:=jd ((uh HJ13).then_ ⟨hgx,hcx⟩)
      clear hcx hgx h0 h1 HJ13 hid3
      go_upto_region 15 with fail
      obtain ⟨t1,ht1⟩ :∃t,ZaS L nxt=t:=⟨_,rfl⟩
      have HT1':=jd ht1
      obtain ⟨fi,hfi⟩ :∃i,Zbl (idP id) L 0=i:=⟨_,rfl⟩
      have HFI:=jd hfi
      clear ht1 hfi
      have HJE:=jd (uh HJ14).drew
      have hS0:CJ WB g g w14.drew:=uh HJE
      refine wp_region_noPanic (wp_region_held_drew (S:=fun wz=>CJ WB g g wz) (by kernel_rfl) hS0 (fun _=>?_))
      refine tJz 0 rfl (Zar 29 (.tmp 14) (by rfl) rfl q14 rfl 29 #[.slice At L.length ct,.int .u32 (nxt:Int)] _ (uh HBB) Tryz.underlying29 rfl (by kernel_rfl)) hS0 ?_
      refine tJz 2 rfl (Zar 29 (.tmp 14) (by rfl) rfl q14 rfl 29 #[.slice At L.length ct,.int .u32 (nxt:Int)] _ (uh HBB) Tryz.underlying29 rfl (by kernel_rfl)) hS0 ?_
      refine tCz 1 rfl fun K hK=>?_
      go_simp
      refine (Zdb _ At L.length ct L nxt (uh HSL _ hS0) (by unfold maxLen; omega) hnxt t1 (uh HT1')).mono ?_
      rintro e wa1 ⟨rfl,hbz⟩
      have hSa:CJ WB g g wa1:=(hS0.below hbz trivial).1
      clear hbz
      refine hK.out _ _ hSa (fun _=>?_)
      clear hK K
      try simp only [Act.put,zA,zB,zC]
      refine tCz 3 rfl fun K hK=>?_
      go_simp
      refine (Zds _ At L.length ct L nxt (uh HSL _ hSa) (by unfold maxLen; omega) hnxt t1 (uh HT1')).mono ?_
      rintro e wa2 ⟨rfl,hbz⟩
      have hSb:CJ WB g g wa2:=(hSa.below hbz trivial).1
      clear hbz
      refine hK.out _ _ hSb (fun _=>?_)
      clear hK K
      try simp only [Act.put,zA,zB,zC]
      refine tq 4 rfl hSb ?_
      refine tq 5 rfl hSb ?_
      refine tJz 6 rfl (Zar 29 (.tmp 14) (by rfl) rfl q14 rfl 29 #[.slice At L.length ct,.int .u32 (nxt:Int)] _ (uh HBB) Tryz.underlying29 rfl (by kernel_rfl)) hSb ?_
      refine tq 7 rfl hSb ?_
      refine tJz 9 rfl (Zar 29 (.tmp 14) (by rfl) rfl q14 rfl 29 #[.slice At L.length ct,.int .u32 (nxt:Int)] _ (uh HBB) Tryz.underlying29 rfl (by kernel_rfl)) hSb ?_
      refine tq 10 rfl hSb ?_
      refine tCz 8 rfl fun K hK=>?_
      go_simp
      refine (Zfq _ At L.length ct L _ (uh HSL _ hSb) (by unfold maxLen; omega) id).mono ?_
      rintro e wa3 ⟨rfl,hbz⟩
      have hSc:CJ WB g g wa3:=(hSb.below hbz trivial).1
      clear hbz
      refine hK.out _ _ hSc (fun _=>?_)
      clear hK K
      try simp only [Act.put,zA,zB,zC]
      refine tCz 11 rfl fun K hK=>?_
      go_simp
      refine (Zer _ At L.length ct L _ (uh HSL _ hSc) (by unfold maxLen; omega) id).mono ?_
      rintro e wa4 ⟨rfl,hbz⟩
      have hSd:CJ WB g g wa4:=(hSc.below hbz trivial).1
      clear hbz
      refine hK.out _ _ hSd (fun _=>?_)
      clear hK K
      try simp only [Act.put,zA,zB,zC]
      rw [uh HFI]
      refine tq 12 rfl hSd ?_
      refine tq 13 rfl hSd ?_
      refine tq 14 rfl hSd ?_
      refine tJz 15 rfl (Zar 29 (.tmp 14) (by rfl) rfl q14 rfl 29 #[.slice At L.length ct,.int .u32 (nxt:Int)] _ (uh HBB) Tryz.underlying29 rfl (by kernel_rfl)) hSd ?_
      refine tq 16 rfl hSd ?_
      refine tJz 18 rfl (Zar 29 (.tmp 14) (by rfl) rfl q14 rfl 29 #[.slice At L.length ct,.int .u32 (nxt:Int)] _ (uh HBB) Tryz.underlying29 rfl (by kernel_rfl)) hSd ?_
      refine tq 19 rfl hSd ?_
      refine tCz 17 rfl fun K hK=>?_
      go_simp
      refine (Zea _ At L.length ct L nxt (uh HSL _ hSd) (by omega) hnxt t).mono ?_
      rintro e wa5 ⟨v5,rfl,ho5,hbz⟩
      have hSe:CJ WB g g wa5:=(hSd.below hbz trivial).1
      obtain ⟨A5,c5,e5,_,_⟩:=Zac ho5
      subst e5
      have HS5:=jd (ZaA.of_own ho5 (ZcP (uh HOKL)))
      clear ho5
      clear hbz
      refine hK.out _ _ hSe (fun _=>?_)
      clear hK K
      try simp only [Act.put,zA,zB,zC]
      refine tCz 20 rfl fun K hK=>?_
      go_simp
      refine (rexpire_sx _ At L.length ct L nxt (uh HSL _ hSe) (by omega) hnxt t).mono ?_
      rintro e wa6 ⟨v6,rfl,ho6,hbz⟩
      have hSf:CJ WB g g wa6:=(hSe.below hbz trivial).1
      obtain ⟨A6,c6,e6,_,_⟩:=Zac ho6
      subst e6
      have HS6:=jd (ZaA.of_own ho6 (ZcP (uh HOKL)))
      have HS5b:=jd (((uh HS5).below hbz).more hbz.size)
      have hel:=Zd2 L nxt t
      clear ho6
      clear hbz
      refine hK.out _ _ hSf (fun _=>?_)
      clear hK K
      try simp only [Act.put,zA,zB,zC]
      refine tCz 21 rfl fun K hK=>?_
      go_simp
      refine (ZdK _ A5 A6 (expF L nxt t).length c5 c6 (expF L nxt t) nxt (uh HS5b) (uh HS6) (by omega)).mono ?_
      rintro e wa7 ⟨rfl,hbz⟩
      have hSg:CJ WB g g wa7:=(hSf.below hbz trivial).1
      clear hbz
      refine hK.out _ _ hSg (fun _=>?_)
      clear hK K
      try simp only [Act.put,zA,zB,zC]
      refine tq 22 rfl hSg ?_
      refine tq 23 rfl hSg ?_
      refine tDz ?_
      have HJ15:=jd hSg
      clear hS0 hSa hSb hSc hSd hSe hSf hSg HS5 HS6 HS5b hel HJ14 HJE HT1' HFI
      go_wp2_with fail
      refine (Zav wa7 g g 3 (uh HJ15).2 (by decide) (by decide)).mono ?_
      rintro e w17 ⟨ch,rfl,_,_,hcx,hgx⟩
      have HJ17:=jd ((uh HJ15).then_ ⟨hgx,hcx⟩)
      clear hcx hgx HJ15
      obtain ⟨r1,hr1⟩ :∃r,ZbI L nxt d.U d.C ch zs nonce t=r:=⟨_,rfl⟩
      have Hr1:=jd hr1
      have Ar1:Hid (ZaE r1.L∧r1.L.length≤6):=jd (hr1 ▸ all_hello (uh HOKL) hnxt (uh HUOK) hno)
      have Br1:=jd (hr1 ▸ ZbX L nxt d.U d.C ch zs nonce t)
      have hlr:r1.L.length≤6:=(uh Ar1).2
      clear hr1
      go_wp2_with (first
        | (refine wpList_load_row rfl 29 _ rfl q14 rfl 29 _ _ _ ((uh HBB) _ (uh HJ17)) Tryz.underlying29 rfl (by kernel_rfl) ?_)
        | (refine wpList_load_mid rfl 33 (.tmp 110) rfl q4 2 rfl [.slice Au d.U.length cu,.slice Ac d.C.length cc] _ ((uh HAL) _ (uh HJ17)) Tryz.underlying33 rfl (by kernel_rfl) ?_)
        | fail)
      refine (hello_sx w17 At L.length ct L nxt ((uh HSL) _ (uh HJ17)) (by omega) hnxt Au d.U.length cu Ac d.C.length cc d.U d.C ((uh HUL) _ (uh HJ17)).1 ((uh HUL) _ (uh HJ17)).2 (by unfold maxLen; omega) (by unfold maxLen; omega) ch Az nz cz zs ((uh HRZ) _ (uh HJ17)) (uh HNZ) (uh HCZ) nonce hno t r1 (uh Hr1)).mono ?_
      rintro e y1a hp
      obtain ⟨Aa1,ka1,Ab1,kb_1,rfl,hs,hz,hb⟩:=hp.r (uh Br1) (uh Ar1).1
      have Jy1a:Hid (CJ WB g g y1a):=jd ((uh HJ17).below hb trivial).1
      have Sy1a:=jd hs
      have Zy1a:=jd hz
      clear hp hs hz hb
      obtain ⟨Vy1a,hVy1a⟩ :∃W,y1a.alloc (.cells #[.slice none 0 0,.int .u32 0] 29)=W:=⟨_,rfl⟩
      have hby:Below y1a.heap.size y1a Vy1a:=hVy1a ▸ (Below.refl _ _).alloc (Nat.le_refl _) _
      have JVy1a:Hid (CJ WB g g Vy1a):=jd ((uh Jy1a).below hby trivial).1
      have K20:Hid (Blk Vy1a y1a.heap.size 29 #[.slice none 0 0,.int .u32 0]):=jd (hVy1a ▸ Blk.new y1a _ _)
      have Sy1av:=jd (((uh Sy1a).below hby).more hby.size)
      have Zy1av:=jd (((uh Zy1a).below hby).more hby.size)
      have HVy1a:=jd hVy1a
      obtain ⟨q20,hq20⟩ :∃q,y1a.heap.size=q:=⟨_,rfl⟩
      have hqB20:WB.heap.size≤q20:=by rw [← hq20]; exact (uh Jy1a).size
      clear hby hVy1a
      go_upto_region 19 with (first
        |(refine Zag rfl 29 rfl _ y1a.heap.size rfl (ZaB _) ?_
          rw [uh HVy1a])
        |(refine Zaa rfl 29 (.tmp 20) (.tmp 117) rfl y1a.heap.size 29 _ #[.slice Aa1 r1.L.length ka1,.int .u32 (r1.nx:Int)] rfl rfl (uh K20) rfl (by kernel_rfl) (oZz rfl rfl) ?_
          intro y1b hb hg
          have hP0:=uh K20
          rw [hq20] at hb hg hP0
          have Ny1b:=jd hb
          have Jy1b:=jd ((uh JVy1a).put hg hqB20 (by omega))
          have Sy1b:=jd (ZaA.stored (nx:=0) (uh Sy1av) hP0 hg)
          have Zy1b:=jd (Zaj.stored (nx:=0) (uh Zy1av) hP0 hg)
          clear hb hg hP0)
        | fail)
      try simp only [Act.put,zA,zB,zC]
      try rw [hq20]
      clear hq20 HVy1a
      go_wp2_with (first
        | (refine wpList_load_row rfl 29 _ rfl q14 rfl 29 _ _ _ ((uh HBB) _ (uh Jy1b)) Tryz.underlying29 rfl (by kernel_rfl) ?_)
        | (refine wpList_load_mid rfl 33 (.tmp 122) rfl q4 2 rfl [.slice Au d.U.length cu,.slice Ac d.C.length cc] _ ((uh HAL) _ (uh Jy1b)) Tryz.underlying33 rfl (by kernel_rfl) ?_)
        | fail)
      refine (Zdq y1b At L.length ct L nxt ((uh HSL) _ (uh Jy1b)) (by omega) hnxt Au d.U.length cu Ac d.C.length cc d.U d.C ((uh HUL) _ (uh Jy1b)).1 ((uh HUL) _ (uh Jy1b)).2 (by unfold maxLen; omega) (by unfold maxLen; omega) ch Az nz cz zs ((uh HRZ) _ (uh Jy1b)) (uh HNZ) (uh HCZ) nonce hno t r1 (uh Hr1)).mono ?_
      rintro e y1c hp
      obtain ⟨Ac_1,kc1,Ae1,ke1,rfl,hs,hz,hb⟩:=hp.r (uh Br1) (uh Ar1).1
      have Jy1c:Hid (CJ WB g g y1c):=jd ((uh Jy1b).below hb trivial).1
      have Sy1c:=jd hs
      have Zy1c:=jd hz
      have K20:=jd ((uh Ny1b).below hb (uh Ny1b).lt)
      have Sx:=jd (((uh Sy1b).below hb).more hb.size)
      have Zx:=jd (((uh Zy1b).below hb).more hb.size)
      clear hp hs hz hb
      obtain ⟨Vy1c,hVy1c⟩ :∃W,y1c.alloc (.cells #[.slice none 0 0,.int .u32 0] 29)=W:=⟨_,rfl⟩
      have hby:Below y1c.heap.size y1c Vy1c:=hVy1c ▸ (Below.refl _ _).alloc (Nat.le_refl _) _
      have JVy1c:Hid (CJ WB g g Vy1c):=jd ((uh Jy1c).below hby trivial).1
      have K23:Hid (Blk Vy1c y1c.heap.size 29 #[.slice none 0 0,.int .u32 0]):=jd (hVy1c ▸ Blk.new y1c _ _)
      have K20v:=jd ((uh K20).below hby (uh K20).lt)
      have Sxv:=jd (((uh Sx).below hby).more hby.size)
      have Sy1cv:=jd (((uh Sy1c).below hby).more hby.size)
      have Zxv:=jd (((uh Zx).below hby).more hby.size)
      have Zy1cv:=jd (((uh Zy1c).below hby).more hby.size)
      have HVy1c:=jd hVy1c
      obtain ⟨q23,hq23⟩ :∃q,y1c.heap.size=q:=⟨_,rfl⟩
      have hqB23:WB.heap.size≤q23:=by rw [← hq23]; exact (uh Jy1c).size
      have hq2023:q20 < q23:=by rw [← hq23]; exact (uh K20).lt
      clear hby hVy1c
      go_upto_region 20 with (first
        |(refine Zag rfl 29 rfl _ y1c.heap.size rfl (ZaB _) ?_
          rw [uh HVy1c])
        |(refine Zaa rfl 29 (.tmp 23) (.tmp 129) rfl y1c.heap.size 29 _ #[.slice Ac_1 r1.L.length kc1,.int .u32 (r1.nx:Int)] rfl rfl (uh K23) rfl (by kernel_rfl) (oZz rfl rfl) ?_
          intro y1d hb hg
          have hP0:=uh K23
          rw [hq23] at hb hg hP0
          have Ny1d:=jd hb
          have Jy1d:=jd ((uh JVy1c).put hg hqB23 (by omega))
          have M20:=jd ((uh K20v).gb hg)
          have Sq:=jd (ZaA.stored (nx:=0) (uh Sxv) hP0 hg)
          have Sr:=jd (ZaA.stored (nx:=0) (uh Sy1cv) hP0 hg)
          have Zq:=jd (Zaj.stored (nx:=0) (uh Zxv) hP0 hg)
          have Zr:=jd (Zaj.stored (nx:=0) (uh Zy1cv) hP0 hg)
          clear hb hg hP0)
        | fail)
      try simp only [Act.put,zA,zB,zC]
      try rw [hq23]
      clear hq23 HVy1c
      go_wp2_with (first
        | (refine ZaW (v:=.agg #[.slice Aa1 r1.L.length ka1,.int .u32 (r1.nx:Int)]) (Zar 29 (.tmp 20) (by rfl) rfl q20 rfl 29 #[.slice Aa1 r1.L.length ka1,.int .u32 (r1.nx:Int)] _ (fun z hz=>by rw [hz]; exact uh M20) Tryz.underlying29 rfl (by kernel_rfl)) ?_)
        | (refine ZaW (v:=.agg #[.slice Ac_1 r1.L.length kc1,.int .u32 (r1.nx:Int)]) (Zar 29 (.tmp 23) (by rfl) rfl q23 rfl 29 #[.slice Ac_1 r1.L.length kc1,.int .u32 (r1.nx:Int)] _ (fun z hz=>by rw [hz]; exact uh Ny1d) Tryz.underlying29 rfl (by kernel_rfl)) ?_)
        | (refine ZaW (v:=.string ⟨r1.bs.toArray⟩) (Zdp 22 9 5 (.tmp 136) (by rfl) rfl Ab1 r1.bs.length kb_1 rfl y1d.heap.size r1.bs (fun z hz=>by rw [hz]; exact uh Zq) Tryz.underlying22 Tryz.underlying5 Tryz.underlying9) ?_)
        | (refine ZaW (v:=.string ⟨r1.bs.toArray⟩) (Zdp 22 9 5 (.tmp 138) (by rfl) rfl Ae1 r1.bs.length ke1 rfl y1d.heap.size r1.bs (fun z hz=>by rw [hz]; exact uh Zr) Tryz.underlying22 Tryz.underlying5 Tryz.underlying9) ?_)
        | fail)
      refine (ZdK y1d Aa1 Ac_1 r1.L.length ka1 kc1 r1.L r1.nx (uh Sq) (uh Sr) (by omega)).mono ?_
      rintro e y1e ⟨rfl,hb⟩
      have Jy1e:Hid (CJ WB g g y1e):=jd ((uh Jy1d).below hb trivial).1
      have N20_1:=jd ((uh M20).below hb (uh M20).lt)
      have N23_1:=jd ((uh Ny1d).below hb (uh Ny1d).lt)
      clear hb K20 K23 M20 Sx Sq Sr Sy1a Sy1b Sy1c Ny1b Ny1d Jy1a Jy1b Jy1c Jy1d Zx Zq Zr Zy1a Zy1b Zy1c hlr
      obtain ⟨r2,hr2⟩ :∃r,ZbN L nxt zs t=r:=⟨_,rfl⟩
      have Hr2:=jd hr2
      have Ar2:Hid (ZaE r2.L∧r2.L.length≤6):=jd (hr2 ▸ all_proof (uh HOKL) hnxt)
      have Br2:=jd (hr2 ▸ Zci L nxt zs t)
      have hlr:r2.L.length≤6:=(uh Ar2).2
      clear hr2
      go_wp2_with (first
        | (refine wpList_load_row rfl 29 _ rfl q14 rfl 29 _ _ _ ((uh HBB) _ (uh Jy1e)) Tryz.underlying29 rfl (by kernel_rfl) ?_)
        | fail)
      refine (proof_sx y1e At L.length ct L nxt ((uh HSL) _ (uh Jy1e)) (by omega) hnxt Az nz cz zs ((uh HRZ) _ (uh Jy1e)) (uh HNZ) (uh HCZ) t r2 (uh Hr2)).mono ?_
      rintro e y2a hp
      obtain ⟨Aa2,ka2,Ab2,kb_2,rfl,hs,hz,hb⟩:=hp.r (uh Br2) (uh Ar2).1
      have Jy2a:Hid (CJ WB g g y2a):=jd ((uh Jy1e).below hb trivial).1
      have Sy2a:=jd hs
      have Zy2a:=jd hz
      have K20:=jd ((uh N20_1).below hb (uh N20_1).lt)
      have K23:=jd ((uh N23_1).below hb (uh N23_1).lt)
      clear hp hs hz hb
      go_upto_region 23 with (first
        |(refine Zaa rfl 29 (.tmp 20) (.tmp 153) rfl q20 29 _ #[.slice Aa2 r2.L.length ka2,.int .u32 (r2.nx:Int)] rfl rfl (uh K20) rfl (by kernel_rfl) (oZz rfl rfl) ?_
          intro y2b hb hg
          have hP0:=uh K20
          have Ny2b:=jd hb
          have Jy2b:=jd ((uh Jy2a).put hg hqB20 (by omega))
          have M23:=jd ((uh K23).gb hg)
          have Sy2b:=jd (ZaA.stored (uh Sy2a) hP0 hg)
          have Zy2b:=jd (Zaj.stored (uh Zy2a) hP0 hg)
          clear hb hg hP0)
        | fail)
      try simp only [Act.put,zA,zB,zC]
      go_wp2_with (first
        | (refine wpList_load_row rfl 29 _ rfl q14 rfl 29 _ _ _ ((uh HBB) _ (uh Jy2b)) Tryz.underlying29 rfl (by kernel_rfl) ?_)
        | fail)
      refine (Zd5 y2b At L.length ct L nxt ((uh HSL) _ (uh Jy2b)) (by omega) hnxt Az nz cz zs ((uh HRZ) _ (uh Jy2b)) (uh HNZ) (uh HCZ) t r2 (uh Hr2)).mono ?_
      rintro e y2c hp
      obtain ⟨Ac_2,kc2,Ae2,ke2,rfl,hs,hz,hb⟩:=hp.r (uh Br2) (uh Ar2).1
      have Jy2c:Hid (CJ WB g g y2c):=jd ((uh Jy2b).below hb trivial).1
      have Sy2c:=jd hs
      have Zy2c:=jd hz
      have K20:=jd ((uh Ny2b).below hb (uh Ny2b).lt)
      have Sx:=jd (((uh Sy2b).below hb).more hb.size)
      have Zx:=jd (((uh Zy2b).below hb).more hb.size)
      have K23:=jd ((uh M23).below hb (uh M23).lt)
      clear hp hs hz hb
      go_upto_region 24 with (first
        |(refine Zaa rfl 29 (.tmp 23) (.tmp 161) rfl q23 29 _ #[.slice Ac_2 r2.L.length kc2,.int .u32 (r2.nx:Int)] rfl rfl (uh K23) rfl (by kernel_rfl) (oZz rfl rfl) ?_
          intro y2d hb hg
          have hP0:=uh K23
          have Ny2d:=jd hb
          have Jy2d:=jd ((uh Jy2c).put hg hqB23 (by omega))
          have M20:=jd ((uh K20).gb hg)
          have Sq:=jd (ZaA.stored (uh Sx) hP0 hg)
          have Sr:=jd (ZaA.stored (uh Sy2c) hP0 hg)
          have Zq:=jd (Zaj.stored (uh Zx) hP0 hg)
          have Zr:=jd (Zaj.stored (uh Zy2c) hP0 hg)
          clear hb hg hP0)
        | fail)
      try simp only [Act.put,zA,zB,zC]
      go_wp2_with (first
        | (refine ZaW (v:=.agg #[.slice Aa2 r2.L.length ka2,.int .u32 (r2.nx:Int)]) (Zar 29 (.tmp 20) (by rfl) rfl q20 rfl 29 #[.slice Aa2 r2.L.length ka2,.int .u32 (r2.nx:Int)] _ (fun z hz=>by rw [hz]; exact uh M20) Tryz.underlying29 rfl (by kernel_rfl)) ?_)
        | (refine ZaW (v:=.agg #[.slice Ac_2 r2.L.length kc2,.int .u32 (r2.nx:Int)]) (Zar 29 (.tmp 23) (by rfl) rfl q23 rfl 29 #[.slice Ac_2 r2.L.length kc2,.int .u32 (r2.nx:Int)] _ (fun z hz=>by rw [hz]; exact uh Ny2d) Tryz.underlying29 rfl (by kernel_rfl)) ?_)
        | (refine ZaW (v:=.string ⟨r2.bs.toArray⟩) (Zdp 22 9 5 (.tmp 168) (by rfl) rfl Ab2 r2.bs.length kb_2 rfl y2d.heap.size r2.bs (fun z hz=>by rw [hz]; exact uh Zq) Tryz.underlying22 Tryz.underlying5 Tryz.underlying9) ?_)
        | (refine ZaW (v:=.string ⟨r2.bs.toArray⟩) (Zdp 22 9 5 (.tmp 170) (by rfl) rfl Ae2 r2.bs.length ke2 rfl y2d.heap.size r2.bs (fun z hz=>by rw [hz]; exact uh Zr) Tryz.underlying22 Tryz.underlying5 Tryz.underlying9) ?_)
        | fail)
      refine (ZdK y2d Aa2 Ac_2 r2.L.length ka2 kc2 r2.L r2.nx (uh Sq) (uh Sr) (by omega)).mono ?_
      rintro e y2e ⟨rfl,hb⟩
      have Jy2e:Hid (CJ WB g g y2e):=jd ((uh Jy2d).below hb trivial).1
      have N20_2:=jd ((uh M20).below hb (uh M20).lt)
      have N23_2:=jd ((uh Ny2d).below hb (uh Ny2d).lt)
      clear hb K20 K23 M20 Sx Sq Sr Sy2a Sy2b Sy2c Ny2b Ny2d Jy2a Jy2b Jy2c Jy2d Zx Zq Zr Zy2a Zy2b Zy2c N20_1 N23_1 M23 hlr
      obtain ⟨r3,hr3⟩ :∃r,Zcj L nxt zs t=r:=⟨_,rfl⟩
      have Hr3:=jd hr3
      have Ar3:Hid (ZaE r3.L∧r3.L.length≤6):=jd (hr3 ▸ all_recv (uh HOKL) hnxt)
      have Br3:=jd (hr3 ▸ recv_bad3 L nxt zs t)
      have hlr:r3.L.length≤6:=(uh Ar3).2
      clear hr3
      go_wp2_with (first
        | (refine wpList_load_row rfl 29 _ rfl q14 rfl 29 _ _ _ ((uh HBB) _ (uh Jy2e)) Tryz.underlying29 rfl (by kernel_rfl) ?_)
        | fail)
      refine (recv_sx y2e At L.length ct L nxt ((uh HSL) _ (uh Jy2e)) (by omega) hnxt Az nz cz zs ((uh HRZ) _ (uh Jy2e)) (uh HNZ) (uh HCZ) t r3 (uh Hr3)).mono ?_
      rintro e y3a hp
      obtain ⟨Aa3,ka3,Ab3,kb_3,rfl,hs,hz,hb⟩:=hp.r (uh Br3) (uh Ar3).1
      have Jy3a:Hid (CJ WB g g y3a):=jd ((uh Jy2e).below hb trivial).1
      have Sy3a:=jd hs
      have Zy3a:=jd hz
      have K20:=jd ((uh N20_2).below hb (uh N20_2).lt)
      have K23:=jd ((uh N23_2).below hb (uh N23_2).lt)
      clear hp hs hz hb
      go_upto_region 27 with (first
        |(refine Zaa rfl 29 (.tmp 20) (.tmp 185) rfl q20 29 _ #[.slice Aa3 r3.L.length ka3,.int .u32 (r3.nx:Int)] rfl rfl (uh K20) rfl (by kernel_rfl) (oZz rfl rfl) ?_
          intro y3b hb hg
          have hP0:=uh K20
          have Ny3b:=jd hb
          have Jy3b:=jd ((uh Jy3a).put hg hqB20 (by omega))
          have M23:=jd ((uh K23).gb hg)
          have Sy3b:=jd (ZaA.stored (uh Sy3a) hP0 hg)
          have Zy3b:=jd (Zaj.stored (uh Zy3a) hP0 hg)
          clear hb hg hP0)
        | fail)
      try simp only [Act.put,zA,zB,zC]
      go_wp2_with (first
        | (refine wpList_load_row rfl 29 _ rfl q14 rfl 29 _ _ _ ((uh HBB) _ (uh Jy3b)) Tryz.underlying29 rfl (by kernel_rfl) ?_)
        | fail)
      refine (ZeN y3b At L.length ct L nxt ((uh HSL) _ (uh Jy3b)) (by omega) hnxt Az nz cz zs ((uh HRZ) _ (uh Jy3b)) (uh HNZ) (uh HCZ) t r3 (uh Hr3)).mono ?_
      rintro e y3c hp
      obtain ⟨Ac_3,kc3,Ae3,ke3,rfl,hs,hz,hb⟩:=hp.r (uh Br3) (uh Ar3).1
      have Jy3c:Hid (CJ WB g g y3c):=jd ((uh Jy3b).below hb trivial).1
      have Sy3c:=jd hs
      have Zy3c:=jd hz
      have K20:=jd ((uh Ny3b).below hb (uh Ny3b).lt)
      have Sx:=jd (((uh Sy3b).below hb).more hb.size)
      have Zx:=jd (((uh Zy3b).below hb).more hb.size)
      have K23:=jd ((uh M23).below hb (uh M23).lt)
      clear hp hs hz hb
      go_upto_region 28 with (first
        |(refine Zaa rfl 29 (.tmp 23) (.tmp 195) rfl q23 29 _ #[.slice Ac_3 r3.L.length kc3,.int .u32 (r3.nx:Int)] rfl rfl (uh K23) rfl (by kernel_rfl) (oZz rfl rfl) ?_
          intro y3d hb hg
          have hP0:=uh K23
          have Ny3d:=jd hb
          have Jy3d:=jd ((uh Jy3c).put hg hqB23 (by omega))
          have M20:=jd ((uh K20).gb hg)
          have Sq:=jd (ZaA.stored (uh Sx) hP0 hg)
          have Sr:=jd (ZaA.stored (uh Sy3c) hP0 hg)
          have Zq:=jd (Zaj.stored (uh Zx) hP0 hg)
          have Zr:=jd (Zaj.stored (uh Zy3c) hP0 hg)
          clear hb hg hP0)
        | fail)
      try simp only [Act.put,zA,zB,zC]
      go_wp2_with (first
        | (refine ZaW (v:=.agg #[.slice Aa3 r3.L.length ka3,.int .u32 (r3.nx:Int)]) (Zar 29 (.tmp 20) (by rfl) rfl q20 rfl 29 #[.slice Aa3 r3.L.length ka3,.int .u32 (r3.nx:Int)] _ (fun z hz=>by rw [hz]; exact uh M20) Tryz.underlying29 rfl (by kernel_rfl)) ?_)
        | (refine ZaW (v:=.agg #[.slice Ac_3 r3.L.length kc3,.int .u32 (r3.nx:Int)]) (Zar 29 (.tmp 23) (by rfl) rfl q23 rfl 29 #[.slice Ac_3 r3.L.length kc3,.int .u32 (r3.nx:Int)] _ (fun z hz=>by rw [hz]; exact uh Ny3d) Tryz.underlying29 rfl (by kernel_rfl)) ?_)
        | (refine ZaW (v:=.string ⟨r3.d.toArray⟩) (Zdp 22 9 5 (.tmp 214) (by rfl) rfl Ab3 r3.d.length kb_3 rfl y3d.heap.size r3.d (fun z hz=>by rw [hz]; exact uh Zq) Tryz.underlying22 Tryz.underlying5 Tryz.underlying9) ?_)
        | (refine ZaW (v:=.string ⟨r3.d.toArray⟩) (Zdp 22 9 5 (.tmp 216) (by rfl) rfl Ae3 r3.d.length ke3 rfl y3d.heap.size r3.d (fun z hz=>by rw [hz]; exact uh Zr) Tryz.underlying22 Tryz.underlying5 Tryz.underlying9) ?_)
        | fail)
      refine (ZdK y3d Aa3 Ac_3 r3.L.length ka3 kc3 r3.L r3.nx (uh Sq) (uh Sr) (by omega)).mono ?_
      rintro e y3e ⟨rfl,hb⟩
      have Jy3e:Hid (CJ WB g g y3e):=jd ((uh Jy3d).below hb trivial).1
      have N20_3:=jd ((uh M20).below hb (uh M20).lt)
      have N23_3:=jd ((uh Ny3d).below hb (uh Ny3d).lt)
      clear hb K20 K23 M20 Sx Sq Sr Sy3a Sy3b Sy3c Ny3b Ny3d Jy3a Jy3b Jy3c Jy3d Zx Zq Zr Zy3a Zy3b Zy3c N20_2 N23_2 M23 hlr
      obtain ⟨r4,hr4⟩ :∃r,Zc5 L nxt id kb ds=r:=⟨_,rfl⟩
      have Hr4:=jd hr4
      have Ar4:Hid (ZaE r4.L∧r4.L.length≤6):=jd (hr4 ▸ all_send (uh HOKL) hnxt)
      have Br4:=jd (hr4 ▸ Zcf L nxt id kb ds)
      have hlr:r4.L.length≤6:=(uh Ar4).2
      clear hr4
      go_wp2_with (first
        | (refine wpList_load_row rfl 29 _ rfl q14 rfl 29 _ _ _ ((uh HBB) _ (uh Jy3e)) Tryz.underlying29 rfl (by kernel_rfl) ?_)
        | fail)
      refine (send_sx y3e At L.length ct L nxt ((uh HSL) _ (uh Jy3e)) (by omega) hnxt id hid kb Ad nd cd ds ((uh HDL) _ (uh Jy3e)) (uh HND) (uh HCD) r4 (uh Hr4)).mono ?_
      rintro e y4a hp
      obtain ⟨Aa4,ka4,Ab4,kb_4,rfl,hs,hz,hb⟩:=hp.r (uh Br4) (uh Ar4).1
      have Jy4a:Hid (CJ WB g g y4a):=jd ((uh Jy3e).below hb trivial).1
      have Sy4a:=jd hs
      have Zy4a:=jd hz
      have K20:=jd ((uh N20_3).below hb (uh N20_3).lt)
      have K23:=jd ((uh N23_3).below hb (uh N23_3).lt)
      clear hp hs hz hb
      go_upto_region 31 with (first
        |(refine Zaa rfl 29 (.tmp 20) (.tmp 232) rfl q20 29 _ #[.slice Aa4 r4.L.length ka4,.int .u32 (r4.nx:Int)] rfl rfl (uh K20) rfl (by kernel_rfl) (oZz rfl rfl) ?_
          intro y4b hb hg
          have hP0:=uh K20
          have Ny4b:=jd hb
          have Jy4b:=jd ((uh Jy4a).put hg hqB20 (by omega))
          have M23:=jd ((uh K23).gb hg)
          have Sy4b:=jd (ZaA.stored (uh Sy4a) hP0 hg)
          have Zy4b:=jd (Zaj.stored (uh Zy4a) hP0 hg)
          clear hb hg hP0)
        | fail)
      try simp only [Act.put,zA,zB,zC]
      go_wp2_with (first
        | (refine wpList_load_row rfl 29 _ rfl q14 rfl 29 _ _ _ ((uh HBB) _ (uh Jy4b)) Tryz.underlying29 rfl (by kernel_rfl) ?_)
        | fail)
      refine (Zee y4b At L.length ct L nxt ((uh HSL) _ (uh Jy4b)) (by omega) hnxt id hid kb Ad nd cd ds ((uh HDL) _ (uh Jy4b)) (Nat.le_trans (uh HND) (uh HCD)) r4 (uh Hr4)).mono ?_
      rintro e y4c hp
      obtain ⟨Ac_4,kc4,Ae4,ke4,rfl,hs,hz,hb⟩:=hp.r (uh Br4) (uh Ar4).1
      have Jy4c:Hid (CJ WB g g y4c):=jd ((uh Jy4b).below hb trivial).1
      have Sy4c:=jd hs
      have Zy4c:=jd hz
      have K20:=jd ((uh Ny4b).below hb (uh Ny4b).lt)
      have Sx:=jd (((uh Sy4b).below hb).more hb.size)
      have Zx:=jd (((uh Zy4b).below hb).more hb.size)
      have K23:=jd ((uh M23).below hb (uh M23).lt)
      clear hp hs hz hb
      go_upto_region 32 with (first
        |(refine Zaa rfl 29 (.tmp 23) (.tmp 241) rfl q23 29 _ #[.slice Ac_4 r4.L.length kc4,.int .u32 (r4.nx:Int)] rfl rfl (uh K23) rfl (by kernel_rfl) (oZz rfl rfl) ?_
          intro y4d hb hg
          have hP0:=uh K23
          have Ny4d:=jd hb
          have Jy4d:=jd ((uh Jy4c).put hg hqB23 (by omega))
          have M20:=jd ((uh K20).gb hg)
          have Sq:=jd (ZaA.stored (uh Sx) hP0 hg)
          have Sr:=jd (ZaA.stored (uh Sy4c) hP0 hg)
          have Zq:=jd (Zaj.stored (uh Zx) hP0 hg)
          have Zr:=jd (Zaj.stored (uh Zy4c) hP0 hg)
          clear hb hg hP0)
        | fail)
      try simp only [Act.put,zA,zB,zC]
      go_wp2_with (first
        | (refine ZaW (v:=.agg #[.slice Aa4 r4.L.length ka4,.int .u32 (r4.nx:Int)]) (Zar 29 (.tmp 20) (by rfl) rfl q20 rfl 29 #[.slice Aa4 r4.L.length ka4,.int .u32 (r4.nx:Int)] _ (fun z hz=>by rw [hz]; exact uh M20) Tryz.underlying29 rfl (by kernel_rfl)) ?_)
        | (refine ZaW (v:=.agg #[.slice Ac_4 r4.L.length kc4,.int .u32 (r4.nx:Int)]) (Zar 29 (.tmp 23) (by rfl) rfl q23 rfl 29 #[.slice Ac_4 r4.L.length kc4,.int .u32 (r4.nx:Int)] _ (fun z hz=>by rw [hz]; exact uh Ny4d) Tryz.underlying29 rfl (by kernel_rfl)) ?_)
        | (refine ZaW (v:=.string ⟨r4.bs.toArray⟩) (Zdp 22 9 5 (.tmp 248) (by rfl) rfl Ab4 r4.bs.length kb_4 rfl y4d.heap.size r4.bs (fun z hz=>by rw [hz]; exact uh Zq) Tryz.underlying22 Tryz.underlying5 Tryz.underlying9) ?_)
        | (refine ZaW (v:=.string ⟨r4.bs.toArray⟩) (Zdp 22 9 5 (.tmp 250) (by rfl) rfl Ae4 r4.bs.length ke4 rfl y4d.heap.size r4.bs (fun z hz=>by rw [hz]; exact uh Zr) Tryz.underlying22 Tryz.underlying5 Tryz.underlying9) ?_)
        | fail)
      refine (ZdK y4d Aa4 Ac_4 r4.L.length ka4 kc4 r4.L r4.nx (uh Sq) (uh Sr) (by omega)).mono ?_
      rintro e y4e ⟨rfl,hb⟩
      have Jy4e:Hid (CJ WB g g y4e):=jd ((uh Jy4d).below hb trivial).1
      have N20_4:=jd ((uh M20).below hb (uh M20).lt)
      have N23_4:=jd ((uh Ny4d).below hb (uh Ny4d).lt)
      clear hb K20 K23 M20 Sx Sq Sr Sy4a Sy4b Sy4c Ny4b Ny4d Jy4a Jy4b Jy4c Jy4d Zx Zq Zr Zy4a Zy4b Zy4c N20_3 N23_3 M23 hlr
      obtain ⟨r5,hr5⟩ :∃r,ZdQ L nxt id=r:=⟨_,rfl⟩
      have Hr5:=jd hr5
      have Ar5:Hid (ZaE r5.L∧r5.L.length≤6):=jd (hr5 ▸ all_close (uh HOKL) (by omega))
      have hlr:r5.L.length≤6:=(uh Ar5).2
      clear hr5
      go_wp2_with (first
        | (refine wpList_load_row rfl 29 _ rfl q14 rfl 29 _ _ _ ((uh HBB) _ (uh Jy4e)) Tryz.underlying29 rfl (by kernel_rfl) ?_)
        | fail)
      refine (close_sx y4e At L.length ct L nxt ((uh HSL) _ (uh Jy4e)) (by omega) hnxt id r5 (uh Hr5)).mono ?_
      rintro e y5a hp
      obtain ⟨Aa5,ka5,rfl,hs,hb⟩:=hp
      have Jy5a:Hid (CJ WB g g y5a):=jd ((uh Jy4e).below hb trivial).1
      have Sy5a:=jd hs
      have K20:=jd ((uh N20_4).below hb (uh N20_4).lt)
      have K23:=jd ((uh N23_4).below hb (uh N23_4).lt)
      clear hs hb
      go_upto_region 35 with (first
        |(refine Zaa rfl 29 (.tmp 20) (.tmp 264) rfl q20 29 _ #[.slice Aa5 r5.L.length ka5,.int .u32 (r5.nx:Int)] rfl rfl (uh K20) rfl (by kernel_rfl) (oZz rfl rfl) ?_
          intro y5b hb hg
          have hP0:=uh K20
          have Ny5b:=jd hb
          have Jy5b:=jd ((uh Jy5a).put hg hqB20 (by omega))
          have M23:=jd ((uh K23).gb hg)
          have Sy5b:=jd (ZaA.stored (uh Sy5a) hP0 hg)
          clear hb hg hP0)
        | fail)
      try simp only [Act.put,zA,zB,zC]
      go_wp2_with (first
        | (refine wpList_load_row rfl 29 _ rfl q14 rfl 29 _ _ _ ((uh HBB) _ (uh Jy5b)) Tryz.underlying29 rfl (by kernel_rfl) ?_)
        | fail)
      refine (rclose_sx y5b At L.length ct L nxt ((uh HSL) _ (uh Jy5b)) (by omega) hnxt id r5 (uh Hr5)).mono ?_
      rintro e y5c hp
      obtain ⟨Ac_5,kc5,rfl,hs,hb⟩:=hp
      have Jy5c:Hid (CJ WB g g y5c):=jd ((uh Jy5b).below hb trivial).1
      have Sy5c:=jd hs
      have K20:=jd ((uh Ny5b).below hb (uh Ny5b).lt)
      have Sx:=jd (((uh Sy5b).below hb).more hb.size)
      have K23:=jd ((uh M23).below hb (uh M23).lt)
      clear hs hb
      go_upto_region 36 with (first
        |(refine Zaa rfl 29 (.tmp 23) (.tmp 270) rfl q23 29 _ #[.slice Ac_5 r5.L.length kc5,.int .u32 (r5.nx:Int)] rfl rfl (uh K23) rfl (by kernel_rfl) (oZz rfl rfl) ?_
          intro y5d hb hg
          have hP0:=uh K23
          have Ny5d:=jd hb
          have Jy5d:=jd ((uh Jy5c).put hg hqB23 (by omega))
          have M20:=jd ((uh K20).gb hg)
          have Sq:=jd (ZaA.stored (uh Sx) hP0 hg)
          have Sr:=jd (ZaA.stored (uh Sy5c) hP0 hg)
          clear hb hg hP0)
        | fail)
      try simp only [Act.put,zA,zB,zC]
      go_wp2_with (first
        | (refine ZaW (v:=.agg #[.slice Aa5 r5.L.length ka5,.int .u32 (r5.nx:Int)]) (Zar 29 (.tmp 20) (by rfl) rfl q20 rfl 29 #[.slice Aa5 r5.L.length ka5,.int .u32 (r5.nx:Int)] _ (fun z hz=>by rw [hz]; exact uh M20) Tryz.underlying29 rfl (by kernel_rfl)) ?_)
        | (refine ZaW (v:=.agg #[.slice Ac_5 r5.L.length kc5,.int .u32 (r5.nx:Int)]) (Zar 29 (.tmp 23) (by rfl) rfl q23 rfl 29 #[.slice Ac_5 r5.L.length kc5,.int .u32 (r5.nx:Int)] _ (fun z hz=>by rw [hz]; exact uh Ny5d) Tryz.underlying29 rfl (by kernel_rfl)) ?_)
        | fail)
      refine (ZdK y5d Aa5 Ac_5 r5.L.length ka5 kc5 r5.L r5.nx (uh Sq) (uh Sr) (by omega)).mono ?_
      rintro e y5e ⟨rfl,hb⟩
      have Jy5e:Hid (CJ WB g g y5e):=jd ((uh Jy5d).below hb trivial).1
      have N20_5:=jd ((uh M20).below hb (uh M20).lt)
      have N23_5:=jd ((uh Ny5d).below hb (uh Ny5d).lt)
      clear hb K20 K23 M20 Sx Sq Sr Sy5a Sy5b Sy5c Ny5b Ny5d Jy5a Jy5b Jy5c Jy5d N20_4 N23_4 M23 hlr
      have HJZ:Hid (CJ W7 g g y5e):=jd ((uh HJB).then_ (uh Jy5e))
      go_wp2_with fail
      go_roundw
      case rel=>exact ⟨k+1,by go_num,by omega,uh HJZ⟩
      case measure=>simp [intOf]; omega
  ·have hge:((k:Int) < 2)=False:=by simp; omega
   have HEND:=jd ((uh HLOW) _ (uh HJI))
   clear hklt hk
   go_wp2_with fail
   go_ret
   exact ⟨rfl,uh HEND⟩
end Go.Proofs.YtfbkkmnkpjgciaaGreat
