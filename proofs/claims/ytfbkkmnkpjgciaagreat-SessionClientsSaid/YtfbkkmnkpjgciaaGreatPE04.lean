/- Joined of TCl. No condition. -/
import Derived.Test.YtfbkkmnkpjgciaaGreatPD37
import Derived.Test.YtfbkkmnkpjgciaaGreatPE03
import Derived.Test.YtfbkkmnkpjgciaaGreatPD38
namespace Go.Proofs.YtfbkkmnkpjgciaaGreat
open Go.RowKit
set_option maxRecDepth 100000 in
set_option maxHeartbeats 16000000 in
theorem cli_any (hstep:StepAll) (w:World) (A:Option Addr) (n c:Nat) (bs:List UInt8) (hn:n≤c) (hc:c≤maxLen) (h:Reads w w.heap.size 1 A n (bsV bs)) (Ar:Option Addr) (nr cr:Nat) (rs:List UInt8) (hnr:nr≤cr) (hcr:cr≤maxLen) (hr:Reads w w.heap.size 1 Ar nr (bsV rs))
  (Ad:Option Addr) (nd cd:Nat) (ds:List UInt8) (hnd:nd≤cd) (hcd:cd≤maxLen) (hd:Reads w w.heap.size 1 Ad nd (bsV ds)) (u:List UInt8) (lv:Int) :
  Calls Tryz.prog 5 #[.slice A n c,.slice Ar nr cr,.slice Ad nd cd,.string ⟨u.toArray⟩,.int .i64 lv] w fun e w'=>e=.returned (.bool true)∧Below w.heap.size w w':=by
 have HR:=jd h
 have HRR:=jd hr
 have HRD:=jd hd
 have HSTEP:=jd hstep
 have HNR:=jd hnr
 have HCR:=jd hcr
 have HND:=jd hnd
 have HCD:=jd hcd
 clear h hr hd hstep hnr hcr hnd hcd
 go_enter Tryz.func5,Tryz.ntmps5
 go_wp2_with fail
 refine (awake_sx w).mono ?_
 rintro e w1 ⟨rfl,hb1⟩
 have HL1:=jd hb1
 have hs1:=hb1.size
 clear hb1
 by_cases q1:400 < nr
 case pos =>
  have f1:((400:Int) < (nr:Int))=True:=by simp; omega
  go_wp2_with fail
  go_ret
  exact ⟨rfl,uh HL1⟩
 have f1:((400:Int) < (nr:Int))=False:=by simp; omega
 by_cases q2:400 < nd
 case pos =>
  have f2:((400:Int) < (nd:Int))=True:=by simp; omega
  go_wp2_with fail
  go_ret
  exact ⟨rfl,uh HL1⟩
 have f2:((400:Int) < (nd:Int))=False:=by simp; omega
 by_cases q3:300 < u.length
 case pos =>
  have f3:((300:Int) < (u.length:Int))=True:=by simp; omega
  go_wp2_with fail
  go_ret
  exact ⟨rfl,uh HL1⟩
 have f3:((300:Int) < (u.length:Int))=False:=by simp; omega
 have hu300:u.length≤300:=by omega
 go_wp2_with fail
 clear f1 f2 f3 q1 q2 q3
 refine (new_any w1 A n c bs 300 (((uh HR).below (uh HL1)).more hs1) hn hc (by decide)).mono ?_
 rintro e w2 ⟨rfl,hc2,hb2⟩
 obtain ⟨g,hg⟩ :∃g,w1.heap.size=g:=⟨_,rfl⟩
 rw [hg] at hc2 ⊢
 have HC2:=jd hc2
 have HL2:=jd ((uh HL1).trans (hb2.mono hs1))
 have hwg:w.heap.size≤g:=by omega
 have hs2:g < w2.heap.size:=hc2.lt
 clear hc2 hb2 hg HL1 hs1 HR
 go_wp2_with fail
 refine (made_cx (uh HSTEP) w2 g g (uh HC2)).mono ?_
 rintro e w3 ⟨d,vs,vu,vc,vx,vp,V,rfl,hm,hok,hc3,hlow⟩
 obtain ⟨base,hbase⟩ :∃base,w2.heap.size=base:=⟨_,rfl⟩
 rw [hbase] at hm
 have hwb:w.heap.size≤base:=by omega
 have hs3:base≤w3.heap.size:=by have:=hlow.size; omega
 have HL3:=jd ((uh HL2).trans (hlow.mono hwg))
 have HOK:=jd hok
 obtain ⟨As,cs,e1,_,_⟩:=slice_of_own hm.s
 obtain ⟨Au,cu,e2,_,_⟩:=slice_of_own hm.u
 obtain ⟨Ac,cc,e3,_,_⟩:=slice_of_own hm.c
 obtain ⟨Ax,cx,e4,_,_⟩:=slice_of_own hm.x
 obtain ⟨Ap,cp,e5,_,_⟩:=slice_of_own hm.p
 subst e1 e2 e3 e4 e5
 obtain ⟨W4,hW4⟩ :∃W4,w3.alloc (.cells zWd 37)=W4:=⟨_,rfl⟩
 have hb4:Below w3.heap.size w3 W4:=hW4 ▸ (Below.refl _ _).alloc (Nat.le_refl _) _
 have HB4:=jd (hW4 ▸ Blk.new w3 _ _:Blk W4 w3.heap.size 37 zWd)
 have HW4:=jd hW4
 have HM4:=jd (hm.below hb4)
 have HC4:=jd (hc3.below_ hb4)
 have HL4:=jd ((uh HL3).trans (hb4.mono (uh HL3).size))
 obtain ⟨q4,hq4⟩ :∃q4,w3.heap.size=q4:=⟨_,rfl⟩
 have hgq:g < q4:=by rw [← hq4]; exact hc3.lt
 clear hm hok hc3 hlow hb4 hW4 HC2 HL2 hbase hs2
 go_upto_region 7 with (first
  |(refine wpList_alloc_to rfl 37 rfl zWd w3.heap.size rfl (alloc_wd _) ?_
    rw [uh HW4])
  |(refine wpList_store_blk rfl 37 (.tmp 12) (.tmp 46) rfl w3.heap.size 37 _ (WdCells d (.slice As d.L.length cs) (.slice Au d.U.length cu) (.slice Ac d.C.length cc) (.slice Ax d.X.length cx) (.slice Ap d.P.length cp)) rfl rfl (uh HB4) rfl wd_info (one7 rfl rfl rfl rfl rfl rfl rfl) ?_
    intro w5 hb5 hg5
    rw [hq4] at hb5 hg5
    have HA5:Hid (WdAt w5 base q4 d (.slice As d.L.length cs) (.slice Au d.U.length cu) (.slice Ac d.C.length cc) (.slice Ax d.X.length cx) (.slice Ap d.P.length cp) V):=jd ⟨hb5,(uh HM4).stored (hq4 ▸ uh HB4) hg5 (by decide)⟩
    have HL5:=jd (gWz (uh HL4) hg5)
    have HC5:=jd ((uh HC4).grown_ hg5 (fun j hj=>by injection hj with hj; omega))
    clear hb5 hg5)
  | fail)
 simp only [Act.put,zA,zB,zC]
 rw [hq4]
 clear HB4 HW4 HM4 HL4 HL3 HC4 hq4
 have hs5:w.heap.size≤w5.heap.size:=(uh HL5).size
 go_wp2_with fail
 refine (name_cx w5 g g (uh HC5)).mono ?_
 rintro e w6 ⟨s6,rfl,hs6,hj6⟩
 have HJ6:=jd hj6
 clear hj6
 go_wp2_with fail
 refine (next_any w6 g g 5 (uh HJ6).2 (by decide) (by decide)).mono ?_
 rintro e w7 ⟨r7,rfl,h70,h71,hc7,hg7⟩
 have HJ7:Hid (CJ w5 g g w7):=jd ⟨(uh HJ6).1.trans hg7,hc7⟩
 clear h70 h71 hc7 hg7
 go_wp2_with fail
 refine (next_any w7 g g 6 (uh HJ7).2 (by decide) (by decide)).mono ?_
 rintro e w8 ⟨r8,rfl,h80,h81,hc8,hg8⟩
 have HJ8:Hid (CJ w5 g g w8):=jd ⟨(uh HJ7).1.trans hg8,hc8⟩
 clear h80 h81 hc8 hg8 HJ6 HJ7
 obtain ⟨t8,ht8⟩ :∃t,(r8==5)=t:=⟨_,rfl⟩
 go_upto_if 53 with fail
 go_cut [13,14] from 53 to 55 (fun v13 v14 wj=>∃ (nm:List UInt8) (l:Int),v13=.string ⟨nm.toArray⟩∧v14=.int .i64 l∧nm.length≤300∧wj=w8)
 case first =>
  cases t8
  ·go_wp2_with fail
   go_meet
   exact ⟨s6,r7,rfl,rfl,by omega,rfl⟩
  ·go_wp2_with fail
   go_meet
   exact ⟨u,lv,rfl,rfl,hu300,rfl⟩
 case rest =>
  obtain ⟨nm,l,rfl,rfl,hnm,hwc⟩:=hcut
  have hwc':=hwc.symm
  clear hwc
  subst hwc'
  clear ht8 hs6 hu300
  have hnmm:nm.length≤maxLen:=by unfold maxLen; omega
  go_wp2_with fail
  refine (key_any w8 g g (uh HJ8).2).mono ?_
  rintro e w9 ⟨ks,hks,rfl,hc9,hg9⟩
  have HJ9:Hid (CJ w5 g g w9):=jd ⟨(uh HJ8).1.trans hg9,hc9⟩
  have HKS:=jd hks
  clear hc9 hg9 HJ8 hks
  go_wp2_with fail
  obtain ⟨r0,hr0⟩ :∃r,begC nm ks l 77=r:=⟨_,rfl⟩
  have HR0:=jd hr0
  have HOKX:Hid r0.c.Ok:=jd (hr0 ▸ beg_ok2 hnmm (uh HKS) l 77 (by decide))
  have HBAD:Hid (CBad r0):=jd (hr0 ▸ beg_bad nm ks l 77)
  clear hr0
  refine (begin_sx w9 nm ks hnmm (uh HKS) l 77 (by decide) r0 (uh HR0)).mono ?_
  rintro e w10 hp
  obtain ⟨Ab,cb,rfl,hob,hlb,hmb,hb10⟩:=hp.r (uh HBAD)
  have HJ10:Hid (CJ w5 g g w10):=jd ((uh HJ9).below hb10 trivial).1
  have HJ10':=jd ((uh HJ10).new (.cells zCli.cs.toArray 65))
  have HZ10:=jd (Blk.new w10 65 zCli.cs.toArray)
  obtain ⟨q15,hq15⟩ :∃q,w10.heap.size=q:=⟨_,rfl⟩
  have hq5:w5.heap.size≤q15:=by rw [← hq15]; exact (uh HJ10).size
  have hgq15:g < q15:=by have:=(uh HA5).gt; omega
  clear hp hob hb10 HJ9
  go_upto_if 66 with (first
   | (refine wpList_alloc_to rfl 65 rfl _ w10.heap.size rfl (alloc_cli _) ?_)
   | (refine wpList_store_blk rfl 65 (.tmp 15) (.tmp 62) rfl w10.heap.size 65 _ r0.c.cs.toArray rfl rfl (uh HZ10) (Cli.size_eq (uh HOKX)) (cli_info (uh HOKX)) (fun v hv=>Cli.one v (by simpa using hv)) ?_
      intro w11 hb hg
      rw [hq15] at hb hg
      have HB11:=jd hb
      have HJ11:=jd ((uh HJ10').put hg hq5 hgq15)
      clear hb hg)
   | fail)
  try simp only [Act.put,zA,zB,zC]
  try rw [hq15]
  clear HZ10 HJ10 HJ10' hq15
  by_cases hc0:r0.code=0
  case neg =>
   obtain ⟨hz1,hz2⟩:=uh HBAD hc0
   obtain ⟨code,cc0,bb⟩:=r0
   dsimp only at hz1 hz2 hc0
   subst hz1 hz2
   have hrk:begC nm z16 l 77=⟨code,zCli,[]⟩:=by
     rw [← uh HR0]
     exact beg_key (by rw [uh HR0]; exact hc0)
   have HRK:=jd hrk
   have HJN:=jd (uh HJ11)
   have e0:(code != 0)=true:=by simpa using hc0
   have HC0:=jd hc0
   clear hrk hc0
   go_wp2_with (first
     | (refine wpList_build_cs rfl 46 _ rfl [] rfl _ build_key0 ?_)
     | fail)
   refine (rbegin_sx w11 nm z16 hnmm rfl l 77 (by decide) _ (uh HRK)).mono ?_
   rintro e w12 hp
   obtain ⟨A12,c12,rfl,_,_,_,hb12⟩:=hp.r (fun _=>⟨rfl,rfl⟩)
   have HJ12:Hid (CJ w5 g g w12):=jd ((uh HJ11).below hb12 trivial).1
   have HB12:=jd (((uh HB11).below hb12 (uh HB11).lt).alloc (.cells zCli.cs.toArray 65))
   have HJ12':=jd ((uh HJ12).new (.cells zCli.cs.toArray 65))
   have HZ12:=jd (Blk.new w12 65 zCli.cs.toArray)
   have hq12:q15 < w12.heap.size:=((uh HB11).below hb12 (uh HB11).lt).lt
   clear hp hb12 HJ11
   go_upto_region 13 with (first
     | (refine wpList_alloc_to rfl 65 rfl _ w12.heap.size rfl (alloc_cli _) ?_)
     | (refine wpList_store_blk rfl 65 (.tmp 18) (.tmp 72) rfl w12.heap.size 65 _ zCli.cs.toArray rfl rfl (uh HZ12) rfl (cli_info zCli_ok) (fun v hv=>Cli.one v (by simpa using hv)) ?_
        intro w13 hb hg
        have HB13:=jd hb
        have HX13:=jd ((uh HB12).gb hg)
        have HJ13:=jd ((uh HJ12').put hg (by omega) (by omega))
        clear hb hg)
     | fail)
   go_wp2_with (first
     | (refine wpList_y (v:=.agg zCli.cs.toArray) (y_loadblk 65 (.tmp 15) (by rfl) rfl q15 rfl 65 zCli.cs.toArray _ (fun z hz=>by rw [hz]; exact uh HX13) Tryz.underlying65 rfl (cli_info zCli_ok)) ?_)
     | (refine wpList_y (v:=.agg zCli.cs.toArray) (y_loadblk 65 (.tmp 18) (by rfl) rfl w12.heap.size rfl 65 zCli.cs.toArray _ (fun z hz=>by rw [hz]; exact uh HB13) Tryz.underlying65 rfl (cli_info zCli_ok)) ?_)
     | (refine wpList_y (v:=.bool true) (y_eq_agg 65 _ (.tmp 79) (.tmp 80) (by rfl) rfl zCli.cs.toArray zCli.cs.toArray rfl rfl (by kernel_rfl) (run_eql_cli _ zCli_ok)) ?_)
     | fail)
   go_ret
   exact ⟨rfl,CJ.low (uh HL5) (uh HJ13) hs5 hwg⟩
  have e0:(r0.code != 0)=false:=by simpa using hc0
  have HA11:=jd ((uh HA5).cj (uh HC5) (uh HJ11).1)
  have c4:w11.cell? ⟨q4,4,none⟩=some (.slice Ax d.X.length cx):=(uh HA11).blk.cell 4
  have hxl:=(uh HOK).xlen
  obtain ⟨i0,hi,hz0,hz1,hz2⟩:=info_parts info_c
  have RX11:=jd (Reads.of_own (uh HA11).m.x)
  obtain ⟨W12,hW12⟩ :∃W,w11.alloc (.cells r0.c.cs.toArray 65)=W:=⟨_,rfl⟩
  have HW12:=jd hW12
  have HO12:Hid (W12.ownsRow w11.heap.size 65 41 (.slice (some ⟨w11.heap.size,0,none⟩) 1 1) 1 r0.c.cs):=jd (hW12 ▸ own_new_c w11 _ r0.c (uh HOKX) (Nat.le_refl _))
  have hb12:Below w11.heap.size w11 W12:=hW12 ▸ (Below.refl _ _).alloc (Nat.le_refl _) _
  have HJ12:Hid (CJ w5 g g W12):=jd ((uh HJ11).below hb12 trivial).1
  have RX12:=jd (((uh RX11).below hb12).more hb12.size)
  have c4':W12.cell? ⟨q4,4,none⟩=some (.slice Ax d.X.length cx):=((uh HA11).below hb12).blk.cell 4
  have HOKL:Hid (∀ x∈d.X,x.Ok):=jd (fun x hx=>((uh HOK).xok x hx).1)
  have h11:w5.heap.size≤w11.heap.size:=(uh HJ11).size
  have hg11:g < w11.heap.size:=(uh HJ11).2.lt
  have hs12:w11.heap.size≤W12.heap.size:=hb12.size
  clear hW12 hb12 hc0
  go_upto_region 15 with (first
   | (refine wpList_load_row rfl 65 _ rfl q15 rfl 65 _ _ _ (uh HB11) Tryz.underlying65 rfl (cli_info (uh HOKX)) ?_)
   | (refine wpList_bslice rfl 34 1 _ rfl [(0,.agg r0.c.cs.toArray)] rfl _ _ (run_slice_c w11 r0.c (uh HOKX)) ?_
      rw [uh HW12])
   | (at_builtin; refine wpList_append_any W12 rfl (.tmp 94) (.tmp 96) 34 rfl w11.heap.size 65 i0 _ 41 96 Tryz.underlying34 hi hz0 hz1 hz2 zc_size (by omega) (.slice (some ⟨w11.heap.size,0,none⟩) 1 1) 1 r0.c.cs rfl (uh HO12) W12.heap.size Ax d.X.length cx (d.X.flatMap Cli.cs) rfl (uh RX12) (fun v hv=>by obtain ⟨x,_,hx⟩:=List.mem_flatMap.1 hv; exact Cli.one v hx) (by unfold maxLen; omega) (by omega) hs12 ?_
      intro v13 w13 ho hg hv
      have HO13:Hid (w13.ownsRow w11.heap.size 65 41 v13 (r0.c::d.X).length ((r0.c::d.X).flatMap Cli.cs)):=jd (by rw [List.flatMap_cons,List.length_cons,Nat.add_comm d.X.length 1]; exact ho)
      have HJ13:=jd ((uh HJ12).put (show W12.grownBy w13 (some w11.heap.size) from hg) h11 (by omega))
      clear ho hg hv)
   | fail)
  try simp only [Act.put,zA,zB,zC]
  obtain ⟨XX,hXX⟩ :∃XX,r0.c::d.X=XX:=⟨_,rfl⟩
  rw [hXX] at HO13
  have HOKS:Hid (∀ x∈XX,x.Ok):=jd (fun x hx=>by
   rw [← hXX] at hx
   rcases List.mem_cons.1 hx with rfl | hx
   · exact uh HOKX
   · exact uh HOKL x hx)
  have hXl:XX.length≤14:=by rw [← hXX]; simp; omega
  have hXp:0 < XX.length:=by rw [← hXX]; simp
  obtain ⟨A13,c13,e13,hn13,hm13⟩:=slice_of_own (uh HO13)
  subst e13
  obtain ⟨m,hm,hml,hm4⟩ :∃m:Nat,(if (4:Int) < (XX.length:Int) then 4 else (XX.length:Int))=(m:Int)∧m≤XX.length∧m≤4:=by
   by_cases h:4 < XX.length
   · exact ⟨4,by rw [if_pos (by omega)]; rfl,by omega,by omega⟩
   · exact ⟨XX.length,by rw [if_neg (by omega)],by omega,by omega⟩
  have SL:∀ W,(Instr.sliceAt 34 (.slice A13 XX.length c13) none (some (.int .i64 (m:Int))) none).run Tryz.prog W=.ok (.slice A13 m c13) W:=fun W=>sl_hc W A13 XX.length c13 m (m:Int) rfl (by omega)
  have HA13:=jd ((uh HA5).cj (uh HC5) (uh HJ13).1)
  have HC13:Hid (CodesAt w13 g g):=jd (uh HJ13).2
  have hg13:g < w13.heap.size:=(uh HC13).lt
  have HLOW:Hid (∀ wz,CJ w13 g g wz→Below w.heap.size w wz):=jd (fun wz hz=>CJ.low (uh HL5) ((uh HJ13).then_ hz) hs5 hwg)
  have hm5:(m:Int)≤4:=by omega
  clear hXX c4 c4' HW12 HO12 HJ12 RX11 RX12 HA11 HJ11 HB11 h11 hs12 hxl
  go_wp2_with fail
  clear SL hm
  go_loopw [104] (fun i wr=>∃ j:Nat,i=.int .i64 (j:Int)∧j≤m∧CJ w13 g g wr) (fun i _=>m - (intOf i).toNat)
  case atStart=>exact ⟨0,rfl,Nat.zero_le _,CJ.start (uh HC13)⟩
  case round =>
   obtain ⟨j,rfl,hj,hcj⟩:=hrel
   obtain ⟨wo,rfl⟩ :∃wo:World,wo=wr:=⟨_,rfl⟩
   have HJR:=jd hcj
   clear hcj
   by_cases hlt:j < m
   · obtain ⟨x,hx⟩ :∃x,XX[j]?=some x:=⟨_,List.getElem?_eq_getElem (by omega)⟩
     have HXO:=jd ((uh HOKS) x (List.mem_of_getElem? hx))
     have HOR:=jd (own_cj (uh HO13) (uh HJR).1 (codes_own (uh HC13) (uh HO13) (by decide)))
     obtain ⟨gs,cS2,cur,hvS,hgs,hbs,_,_,_,_,_,_,hrec⟩:=own_rec (m:=41) (cs:=Cli.cs) (uh HOR) (by decide) (fun x hx=>Cli.len ((uh HOKS) x hx)) hx
     injection hvS with hA _ hcS
     subst hA hcS
     have HRG:=jd (show wo.rangeAt gs (j*41) x.cs from fun i v hv=>by rw [hbs.cell]; exact hrec i v hv)
     obtain ⟨ds2,hds2,hdr2⟩:=cli_isRow
     have HDS:=jd hds2
     have HDR:=jd hdr2
     have hj2:(j:Int) < (m:Int):=by omega
     obtain ⟨W17,hW17⟩ :∃W17,wo.alloc (.cells zCli.cs.toArray 65)=W17:=⟨_,rfl⟩
     have HJ17:Hid (CJ w13 g g W17):=jd (hW17 ▸ (uh HJR).new _)
     have HZ17:Hid (Blk W17 wo.heap.size 65 zCli.cs.toArray):=jd (hW17 ▸ Blk.new wo _ _)
     have HW17:=jd hW17
     obtain ⟨q23,hq23⟩ :∃q,wo.heap.size=q:=⟨_,rfl⟩
     have hq13:w13.heap.size≤q23:=by rw [← hq23]; exact (uh HJR).size
     clear hx hbs hrec hds2 hdr2 hW17 hgs HOR
     go_upto_region 18 with (first
       | (refine wpList_load_mid rfl 65 (.tmp 106) rfl gs (j*41) rfl x.cs ds2 (uh HRG) (uh HDS) (uh HDR) (cli_infoL (uh HXO)) ?_)
       | (refine wpList_alloc_to rfl 65 rfl _ wo.heap.size rfl (alloc_cli _) ?_
          rw [uh HW17])
       | (refine wpList_store_blk rfl 65 (.tmp 23) (.tmp 107) rfl wo.heap.size 65 _ x.cs.toArray rfl rfl (uh HZ17) (Cli.size_eq (uh HXO)) (cli_info (uh HXO)) (fun v hv=>Cli.one v (by simpa using hv)) ?_
          intro w18 hb hg
          rw [hq23] at hb hg
          have HB18:=jd hb
          have HJ18:=jd ((uh HJ17).put hg hq13 (by omega))
          clear hb hg)
       | fail)
     try simp only [Act.put,zA,zB,zC]
     try rw [hq23]
     clear HZ17 HW17 HJ17 HRG hq23
     obtain ⟨W18,hW18⟩ :∃W18,w18.alloc (.cells zCli.cs.toArray 65)=W18:=⟨_,rfl⟩
     have HJ18':Hid (CJ w13 g g W18):=jd (hW18 ▸ (uh HJ18).new _)
     have HX18:Hid (Blk W18 q23 65 x.cs.toArray):=jd (hW18 ▸ (uh HB18).alloc _)
     have HZ18:Hid (Blk W18 w18.heap.size 65 zCli.cs.toArray):=jd (hW18 ▸ Blk.new w18 _ _)
     have HW18:=jd hW18
     obtain ⟨q24,hq24⟩ :∃q,w18.heap.size=q:=⟨_,rfl⟩
     have hq34:q23 < q24:=by rw [← hq24]; exact (uh HB18).lt
     clear hW18
     go_upto_region 19 with (first
       | (refine wpList_load_row rfl 65 _ rfl q23 rfl 65 _ _ _ (uh HB18) Tryz.underlying65 rfl (cli_info (uh HXO)) ?_)
       | (refine wpList_alloc_to rfl 65 rfl _ w18.heap.size rfl (alloc_cli _) ?_
          rw [uh HW18])
       | (refine wpList_store_blk rfl 65 (.tmp 24) (.tmp 108) rfl w18.heap.size 65 _ x.cs.toArray rfl rfl (uh HZ18) (Cli.size_eq (uh HXO)) (cli_info (uh HXO)) (fun v hv=>Cli.one v (by simpa using hv)) ?_
          intro w19 hb hg
          rw [hq24] at hb hg
          have HL19:Hid (OddI w13 w19 g q23 q24 x x):=jd ⟨(uh HJ18').put hg (by omega) (by omega),(uh HX18).gb hg,hb,hq13,hq34,hg13⟩
          clear hb hg)
       | fail)
     try simp only [Act.put,zA,zB,zC]
     try rw [hq24]
     clear HB18 HJ18 HJ18' HX18 HZ18 HW18 hq24
     go_wp2_with fail
     refine (next_any w19 g g 5 (uh HL19).j.2 (by decide) (by decide)).mono ?_
     rintro e w20 ⟨r,rfl,hr0,hr1,hcx,hgx⟩
     have HL20:=jd ((uh HL19).cj ⟨hgx,hcx⟩)
     clear hcx hgx HL19
     go_upto_block 2 with fail
     go_cut [] from 109 to 139 (fun wj=>∃ y:Cli,y.Ok∧OddI w13 wj g q23 q24 x y)
     case first =>
       as_aux_lemma =>
       have hr5:r=0∨r=1∨r=2∨r=3∨r=4:=by omega
       clear hr0 hr1
       rcases hr5 with rfl | rfl | rfl | rfl | rfl
       · go_wp2_with fail
         refine (name_cx w20 g g (uh HL20).j.2).mono ?_
         rintro e w21 ⟨s,rfl,hs,hjx⟩
         have HL21:=jd ((uh HL20).cj hjx)
         have HSO:=jd ((uh HXO).user_ hs)
         clear hs hjx
         go_wp2_with (first
           | (refine wpList_store_part rfl 9 (.tmp 115) (.tmp 114) rfl q24 0 65 _ (.string ⟨s.toArray⟩) [.string ⟨s.toArray⟩] ({ x with user:=s }:Cli).cs rfl rfl (uh HL21).bo rfl (by rw [Cli.size (uh HXO)]; simp) (by kernel_rfl) (one1 rfl) (Cli.set_user (uh HXO) s) ?_
              intro w22 hb hg
              have HL22:=jd ((uh HL21).putY hb hg)
              clear hb hg)
           | fail)
         go_meet
         exact ⟨_,uh HSO,uh HL22⟩
       · go_wp2_with fail
         refine (next_any w20 g g 5 (uh HL20).j.2 (by decide) (by decide)).mono ?_
         rintro e w21 ⟨l2,rfl,_,_,hcx,hgx⟩
         have HL21:=jd ((uh HL20).cj ⟨hgx,hcx⟩)
         have HSO:=jd ((uh HXO).level_ l2)
         clear hcx hgx
         go_wp2_with (first
           | (refine wpList_store_part rfl 3 (.tmp 120) (.tmp 119) rfl q24 17 65 _ (.int .i64 l2) [.int .i64 l2] ({ x with level:=l2 }:Cli).cs rfl rfl (uh HL21).bo rfl (by rw [Cli.size (uh HXO)]; simp) (by kernel_rfl) (one1 rfl) (Cli.set_level (uh HXO) l2) ?_
              intro w22 hb hg
              have HL22:=jd ((uh HL21).putY hb hg)
              clear hb hg)
           | fail)
         go_meet
         exact ⟨_,uh HSO,uh HL22⟩
       · obtain ⟨b37,hb37⟩ :∃b,x.opn=b:=⟨_,rfl⟩
         have c37:w20.cell? ⟨q24,37,none⟩=some (.bool b37):=hb37 ▸ (Cli.blk (uh HXO) (uh HL20).bo).opn
         have HSO:=jd ((uh HXO).opn_ (!b37))
         clear hb37
         go_wp2_with (first
           | (refine wpList_store_part rfl 4 (.tmp 126) (.tmp 125) rfl q24 37 65 _ (.bool (!b37)) [.bool (!b37)] ({ x with opn:=!b37 }:Cli).cs rfl rfl (uh HL20).bo rfl (by rw [Cli.size (uh HXO)]; simp) (by kernel_rfl) (one1 rfl) (Cli.set_opn (uh HXO) (!b37)) ?_
              intro w22 hb hg
              have HL22:=jd ((uh HL20).putY hb hg)
              clear hb hg)
           | fail)
         go_meet
         exact ⟨_,uh HSO,uh HL22⟩
       · go_wp2_with fail
         refine (next_any w20 g g 3 (uh HL20).j.2 (by decide) (by decide)).mono ?_
         rintro e w21 ⟨l2,rfl,h0,h1,hcx,hgx⟩
         obtain ⟨n3,rfl⟩ :∃n:Nat,l2=(n:Int):=⟨l2.toNat,by omega⟩
         have hn3:n3 < 4294967296:=by omega
         have hw3:(n3:Int) % 4294967296=(n3:Int):=by omega
         have HL21:=jd ((uh HL20).cj ⟨hgx,hcx⟩)
         have HSO:=jd ((uh HXO).id_ hn3)
         clear hcx hgx
         go_wp2_with (first
           | (refine wpList_store_part rfl 27 (.tmp 132) (.tmp 131) rfl q24 20 65 _ (.int .u32 (n3:Int)) [.int .u32 (n3:Int)] ({ x with id:=n3 }:Cli).cs rfl rfl (uh HL21).bo rfl (by rw [Cli.size (uh HXO)]; simp) (by kernel_rfl) (one1 rfl) (Cli.set_id (uh HXO) n3) ?_
              intro w22 hb hg
              have HL22:=jd ((uh HL21).putY hb hg)
              clear hb hg)
           | fail)
         go_meet
         exact ⟨_,uh HSO,uh HL22⟩
       · go_wp2_with fail
         refine (next_any w20 g g 2 (uh HL20).j.2 (by decide) (by decide)).mono ?_
         rintro e w21 ⟨l2,rfl,h0,h1,hcx,hgx⟩
         have hw3:l2 % 4294967296=l2:=by omega
         obtain ⟨n3,hn3⟩ :∃n:Nat,(4294967295:Int) - l2=(n:Int):=⟨(4294967295 - l2).toNat,by omega⟩
         have hnl:n3 < 4294967296:=by omega
         have hw4:(n3:Int) % 4294967296=(n3:Int):=by omega
         have HL21:=jd ((uh HL20).cj ⟨hgx,hcx⟩)
         have HSO:=jd ((uh HXO).out_ hnl)
         clear hcx hgx
         go_wp2_with (first
           | (refine wpList_store_part rfl 27 (.tmp 139) (.tmp 138) rfl q24 40 65 _ (.int .u32 (n3:Int)) [.int .u32 (n3:Int)] ({ x with out:=n3 }:Cli).cs rfl rfl (uh HL21).bo rfl (by rw [Cli.size (uh HXO)]; simp) (by kernel_rfl) (one1 rfl) (Cli.set_out (uh HXO) n3) ?_
              intro w22 hb hg
              have HL22:=jd ((uh HL21).putY hb hg)
              clear hb hg)
           | fail)
         go_meet
         exact ⟨_,uh HSO,uh HL22⟩
     case rest =>
       obtain ⟨w23,rfl⟩ :∃w23:World,w23=wc:=⟨_,rfl⟩
       obtain ⟨y,hyo,hl⟩:=hcut
       have HYO:=jd hyo
       have HL23:=jd hl
       clear hyo hl HL20
       obtain ⟨W30,hW30⟩ :∃W,w23.alloc (.cells (x.cs++y.cs).toArray 65)=W:=⟨_,rfl⟩
       have HJ30:Hid (CJ w13 g g W30):=jd (hW30 ▸ (uh HL23).j.new _)
       have HR30:Hid (Blk W30 w23.heap.size 65 (x.cs++y.cs).toArray):=jd (hW30 ▸ Blk.new w23 _ _)
       have HW30:=jd hW30
       obtain ⟨q42,hq42⟩ :∃q,w23.heap.size=q:=⟨_,rfl⟩
       have hq42g:g < q42:=by rw [← hq42]; have:=(uh HL23).bo.lt; omega
       clear hW30
       go_wp2_with (first
         | (refine wpList_load_row rfl 65 _ rfl q23 rfl 65 _ _ _ (uh HL23).bx Tryz.underlying65 rfl (cli_info (uh HXO)) ?_)
         | (refine wpList_load_row rfl 65 _ rfl q24 rfl 65 _ _ _ (uh HL23).bo Tryz.underlying65 rfl (cli_info (uh HYO)) ?_)
         | (refine wpList_bslice rfl 34 2 _ rfl [(0,.agg x.cs.toArray),(1,.agg y.cs.toArray)] rfl _ _ (run_slice_c2 w23 x y (uh HXO) (uh HYO)) ?_
            rw [uh HW30])
         | fail)
       rw [hq42] at HR30
       try rw [hq42]
       have HC30:Hid (CodesAt W30 g g):=jd (uh HJ30).2
       clear HW30 hq42
       go_loopw [144] (fun i wr=>∃ k:Nat,i=.int .i64 (k:Int)∧k≤2∧CJ W30 g g wr) (fun i _=>2 - (intOf i).toNat)
       case atStart=>exact ⟨0,rfl,Nat.zero_le _,CJ.start (uh HC30)⟩
       case round =>
         obtain ⟨k,rfl,hk,hck⟩:=hrel
         obtain ⟨wi,rfl⟩ :∃wi:World,wi=wr:=⟨_,rfl⟩
         have HJI:=jd hck
         clear hck
         by_cases hklt:k < 2
         · have HRI:Hid (Blk wi q42 65 (x.cs++y.cs).toArray):=jd ((uh HJI).blk (uh HR30) (by omega))
           obtain ⟨z,hzo,hzr⟩:=two_rng (uh HXO) (uh HYO) (uh HRI) hklt
           have HZO:=jd hzo
           have HZR:=jd hzr
           obtain ⟨ds2,hds2,hdr2⟩:=cli_isRow
           have HDS:=jd hds2
           have HDR:=jd hdr2
           have hk2:(k:Int) < 2:=by omega
           obtain ⟨W32,hW32⟩ :∃W32,wi.alloc (.cells zCli.cs.toArray 65)=W32:=⟨_,rfl⟩
           have HJ32:Hid (CJ W30 g g W32):=jd (hW32 ▸ (uh HJI).new _)
           have HZ32:Hid (Blk W32 wi.heap.size 65 zCli.cs.toArray):=jd (hW32 ▸ Blk.new wi _ _)
           have HW32:=jd hW32
           obtain ⟨q26,hq26⟩ :∃q,wi.heap.size=q:=⟨_,rfl⟩
           have hq30:W30.heap.size≤q26:=by rw [← hq26]; exact (uh HJI).size
           have hg30:g < q26:=by have:=(uh HC30).lt; omega
           clear hzo hzr hds2 hdr2 hW32 HRI
           go_upto_region 33 with (first
             | (refine wpList_load_mid rfl 65 (.tmp 146) rfl q42 (k*41) rfl z.cs ds2 (uh HZR) (uh HDS) (uh HDR) (cli_infoL (uh HZO)) ?_)
             | (refine wpList_alloc_to rfl 65 rfl _ wi.heap.size rfl (alloc_cli _) ?_
                rw [uh HW32])
             | (refine wpList_store_blk rfl 65 (.tmp 26) (.tmp 147) rfl wi.heap.size 65 _ z.cs.toArray rfl rfl (uh HZ32) (Cli.size_eq (uh HZO)) (cli_info (uh HZO)) (fun v hv=>Cli.one v (by simpa using hv)) ?_
                intro w33 hb hg
                rw [hq26] at hb hg
                have HB33:=jd hb
                have HJ33:=jd ((uh HJ32).put hg hq30 hg30)
                clear hb hg)
             | fail)
           try simp only [Act.put,zA,zB,zC]
           try rw [hq26]
           clear HZ32 HW32 HJ32 HZR hq26
           go_wp2_with fail
           refine (next_any w33 g g 6 (uh HJ33).2 (by decide) (by decide)).mono ?_
           rintro e w34 ⟨r34,rfl,hr0',hr1',hcx,hgx⟩
           have HJ34:=jd ((uh HJ33).then_ ⟨hgx,hcx⟩)
           have HB34:Hid (Blk w34 q26 65 z.cs.toArray):=jd ((uh HB33).gb hgx)
           have HJX:Hid (CJ w13 g g w34):=jd ((uh HJ30).then_ (uh HJ34))
           obtain ⟨t34,ht34⟩ :∃t,decide ((0:Int) < r34)=t:=⟨_,rfl⟩
           clear hcx hgx HJ33 HB33 hr0' hr1'
           go_upto_if 151 with fail
           go_cut [27] from 151 to 153 (fun v wj=>∃ (Az:Option Addr) (nz cz:Nat) (zs:List UInt8),v=.slice Az nz cz∧nz≤cz∧cz≤maxLen∧(∀ wz,CJ wj g g wz→Reads wz wz.heap.size 1 Az nz (bsV zs))∧CJ w34 g g wj)
           case first =>
             as_aux_lemma =>
             cases t34
             · go_wp2_with fail
               go_meet
               exact ⟨Ar,nr,cr,rs,rfl,uh HNR,uh HCR,(fun wz hz=>((uh HRR).below ((uh HLOW) wz ((uh HJX).then_ hz))).more ((uh HLOW) wz ((uh HJX).then_ hz)).size),CJ.start (uh HJ34).2⟩
             · go_wp2_with fail
               refine (pick_cx w34 g g base q4 d _ _ _ _ _ V (uh HJ34).2 ((uh HA13).cj (uh HC13) (uh HJX).1) (uh HOK).pok (by have:=(uh HOK).plen; omega)).mono ?_
               rintro e w35 ⟨v35,zs,rfl,_,_,ho35,hj35⟩
               obtain ⟨A35,c35,e35,hn35,hm35⟩:=slice_of_own ho35
               subst e35
               have HO35:=jd ho35
               have HJ35:=jd hj35
               clear ho35 hj35
               go_wp2_with fail
               go_meet
               exact ⟨A35,_,c35,zs,rfl,hn35,hm35,(fun wz hz=>Reads.of_own (own_cj (uh HO35) hz.1 (codes_own (uh HJ35).2 (uh HO35) (by decide)))),uh HJ35⟩
           case rest =>
             obtain ⟨w36,rfl⟩ :∃w36:World,w36=wc:=⟨_,rfl⟩
             obtain ⟨Az,nz,cz,zs,rfl,hnz,hcz,hrz,hjz⟩:=hcut
             have HNZ:=jd hnz
             have HCZ:=jd hcz
             have HRZ:=jd hrz
             have HJ36:=jd hjz
             have HB36:Hid (Blk w36 q26 65 z.cs.toArray):=jd ((uh HJ36).blk (uh HB34) (by omega))
             have HJY:Hid (CJ w13 g g w36):=jd ((uh HJX).then_ (uh HJ36))
             have HJZ:Hid (CJ W30 g g w36):=jd ((uh HJ34).then_ (uh HJ36))
             have hq26g:q26≠g:=by omega
             clear ht34 hnz hcz hrz hjz HB34 HJ34 HJX
             go_upto_region 36 with fail
             have HJD:=jd ((CJ.start (uh HJ36).2:CJ w36 g g w36).drew)
             have hS0:CJ w36 g g w36.drew:=uh HJD
             refine wp_region_noPanic (wp_region_held_drew (S:=fun wz=>CJ w36 g g wz) (by kernel_rfl) hS0 (fun _=>?_))
             refine tJz 0 rfl (y_loadblk 65 (.tmp 26) (by rfl) rfl q26 rfl 65 z.cs.toArray _ (fun wz hz=>hz.blk (uh HB36) hq26g) Tryz.underlying65 rfl (cli_info (uh HZO))) hS0 ?_
             refine tq 1 rfl hS0 ?_
             refine tq 2 rfl hS0 ?_
             refine tq 4 rfl hS0 ?_
             refine tOz 3 rfl fun K hK=>?_
             rw [if_pos (by rfl)]
             go_simp
             refine (next_any w36.drew g g 3 (uh HJD).2 (by decide) (by decide)).mono ?_
             rintro e w37 ⟨r37,rfl,h0,h1,hcx,hgx⟩
             obtain ⟨kb,rfl⟩:=num_byte h0 (show r37 < 256 by omega)
             have hS2:CJ w36 g g w37:=(uh HJD).then_ ⟨hgx,hcx⟩
             have HS2:=jd hS2
             refine hK.out _ _ hS2 (fun _=>?_)
             clear hK K hcx hgx h0 h1
             try simp only [Act.put,zA,zB,zC]
             have HJV:Hid (CJ w13 g g w37):=jd ((uh HJY).then_ hS2)
             have HRZ7:Hid (Reads w37 w37.heap.size 1 Az nz (bsV zs)):=jd (uh HRZ w37 (uh HS2))
             refine tOz 5 rfl fun K hK=>?_
             rw [if_pos (by rfl)]
             go_simp
             refine (scli_sx w37 z (uh HZO) Az nz cz zs (uh HRZ7) (uh HNZ) (uh HCZ) kb Ad nd cd ds (((uh HRD).below ((uh HLOW) _ (uh HJV))).more ((uh HLOW) _ (uh HJV)).size) (uh HND) (uh HCD)).mono ?_
             rintro e w38 ⟨rfl,hb38⟩
             have hS3:CJ w36 g g w38:=((uh HS2).below hb38 trivial).1
             have HJE:Hid (CJ W30 g g w38):=jd ((uh HJZ).then_ hS3)
             refine hK.out _ _ hS3 (fun _=>?_)
             clear hK K
             try simp only [Act.put,zA,zB,zC]
             refine tq 6 rfl hS3 ?_
             refine wpAnyH_done (by kernel_rfl) (NoPanic.normal ?_) _
             clear hS3 hS2 hS0 hb38
             go_wp2_with fail
             go_roundw
             case rel=>exact ⟨k+1,by go_num,by omega,uh HJE⟩
             case measure=>simp [intOf]; omega
         · have hge:((k:Int) < 2)=False:=by simp; omega
           have HJO:Hid (CJ w13 g g wi):=jd ((uh HJ30).then_ (uh HJI))
           clear hklt hk
           go_wp2_with fail
           go_roundw
           case rel=>exact ⟨j+1,by go_num,by omega,uh HJO⟩
           case measure=>simp [intOf]; omega
   · have hge:((j:Int) < (m:Int))=False:=by simp; omega
     have HEND:=jd ((uh HLOW) _ (uh HJR))
     clear hlt hj
     go_wp2_with fail
     go_ret
     exact ⟨rfl,uh HEND⟩
end Go.Proofs.YtfbkkmnkpjgciaaGreat
