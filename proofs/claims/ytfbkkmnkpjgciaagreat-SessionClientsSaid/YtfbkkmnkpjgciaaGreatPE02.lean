/- Joined of TSCli. No condition. -/
import Derived.Test.YtfbkkmnkpjgciaaGreatPE01
namespace Go.Proofs.YtfbkkmnkpjgciaaGreat
open Go.RowKit
set_option maxRecDepth 100000 in
set_option maxHeartbeats 16000000 in
theorem scli_sx (w:World) (k:Cli) (hok:k.Ok) (Az:Option Addr) (nz cz:Nat) (z:List UInt8) (hz:Reads w w.heap.size 1 Az nz (bsV z)) (hzc:nz≤cz) (hzm:cz≤maxLen) (kb:UInt8) (Ad:Option Addr) (nd cd:Nat) (data:List UInt8) (hd:Reads w w.heap.size 1 Ad nd (bsV data)) (hdc:nd≤cd) (hdm:cd≤maxLen) :
  Calls Tryz.prog 23 #[.agg k.cs.toArray,.slice Az nz cz,.int .i64 (kb.toNat:Int),.slice Ad nd cd] w fun e w'=>e=.returned (.bool true)∧Below w.heap.size w w':=by
 obtain ⟨W1,hW1⟩ :∃W1,w.alloc (.cells k.cs.toArray 65)=W1:=⟨_,rfl⟩
 have K4:Hid (Blk W1 w.heap.size 65 k.cs.toArray):=jd (hW1 ▸ Blk.new w _ _)
 have X1:Hid (Below w.heap.size w W1):=jd (hW1 ▸ (Below.refl _ _).alloc (Nat.le_refl _) _)
 have HW1:=jd hW1
 have HZ:=jd hz
 have HZC:=jd hzc
 have HZM:=jd hzm
 have HD:=jd hd
 have HDC:=jd hdc
 have HDM:=jd hdm
 have HOK:=jd hok
 have hzs:zCli.cs.toArray.size=zCli.cs.toArray.size:=rfl
 clear hW1 hz hzc hzm hd hdc hdm hok hzs
 go_enter Tryz.func23,Tryz.ntmps23
 go_upto_region 1 with fail
 rw [uh HW1]
 go_wp2_with (first
  | (refine wpList_load_row rfl 65 _ rfl w.heap.size rfl 65 _ _ _ (uh K4) Tryz.underlying65 rfl (cli_info (uh HOK)) ?_)
  | fail)
 obtain ⟨r1,hr1⟩ :∃r,answC k z=r:=⟨_,rfl⟩
 have HR1:=jd hr1
 clear hr1
 refine (answ_sx W1 k (uh HOK) Az nz cz z (((uh HZ).below (uh X1)).more (uh X1).size) (uh HZC) (uh HZM) r1 (uh HR1)).mono ?_
 rintro e w2 hp
 obtain ⟨A2,c2,rfl,hrd2,hl2,hm2,hb2⟩:=hp.r (uh HR1 ▸ answ_bad k z)
 have ok1:r1.c.Ok:=uh HR1 ▸ answ_ok2 (uh HOK) z
 have HOK1:=jd ok1
 have N4:=jd (((uh K4).below hb2 (uh K4).lt).alloc (.cells zCli.cs.toArray 65))
 have N9:=jd (Blk.new w2 65 zCli.cs.toArray)
 have X2:=jd (((uh X1).trans (hb2.mono (uh X1).size)).alloc (by have:=(uh X1).size; have:=hb2.size; omega) (.cells zCli.cs.toArray 65))
 have HA2:=jd (hrd2.alloc (.cells zCli.cs.toArray 65))
 have hl24:w.heap.size < w2.heap.size:=by have:=(uh K4).lt; have:=hb2.size; omega
 clear hb2 hp ok1 hrd2
 go_upto_region 2 with (first
  | (refine wpList_alloc_to rfl 65 rfl _ w2.heap.size rfl (alloc_cli _) ?_)
  |(refine wpList_store_blk rfl 65 (.tmp 9) (.tmp 21) rfl w2.heap.size 65 _ r1.c.cs.toArray rfl rfl (uh N9) (Cli.size_eq (uh HOK1)) (cli_info (uh HOK1)) (fun v hv=>Cli.one v (by simpa using hv)) ?_
    intro w3 hb hg
    have M9:=jd hb
    have M4:=jd ((uh N4).gb hg)
    have X3:=jd (gWz (uh X2) hg)
    have HA3:=jd (World.ownsRow.kept (uh HA2) hg (.inr (own_blk_ne (uh HA2) (uh N9) (by decide))))
    clear hb hg)
  | fail)
 obtain ⟨g9,hg9⟩ :∃g9,w2.heap.size=g9:=⟨_,rfl⟩
 rw [hg9] at M9 hl24 ⊢
 clear N4 N9 X2 HA2 hg9 HW1 K4
 go_wp2_with (first
  | (refine wpList_load_row rfl 65 _ rfl w.heap.size rfl 65 _ _ _ (uh M4) Tryz.underlying65 rfl (cli_info (uh HOK)) ?_)
  | fail)
 refine (ransw_sx w3 k (uh HOK) Az nz cz z (((uh HZ).below (uh X3)).more (uh X3).size) (uh HZC) (uh HZM) r1 (uh HR1)).mono ?_
 rintro e w4 hp
 obtain ⟨A4,c4,rfl,hrd4,hl4,hm4,hb4⟩:=hp.r (uh HR1 ▸ answ_bad k z)
 have hg3:g9 < w3.heap.size:=(uh M9).lt
 have N4:=jd (((uh M4).below hb4 (uh M4).lt).alloc (.cells zCli.cs.toArray 65))
 have N9:=jd (((uh M9).below hb4 (uh M9).lt).alloc (.cells zCli.cs.toArray 65))
 have N12:=jd (Blk.new w4 65 zCli.cs.toArray)
 have X4:=jd (((uh X3).trans (hb4.mono (uh X3).size)).alloc (by have:=(uh X3).size; have:=hb4.size; omega) (.cells zCli.cs.toArray 65))
 have HA4:=jd ((own_below (uh HA3) hb4).alloc (.cells zCli.cs.toArray 65))
 have HD4:=jd (hrd4.alloc (.cells zCli.cs.toArray 65))
 have hl49:g9 < w4.heap.size:=by have:=hb4.size; omega
 clear hb4 hp hrd4 hg3
 go_upto_region 3 with (first
  | (refine wpList_alloc_to rfl 65 rfl _ w4.heap.size rfl (alloc_cli _) ?_)
  |(refine wpList_store_blk rfl 65 (.tmp 12) (.tmp 28) rfl w4.heap.size 65 _ r1.c.cs.toArray rfl rfl (uh N12) (Cli.size_eq (uh HOK1)) (cli_info (uh HOK1)) (fun v hv=>Cli.one v (by simpa using hv)) ?_
    intro w5 hb hg
    have I5:Hid (SCI w w5 k r1.c r1.c g9 w4.heap.size):=jd ⟨(uh N4).gb hg,(uh N9).gb hg,hb,gWz (uh X4) hg,hl24,hl49⟩
    have HA5:=jd (World.ownsRow.kept (uh HA4) hg (.inr (own_blk_ne (uh HA4) (uh N12) (by decide))))
    have HD5:=jd (World.ownsRow.kept (uh HD4) hg (.inr (own_blk_ne (uh HD4) (uh N12) (by decide))))
    clear hb hg)
  | fail)
 obtain ⟨g12,hg12⟩ :∃g12,w4.heap.size=g12:=⟨_,rfl⟩
 rw [hg12] at I5 hl49 ⊢
 clear N4 N9 N12 X4 HA4 HD4 hg12 M9 M4 HA3
 go_upto_region 5 with (first
  | (refine wpList_y (v:=.agg r1.c.cs.toArray) (y_loadblk 65 (.tmp 9) (by rfl) rfl g9 rfl 65 r1.c.cs.toArray _ (fun z hz=>by rw [hz]; exact (uh I5).b9) Tryz.underlying65 rfl (cli_info (uh HOK1))) ?_)
  | (refine wpList_y (v:=.agg r1.c.cs.toArray) (y_loadblk 65 (.tmp 12) (by rfl) rfl g12 rfl 65 r1.c.cs.toArray _ (fun z hz=>by rw [hz]; exact (uh I5).b12) Tryz.underlying65 rfl (cli_info (uh HOK1))) ?_)
  | (refine wpList_y (v:=.bool false) (y_neq_agg 65 _ (.tmp 35) (.tmp 36) (by rfl) rfl r1.c.cs.toArray r1.c.cs.toArray rfl rfl (by kernel_rfl) (run_neq_cli _ (uh HOK1))) ?_)
  | (refine wpList_y (v:=.string ⟨(r1.b).toArray⟩) (y_conv 22 9 5 (.tmp 40) (by rfl) rfl A2 r1.b.length c2 rfl w5.heap.size (r1.b) (fun z hz=>by rw [hz]; exact Reads.of_own (uh HA5)) Tryz.underlying22 Tryz.underlying5 Tryz.underlying9) ?_)
  | (refine wpList_y (v:=.string ⟨(r1.b).toArray⟩) (y_conv 22 9 5 (.tmp 42) (by rfl) rfl A4 r1.b.length c4 rfl w5.heap.size (r1.b) (fun z hz=>by rw [hz]; exact Reads.of_own (uh HD5)) Tryz.underlying22 Tryz.underlying5 Tryz.underlying9) ?_)
  | fail)
 clear HA5 HD5
 go_wp2_with (first
  | (refine wpList_load_row rfl 65 _ rfl w.heap.size rfl 65 _ _ _ (uh I5).b4 Tryz.underlying65 rfl (cli_info (uh HOK)) ?_)
  | fail)
 obtain ⟨⟨x2,y2⟩,hr2⟩ :∃r,acptC k z=r:=⟨_,rfl⟩
 have HR2:=jd hr2
 have ok2:y2.Ok:=by have:=acpt_ok2 (uh HOK) z; rw [hr2] at this; exact this
 have HOK2:=jd ok2
 clear hr2 ok2
 refine (acpt_sx w5 k (uh HOK) Az nz cz z (((uh HZ).below (uh I5).low).more (uh I5).low.size) (uh HZC) (uh HZM) _ (uh HR2)).mono ?_
 rintro e w6 ⟨rfl,hb6⟩
 have I6:=jd ((uh I5).below hb6)
 clear hb6 I5
 go_upto_region 6 with (first
  |(refine wpList_store_blk rfl 65 (.tmp 9) (.tmp 50) rfl g9 65 _ y2.cs.toArray rfl rfl (uh I6).b9 ((Cli.size (uh HOK2)).trans (Cli.size (uh HOK1)).symm) (cli_info (uh HOK2)) (fun v hv=>Cli.one v (by simpa using hv)) ?_
    intro w7 hb hg
    have I7:=jd ((uh I6).set9 hb hg)
    clear hb hg)
  | fail)
 go_wp2_with (first
  | (refine wpList_load_row rfl 65 _ rfl w.heap.size rfl 65 _ _ _ (uh I7).b4 Tryz.underlying65 rfl (cli_info (uh HOK)) ?_)
  | fail)
 refine (racpt_sx w7 k (uh HOK) Az nz cz z (((uh HZ).below (uh I7).low).more (uh I7).low.size) (uh HZC) (uh HZM) _ (uh HR2)).mono ?_
 rintro e w8 ⟨rfl,hb8⟩
 have I8:=jd ((uh I7).below hb8)
 clear hb8 I6 I7
 go_upto_region 7 with (first
  |(refine wpList_store_blk rfl 65 (.tmp 12) (.tmp 56) rfl g12 65 _ y2.cs.toArray rfl rfl (uh I8).b12 ((Cli.size (uh HOK2)).trans (Cli.size (uh HOK1)).symm) (cli_info (uh HOK2)) (fun v hv=>Cli.one v (by simpa using hv)) ?_
    intro w9 hb hg
    have I9:=jd ((uh I8).set12 hb hg)
    clear hb hg)
  | fail)
 go_upto_region 9 with (first
  | (refine wpList_y (v:=.agg y2.cs.toArray) (y_loadblk 65 (.tmp 9) (by rfl) rfl g9 rfl 65 y2.cs.toArray _ (fun z hz=>by rw [hz]; exact (uh I9).b9) Tryz.underlying65 rfl (cli_info (uh HOK2))) ?_)
  | (refine wpList_y (v:=.agg y2.cs.toArray) (y_loadblk 65 (.tmp 12) (by rfl) rfl g12 rfl 65 y2.cs.toArray _ (fun z hz=>by rw [hz]; exact (uh I9).b12) Tryz.underlying65 rfl (cli_info (uh HOK2))) ?_)
  | (refine wpList_y (v:=.bool false) (y_neq_agg 65 _ (.tmp 62) (.tmp 63) (by rfl) rfl y2.cs.toArray y2.cs.toArray rfl rfl (by kernel_rfl) (run_neq_cli _ (uh HOK2))) ?_)
  | fail)
 go_wp2_with (first
  | (refine wpList_load_row rfl 65 _ rfl w.heap.size rfl 65 _ _ _ (uh I9).b4 Tryz.underlying65 rfl (cli_info (uh HOK)) ?_)
  | fail)
 obtain ⟨r3,hr3⟩ :∃r,postC k kb data=r:=⟨_,rfl⟩
 have HR3:=jd hr3
 have HOK3:Hid r3.c.Ok:=jd (hr3 ▸ post_ok2 (uh HOK) kb data)
 clear hr3
 refine (post_sx w9 k (uh HOK) kb Ad nd cd data (((uh HD).below (uh I9).low).more (uh I9).low.size) (uh HDC) (uh HDM) r3 (uh HR3)).mono ?_
 rintro e w10 hp
 obtain ⟨A10,c10,rfl,hrd10,hl10,hm10,hb10⟩:=hp.r (uh HR3 ▸ post_bad k kb data)
 have I10:=jd ((uh I9).below hb10)
 have HA10:=jd hrd10
 have hz10:g12 < w10.heap.size:=(uh I10).b12.lt
 clear hb10 hp hrd10 I8 I9
 go_upto_region 10 with (first
  |(refine wpList_store_blk rfl 65 (.tmp 9) (.tmp 71) rfl g9 65 _ r3.c.cs.toArray rfl rfl (uh I10).b9 ((Cli.size (uh HOK3)).trans (Cli.size (uh HOK2)).symm) (cli_info (uh HOK3)) (fun v hv=>Cli.one v (by simpa using hv)) ?_
    intro w11 hb hg
    have I11:=jd ((uh I10).set9 hb hg)
    have HA11:=jd (World.ownsRow.kept (uh HA10) hg (.inr (own_blk_ne (uh HA10) (uh I10).b9 (by decide))))
    clear hb hg)
  | fail)
 go_wp2_with (first
  | (refine wpList_load_row rfl 65 _ rfl w.heap.size rfl 65 _ _ _ (uh I11).b4 Tryz.underlying65 rfl (cli_info (uh HOK)) ?_)
  | fail)
 refine (rpost_sx w11 k (uh HOK) kb Ad nd cd data (((uh HD).below (uh I11).low).more (uh I11).low.size) (Nat.le_trans (uh HDC) (uh HDM)) r3 (uh HR3)).mono ?_
 rintro e w12 hp
 obtain ⟨A12,c12,rfl,hrd12,hl12,hm12,hb12⟩:=hp.r (uh HR3 ▸ post_bad k kb data)
 have I12:=jd ((uh I11).below hb12)
 have HA12:=jd (own_below (uh HA11) hb12)
 have HD12:=jd hrd12
 clear hb12 hp hrd12 I10 I11
 go_upto_region 11 with (first
  |(refine wpList_store_blk rfl 65 (.tmp 12) (.tmp 79) rfl g12 65 _ r3.c.cs.toArray rfl rfl (uh I12).b12 ((Cli.size (uh HOK3)).trans (Cli.size (uh HOK2)).symm) (cli_info (uh HOK3)) (fun v hv=>Cli.one v (by simpa using hv)) ?_
    intro w13 hb hg
    have I13:=jd ((uh I12).set12 hb hg)
    have HA13:=jd (World.ownsRow.kept (uh HA12) hg (.inr (own_blk_ne (uh HA12) (uh I12).b12 (by decide))))
    have HD13:=jd (World.ownsRow.kept (uh HD12) hg (.inr (own_blk_ne (uh HD12) (uh I12).b12 (by decide))))
    clear hb hg)
  | fail)
 go_upto_region 13 with (first
  | (refine wpList_y (v:=.agg r3.c.cs.toArray) (y_loadblk 65 (.tmp 9) (by rfl) rfl g9 rfl 65 r3.c.cs.toArray _ (fun z hz=>by rw [hz]; exact (uh I13).b9) Tryz.underlying65 rfl (cli_info (uh HOK3))) ?_)
  | (refine wpList_y (v:=.agg r3.c.cs.toArray) (y_loadblk 65 (.tmp 12) (by rfl) rfl g12 rfl 65 r3.c.cs.toArray _ (fun z hz=>by rw [hz]; exact (uh I13).b12) Tryz.underlying65 rfl (cli_info (uh HOK3))) ?_)
  | (refine wpList_y (v:=.bool false) (y_neq_agg 65 _ (.tmp 86) (.tmp 87) (by rfl) rfl r3.c.cs.toArray r3.c.cs.toArray rfl rfl (by kernel_rfl) (run_neq_cli _ (uh HOK3))) ?_)
  | (refine wpList_y (v:=.string ⟨(r3.b).toArray⟩) (y_conv 22 9 5 (.tmp 91) (by rfl) rfl A10 r3.b.length c10 rfl w13.heap.size (r3.b) (fun z hz=>by rw [hz]; exact Reads.of_own (uh HA13)) Tryz.underlying22 Tryz.underlying5 Tryz.underlying9) ?_)
  | (refine wpList_y (v:=.string ⟨(r3.b).toArray⟩) (y_conv 22 9 5 (.tmp 93) (by rfl) rfl A12 r3.b.length c12 rfl w13.heap.size (r3.b) (fun z hz=>by rw [hz]; exact Reads.of_own (uh HD13)) Tryz.underlying22 Tryz.underlying5 Tryz.underlying9) ?_)
  | fail)
 clear HA13 HD13
 go_wp2_with (first
  | (refine wpList_load_row rfl 65 _ rfl w.heap.size rfl 65 _ _ _ (uh I13).b4 Tryz.underlying65 rfl (cli_info (uh HOK)) ?_)
  | fail)
 obtain ⟨r4,hr4⟩ :∃r,takeC k z=r:=⟨_,rfl⟩
 have HR4:=jd hr4
 have HOK4:Hid r4.c.Ok:=jd (hr4 ▸ take_ok2 (uh HOK) z)
 clear hr4
 refine (take_sx w13 k (uh HOK) Az nz cz z (((uh HZ).below (uh I13).low).more (uh I13).low.size) (uh HZC) (uh HZM) r4 (uh HR4)).mono ?_
 rintro e w14 hp
 obtain ⟨A14,m14,c14,rfl,hrd14,hl14,hm14,hb14⟩:=hp.r (uh HR4 ▸ take_bad3 k z)
 have I14:=jd ((uh I13).below hb14)
 have HA14:=jd hrd14
 have hz13:g12 < w13.heap.size:=(uh I13).b12.lt
 clear hb14 hp hrd14 I12
 go_upto_region 14 with (first
  |(refine wpList_store_blk rfl 65 (.tmp 9) (.tmp 101) rfl g9 65 _ r4.c.cs.toArray rfl rfl (uh I14).b9 ((Cli.size (uh HOK4)).trans (Cli.size (uh HOK3)).symm) (cli_info (uh HOK4)) (fun v hv=>Cli.one v (by simpa using hv)) ?_
    intro w15 hb hg
    have I15:=jd ((uh I14).set9 hb hg)
    have HA15:=jd ((uh HA14).stored hg (by have:=(uh I13).b9.lt; omega))
    clear hb hg)
  | fail)
 go_wp2_with (first
  | (refine wpList_load_row rfl 65 _ rfl w.heap.size rfl 65 _ _ _ (uh I15).b4 Tryz.underlying65 rfl (cli_info (uh HOK)) ?_)
  | fail)
 refine (rtake_sx w15 k (uh HOK) Az nz cz z (((uh HZ).below (uh I15).low).more (uh I15).low.size) (uh HZC) (uh HZM) r4 (uh HR4)).mono ?_
 rintro e w16 hp
 obtain ⟨A16,m16,c16,rfl,hrd16,hl16,hm16,hb16⟩:=hp.r (uh HR4 ▸ take_bad3 k z)
 have I16:=jd ((uh I15).below hb16)
 have HA16:=jd ((uh HA15).below hb16)
 have HD16:=jd hrd16
 have hz15:g12 < w15.heap.size:=(uh I15).b12.lt
 clear hb16 hp hrd16 I14
 go_upto_region 15 with (first
  |(refine wpList_store_blk rfl 65 (.tmp 12) (.tmp 109) rfl g12 65 _ r4.c.cs.toArray rfl rfl (uh I16).b12 ((Cli.size (uh HOK4)).trans (Cli.size (uh HOK3)).symm) (cli_info (uh HOK4)) (fun v hv=>Cli.one v (by simpa using hv)) ?_
    intro w17 hb hg
    have I17:=jd ((uh I16).set12 hb hg)
    have HA17:=jd ((uh HA16).stored hg (by omega))
    have HD17:=jd ((uh HD16).stored hg (by omega))
    clear hb hg)
  | fail)
 go_wp2_with (first
  | (refine wpList_y (v:=.agg r4.c.cs.toArray) (y_loadblk 65 (.tmp 9) (by rfl) rfl g9 rfl 65 r4.c.cs.toArray _ (fun z hz=>by rw [hz]; exact (uh I17).b9) Tryz.underlying65 rfl (cli_info (uh HOK4))) ?_)
  | (refine wpList_y (v:=.agg r4.c.cs.toArray) (y_loadblk 65 (.tmp 12) (by rfl) rfl g12 rfl 65 r4.c.cs.toArray _ (fun z hz=>by rw [hz]; exact (uh I17).b12) Tryz.underlying65 rfl (cli_info (uh HOK4))) ?_)
  | (refine wpList_y (v:=.bool true) (y_eq_agg 65 _ (.tmp 117) (.tmp 118) (by rfl) rfl r4.c.cs.toArray r4.c.cs.toArray rfl rfl (by kernel_rfl) (run_eql_cli _ (uh HOK4))) ?_)
  | (refine wpList_y (v:=.string ⟨(r4.d).toArray⟩) (y_conv 22 9 5 (.tmp 127) (by rfl) rfl A14 m14 c14 rfl w17.heap.size (r4.d) (fun z hz=>by rw [hz]; exact (uh HA17).1) Tryz.underlying22 Tryz.underlying5 Tryz.underlying9) ?_)
  | (refine wpList_y (v:=.string ⟨(r4.d).toArray⟩) (y_conv 22 9 5 (.tmp 129) (by rfl) rfl A16 m16 c16 rfl w17.heap.size (r4.d) (fun z hz=>by rw [hz]; exact (uh HD17).1) Tryz.underlying22 Tryz.underlying5 Tryz.underlying9) ?_)
  | fail)
 go_ret
 exact ⟨rfl,(uh I17).low⟩
end Go.Proofs.YtfbkkmnkpjgciaaGreat
