/- Joined of STake. No condition. -/
import Derived.Test.YtfbkkmnkpjgciaaGreatPD30
import Derived.Test.YtfbkkmnkpjgciaaGreatPD27
namespace Go.Proofs.YtfbkkmnkpjgciaaGreat
open Go.RowKit
set_option maxRecDepth 100000 in
set_option maxHeartbeats 16000000 in
theorem take_sx (w:World) (c:Cli) (hok:c.Ok) (Ab:Option Addr) (nb cb:Nat) (b:List UInt8) (hb:Reads w w.heap.size 1 Ab nb (bsV b)) (hbc:nb≤cb) (hbm:cb≤maxLen) (r:TRes) (hp:takeC c b=r) :
  Calls Tryz.prog 69 #[.agg c.cs.toArray,.slice Ab nb cb] w (TakPost w r):=by
 have hlb:b.length=nb:=by have:=hb.1; simpa [bsV] using this
 obtain ⟨W1,hW1⟩ :∃W1,(w.alloc (.cells c.cs.toArray 65)).alloc (.cells zCli.cs.toArray 65)=W1:=⟨_,rfl⟩
 have K0:Hid (Blk W1 w.heap.size 65 c.cs.toArray):=jd (hW1 ▸ ((Blk.new w _ _).alloc _))
 have K2:Hid (Blk W1 (w.heap.size+1) 65 zCli.cs.toArray):=jd (hW1 ▸ (Blk.new' (by simp)))
 have B1:Hid (Below w.heap.size w W1):=jd (hW1 ▸ ((Below.refl _ _).alloc (Nat.le_refl _) _).alloc (by rw [size_alloc]; omega) _)
 have HBB:=jd hb
 have HBC:=jd hbc
 have HBM:=jd hbm
 have HLB:=jd hlb
 have HW1:=jd hW1
 have HOK:=jd hok
 have HP:=jd hp
 have hnn:(nb:Int)≤9223372036854775807:=by unfold maxLen at hbm; omega
 obtain ⟨t1,ht1⟩ :∃t,cliF c=t:=⟨_,rfl⟩
 have HT1:=jd ht1
 clear hW1 hb hbc hbm hlb hok hp ht1
 go_enter Tryz.func69,Tryz.ntmps69
 go_upto_region 1 with (first
  | (refine wpList_alloc_to rfl 65 rfl _ (w.heap.size+1) (size_alloc _ _) (alloc_cli _) ?_)
  | fail)
 rw [uh HW1]
 go_wp2_with (first
  | (refine wpList_load_row rfl 65 _ rfl w.heap.size rfl 65 _ _ _ (uh K0) Tryz.underlying65 rfl (cli_info (uh HOK)) ?_)
  | fail)
 refine (client_sx W1 c (uh HOK) t1 (uh HT1)).mono ?_
 rintro e w2 ⟨rfl,hb2⟩
 have J0:=jd ((uh K0).below hb2 (uh K0).lt)
 have J2:=jd ((uh K2).below hb2 (uh K2).lt)
 have X2:=jd ((uh B1).trans (hb2.mono (uh B1).size))
 have hs2:w.heap.size+1 < w2.heap.size:=(uh J2).lt
 clear hb2
 cases t1
 case false =>
  have hrr:=uh HP
  unfold takeC at hrr
  rw [if_pos (uh HT1)] at hrr
  subst hrr
  clear HP
  go_wp2_with (first
   | (refine wpList_build_cs rfl 65 _ rfl [] rfl _ build_cli0 ?_)
   |(refine wpList_store_blk rfl 65 (.tmp 4) (.tmp 14) rfl (w.heap.size+1) 65 _ zCli.cs.toArray rfl rfl (uh J2) rfl (cli_info zCli_ok) (fun v hv=>Cli.one v (by simpa using hv)) ?_
     intro w9 hb9 hg9
     have Z9:=jd hb9
     have E9:=jd (gWz (uh X2) hg9)
     clear hb9 hg9)
   | fail)
  exact bodyPost_ret (v:=.tuple #[.agg zCli.cs.toArray,.int .i64 0,.slice none 0 0,.int .i64 1]) (res_cttt rfl _ (w.heap.size+1) 65 _ _ _ _ _ rfl rfl rfl rfl (uh Z9) Tryz.underlying65 rfl (cli_info zCli_ok)) rfl (TakPost.bad (by omega) rfl (uh E9))
 have hat:=Cli.blk (uh HOK) (uh J0)
 have c37:=hat.opn
 clear hat
 obtain ⟨t2,ht2⟩ :∃t,c.opn=t:=⟨_,rfl⟩
 have HT2:=jd ht2
 rw [ht2] at c37
 clear ht2
 cases t2
 case false =>
  have hrr:=uh HP
  unfold takeC at hrr
  rw [if_neg (by rw [uh HT1]; simp),if_pos (uh HT2)] at hrr
  subst hrr
  clear HP
  go_wp2_with (first
   | (refine wpList_build_cs rfl 65 _ rfl [] rfl _ build_cli0 ?_)
   |(refine wpList_store_blk rfl 65 (.tmp 4) (.tmp 18) rfl (w.heap.size+1) 65 _ zCli.cs.toArray rfl rfl (uh J2) rfl (cli_info zCli_ok) (fun v hv=>Cli.one v (by simpa using hv)) ?_
     intro w9 hb9 hg9
     have Z9:=jd hb9
     have E9:=jd (gWz (uh X2) hg9)
     clear hb9 hg9)
   | fail)
  exact bodyPost_ret (v:=.tuple #[.agg zCli.cs.toArray,.int .i64 0,.slice none 0 0,.int .i64 46]) (res_cttt rfl _ (w.heap.size+1) 65 _ _ _ _ _ rfl rfl rfl rfl (uh Z9) Tryz.underlying65 rfl (cli_info zCli_ok)) rfl (TakPost.bad (by omega) rfl (uh E9))
 have hrr:=uh HP
 unfold takeC at hrr
 rw [if_neg (by rw [uh HT1]; simp),if_neg (by rw [uh HT2]; simp)] at hrr
 have HR2:=jd hrr
 clear hrr HP
 obtain ⟨t3,ht3⟩ :∃t,formB 6 b=t:=⟨_,rfl⟩
 have HT3:=jd ht3
 clear ht3
 have R2:=jd (((uh HBB).below (uh X2)).more (uh X2).size)
 go_wp2_with fail
 cases t3
 case false =>
  have hrr:=uh HR2
  rw [if_pos (by rw [uh HT3,Bool.false_and])] at hrr
  subst hrr
  clear HR2
  refine (split_bad w2 6 Ab nb cb b (uh R2) (Nat.le_trans (uh HBC) (uh HBM)) (uh HT3)).mono ?_
  rintro e w3 ⟨rfl,hb3⟩
  have U2:=jd (((uh J2).below hb3 (uh J2).lt).alloc (.cells #[.int .u32 0,.int .u32 0,.int .i64 0,.slice none 0 0] 123))
  have U3:=jd (Blk.new w3 123 #[.int .u32 0,.int .u32 0,.int .i64 0,.slice none 0 0])
  have UX:=jd (((uh X2).trans (hb3.mono (uh X2).size)).alloc (by have:=hb3.size; have:=(uh X2).size; omega) (.cells #[.int .u32 0,.int .u32 0,.int .i64 0,.slice none 0 0] 123))
  have hs3:w2.heap.size≤w3.heap.size:=hb3.size
  clear hb3
  go_upto_region 6 with (first
   | (refine wpList_alloc_to rfl 123 rfl _ w3.heap.size rfl (alloc_parts _) ?_)
   |(refine wpList_store_blk rfl 123 (.tmp 8) (.tmp 22) rfl w3.heap.size 123 _ #[.int .u32 0,.int .u32 0,.int .i64 0,.slice none 0 0] rfl rfl (uh U3) rfl (by kernel_rfl) (by intro v hv; simp at hv; rcases hv with rfl | rfl | rfl | rfl<;>rfl) ?_
     intro w5 hb5 hg5
     have Y2:=jd ((uh U2).gb hg5)
     have YX:=jd (gWz (uh UX) hg5)
     clear hb5 hg5)
   | fail)
  go_wp2_with (first
   | (refine wpList_build_cs rfl 65 _ rfl [] rfl _ build_cli0 ?_)
   |(refine wpList_store_blk rfl 65 (.tmp 4) (.tmp 33) rfl (w.heap.size+1) 65 _ zCli.cs.toArray rfl rfl (uh Y2) rfl (cli_info zCli_ok) (fun v hv=>Cli.one v (by simpa using hv)) ?_
     intro w9 hb9 hg9
     have Z9:=jd hb9
     have E9:=jd (gWz (uh YX) hg9)
     clear hb9 hg9)
   | fail)
  exact bodyPost_ret (v:=.tuple #[.agg zCli.cs.toArray,.int .i64 0,.slice none 0 0,.int .i64 6]) (res_cttt rfl _ (w.heap.size+1) 65 _ _ _ _ _ rfl rfl rfl rfl (uh Z9) Tryz.underlying65 rfl (cli_info zCli_ok)) rfl (TakPost.bad (by omega) rfl (uh E9))
 have h274:18≤nb∧nb≤274:=by
  have h:=uh HT3
  unfold formB at h
  simp only [Bool.and_eq_true,decide_eq_true_eq] at h
  rw [uh HLB] at h
  exact ⟨h.1,h.2.1⟩
 have hrr:=uh HR2
 rw [uh HT3,Bool.true_and] at hrr
 refine (split_ok w2 6 Ab nb cb b (uh R2) (uh HBC) (uh HBM) (uh HT3)).mono ?_
 rintro e w3 ⟨vd,rfl,hod,hb3⟩
 have hpl:(partsF b).id < 4294967296:=leW4 _ _
 have hpn:(partsF b).n < 4294967296:=leW4 _ _
 have hpd:(partsF b).data.length=nb - 18:=by
  show ((b.drop 10).take (b.length - 18)).length=_
  rw [List.length_take,List.length_drop,uh HLB]
  omega
 obtain ⟨P,hP⟩ :∃P,partsF b=P:=⟨_,rfl⟩
 rw [uh HLB] at hod
 rw [hP] at hod hpl hpn hpd hrr ⊢
 obtain ⟨pid,pn,pk,pd⟩:=P
 dsimp only at hod hpl hpn hpd hrr ⊢
 obtain ⟨nd,hnd⟩ :∃k,nb - 18=k:=⟨_,rfl⟩
 rw [hnd] at hod hpd
 obtain ⟨Ad,cd,hvd,hmd,hcdm⟩:=slice_of_own hod
 subst hvd
 have HR3:=jd hrr
 have HPD:=jd hpd
 have U0:=jd (((uh J0).below hb3 (uh J0).lt).alloc (.cells #[.int .u32 0,.int .u32 0,.int .i64 0,.slice none 0 0] 123))
 have U2:=jd (((uh J2).below hb3 (uh J2).lt).alloc (.cells #[.int .u32 0,.int .u32 0,.int .i64 0,.slice none 0 0] 123))
 have U3:=jd (Blk.new w3 123 #[.int .u32 0,.int .u32 0,.int .i64 0,.slice none 0 0])
 have UX:=jd (((uh X2).trans (hb3.mono (uh X2).size)).alloc (by have:=hb3.size; have:=(uh X2).size; omega) (.cells #[.int .u32 0,.int .u32 0,.int .i64 0,.slice none 0 0] 123))
 have UD:=jd ((own_more hod (uh X2).size).alloc (.cells #[.int .u32 0,.int .u32 0,.int .i64 0,.slice none 0 0] 123))
 have hs3:w2.heap.size≤w3.heap.size:=hb3.size
 clear hb3 hod hrr HR2 hP hpd hnd
 obtain ⟨t4,ht4⟩ :∃t,kindB pk=t:=⟨_,rfl⟩
 have HT4:=jd ht4
 rw [ht4]
 clear ht4
 go_upto_region 6 with (first
  | (refine wpList_alloc_to rfl 123 rfl _ w3.heap.size rfl (alloc_parts _) ?_)
  |(refine wpList_store_blk rfl 123 (.tmp 8) (.tmp 22) rfl w3.heap.size 123 _ #[.int .u32 (pid:Int),.int .u32 (pn:Int),.int .i64 (pk.toNat:Int),.slice Ad nd cd] rfl rfl (uh U3) rfl (by kernel_rfl) (by intro v hv; simp at hv; rcases hv with rfl | rfl | rfl | rfl<;>rfl) ?_
    intro w5 hb5 hg5
    have Y0:=jd ((uh U0).gb hg5)
    have Y2:=jd ((uh U2).gb hg5)
    have YX:=jd (gWz (uh UX) hg5)
    have Y3:=jd hb5
    have YD:=jd (World.ownsRow.kept (uh UD) hg5 (.inr (own_blk_ne (uh UD) (uh U3) (by decide))))
    have hs5:w3.heap.size < w5.heap.size:=hb5.lt
    clear hb5 hg5)
  | fail)
 cases t4
 case false =>
  have hrr:=uh HR3
  rw [if_pos (uh HT4)] at hrr
  subst hrr
  clear HR3
  go_wp2_with (first
   | (refine wpList_build_cs rfl 65 _ rfl [] rfl _ build_cli0 ?_)
   |(refine wpList_store_blk rfl 65 (.tmp 4) (.tmp 33) rfl (w.heap.size+1) 65 _ zCli.cs.toArray rfl rfl (uh Y2) rfl (cli_info zCli_ok) (fun v hv=>Cli.one v (by simpa using hv)) ?_
     intro w9 hb9 hg9
     have Z9:=jd hb9
     have E9:=jd (gWz (uh YX) hg9)
     clear hb9 hg9)
   | fail)
  exact bodyPost_ret (v:=.tuple #[.agg zCli.cs.toArray,.int .i64 0,.slice none 0 0,.int .i64 6]) (res_cttt rfl _ (w.heap.size+1) 65 _ _ _ _ _ rfl rfl rfl rfl (uh Z9) Tryz.underlying65 rfl (cli_info zCli_ok)) rfl (TakPost.bad (by omega) rfl (uh E9))
 have hrr:=uh HR3
 rw [if_neg (by rw [uh HT4]; simp)] at hrr
 have HR4:=jd hrr
 have p0:w5.cell? ⟨w3.heap.size,0,none⟩=some (.int .u32 (pid:Int)):=(uh Y3).cell 0
 have c20:=(Cli.blk (uh HOK) (uh Y0)).id
 obtain ⟨t5,ht5⟩ :∃t,decide (pid=c.id)=t:=⟨_,rfl⟩
 have HT5:=jd ht5
 have f5:((pid:Int) != (c.id:Int))=!t5:=by
  rw [← ht5]
  by_cases hq:pid=c.id
  · simp [hq]
  ·have:(pid:Int)≠(c.id:Int):=fun h=>hq (by omega)
   simp [hq,this]
 clear hrr ht5 HR3
 cases t5
 case false =>
  have hrr:=uh HR4
  rw [if_pos (of_decide_eq_false (uh HT5))] at hrr
  subst hrr
  clear HR4
  go_wp2_with (first
   | (refine wpList_build_cs rfl 65 _ rfl [] rfl _ build_cli0 ?_)
   |(refine wpList_store_blk rfl 65 (.tmp 4) (.tmp 33) rfl (w.heap.size+1) 65 _ zCli.cs.toArray rfl rfl (uh Y2) rfl (cli_info zCli_ok) (fun v hv=>Cli.one v (by simpa using hv)) ?_
     intro w9 hb9 hg9
     have Z9:=jd hb9
     have E9:=jd (gWz (uh YX) hg9)
     clear hb9 hg9)
   | fail)
  exact bodyPost_ret (v:=.tuple #[.agg zCli.cs.toArray,.int .i64 0,.slice none 0 0,.int .i64 6]) (res_cttt rfl _ (w.heap.size+1) 65 _ _ _ _ _ rfl rfl rfl rfl (uh Z9) Tryz.underlying65 rfl (cli_info zCli_ok)) rfl (TakPost.bad (by omega) rfl (uh E9))
 have hrr:=uh HR4
 rw [if_neg (fun h=>h (of_decide_eq_true (uh HT5)))] at hrr
 have HR5:=jd hrr
 clear hrr HR4
 obtain ⟨dk,hdk,hdr⟩:=key_isRow
 have HDK:=jd hdk
 have HDR:=jd hdr
 have HKP:Hid (∀ (j:Nat) v,(bsV c.sess)[j]?=some v→c.cs.toArray[21+j]?=some v):=jd fun j v hv=>(Cli.at_ (uh HOK)).sess j v hv
 clear hdk hdr
 have Q6:=jd (((uh HBB).below (uh YX)).more (uh YX).size)
 obtain ⟨t7,ht7⟩ :∃t,genF c.sess b=t:=⟨_,rfl⟩
 have HT7:=jd ht7
 clear ht7
 go_wp2_with (first
  | (refine wpList_load_part rfl 46 (.tmp 34) rfl w.heap.size 21 65 c.cs.toArray (bsV c.sess) dk rfl (uh Y0) (uh HKP) (uh HDK) (uh HDR) (key_info _ (uh HOK).sess) ?_)
  | fail)
 refine (genuine_sx w5 c.sess (uh HOK).sess Ab nb cb b (uh Q6) (uh HBC) (uh HBM) (by omega) (by omega)).mono ?_
 rintro e w8 ⟨he,hb8⟩
 subst he
 rw [uh HT7]
 have N0:=jd ((uh Y0).below hb8 (uh Y0).lt)
 have N2:=jd ((uh Y2).below hb8 (uh Y2).lt)
 have NP:=jd ((uh Y3).below hb8 (uh Y3).lt)
 have ND:=jd (own_below (uh YD) hb8)
 have X8:=jd ((uh YX).trans (hb8.mono (uh YX).size))
 have hs8:w5.heap.size≤w8.heap.size:=hb8.size
 clear hb8 c37 c20 p0 f5
 cases t7
 case false =>
  have hrr:=uh HR5
  rw [if_pos (uh HT7)] at hrr
  subst hrr
  clear HR5
  go_wp2_with (first
   | (refine wpList_build_cs rfl 65 _ rfl [] rfl _ build_cli0 ?_)
   |(refine wpList_store_blk rfl 65 (.tmp 4) (.tmp 39) rfl (w.heap.size+1) 65 _ zCli.cs.toArray rfl rfl (uh N2) rfl (cli_info zCli_ok) (fun v hv=>Cli.one v (by simpa using hv)) ?_
     intro w9 hb9 hg9
     have Z9:=jd hb9
     have E9:=jd (gWz (uh X8) hg9)
     clear hb9 hg9)
   | fail)
  exact bodyPost_ret (v:=.tuple #[.agg zCli.cs.toArray,.int .i64 0,.slice none 0 0,.int .i64 50]) (res_cttt rfl _ (w.heap.size+1) 65 _ _ _ _ _ rfl rfl rfl rfl (uh Z9) Tryz.underlying65 rfl (cli_info zCli_ok)) rfl (TakPost.bad (by omega) rfl (uh E9))
 have hrr:=uh HR5
 rw [if_neg (by rw [uh HT7]; simp)] at hrr
 obtain ⟨⟨wh,wl,we⟩,hw⟩ :∃p,shiftF c.hi c.se pn=p:=⟨_,rfl⟩
 have hwl:=shiftF_lt c.hi c.se pn (uh HOK).hi (uh HOK).se hpn
 rw [hw] at hrr hwl
 dsimp only at hrr hwl
 obtain ⟨hwh,hwl⟩:=hwl
 have HR8:=jd hrr
 have HW:=jd hw
 have HWR:Hid (∀ (j:Nat) v,[Value.int .u32 (c.hi:Int),.int .u32 (c.se:Int)][j]?=some v→c.cs.toArray[38+j]?=some v):=jd fun j v hv=>by
  match j,hv with
  | 0,hv=>rw [← Option.some.inj hv]; exact (Cli.at_ (uh HOK)).hi
  | 1,hv=>rw [← Option.some.inj hv]; exact (Cli.at_ (uh HOK)).se
 obtain ⟨dw,hdw,hdwr⟩:=win_isRow
 have HDW:=jd hdw
 have HDWR:=jd hdwr
 clear hrr HR5 hw hdw hdwr
 have p1:w8.cell? ⟨w3.heap.size,1,none⟩=some (.int .u32 (pn:Int)):=(uh NP).cell 1
 go_wp2_with (first
  | (refine wpList_load_part rfl 48 (.tmp 41) rfl w.heap.size 38 65 c.cs.toArray [.int .u32 (c.hi:Int),.int .u32 (c.se:Int)] dw rfl (uh N0) (uh HWR) (uh HDW) (uh HDWR) (by kernel_rfl) ?_)
  | fail)
 refine (shift_sx w8 c.hi c.se pn (uh HOK).hi (uh HOK).se hpn).mono ?_
 rintro e w9 ⟨he,hb9⟩
 rw [uh HW] at he
 obtain rfl:e=.returned (.tuple #[.agg #[.int .u32 (wh:Int),.int .u32 (wl:Int)],.int .i64 we]):=he
 have M0:=jd (((uh N0).below hb9 (uh N0).lt).alloc (.cells #[.int .u32 0,.int .u32 0] 48))
 have M2:=jd (((uh N2).below hb9 (uh N2).lt).alloc (.cells #[.int .u32 0,.int .u32 0] 48))
 have MP:=jd (((uh NP).below hb9 (uh NP).lt).alloc (.cells #[.int .u32 0,.int .u32 0] 48))
 have MD:=jd ((own_below (uh ND) hb9).alloc (.cells #[.int .u32 0,.int .u32 0] 48))
 have MW:=jd (Blk.new w9 48 #[.int .u32 0,.int .u32 0])
 have X9:=jd (((uh X8).trans (hb9.mono (uh X8).size)).alloc (by have:=hb9.size; have:=(uh X8).size; omega) (.cells #[.int .u32 0,.int .u32 0] 48))
 have hs9:w8.heap.size≤w9.heap.size:=hb9.size
 clear hb9 p1
 go_upto_region 11 with (first
  | (refine wpList_alloc_to rfl 48 rfl _ w9.heap.size rfl (alloc_win _) ?_)
  |(refine wpList_store_blk rfl 48 (.tmp 10) (.tmp 46) rfl w9.heap.size 48 _ #[.int .u32 (wh:Int),.int .u32 (wl:Int)] rfl rfl (uh MW) rfl (by kernel_rfl) (oZz rfl rfl) ?_
    intro w10 hb5 hg5
    have L0:=jd ((uh M0).gb hg5)
    have L2:=jd ((uh M2).gb hg5)
    have LP:=jd ((uh MP).gb hg5)
    have LX:=jd (gWz (uh X9) hg5)
    have LD:=jd (World.ownsRow.kept (uh MD) hg5 (.inr (own_blk_ne (uh MD) (uh MW) (by decide))))
    have LW:=jd hb5
    have hs10:w9.heap.size < w10.heap.size:=hb5.lt
    clear hb5 hg5)
  | fail)
 obtain ⟨t9,ht9⟩ :∃t,(we != 0)=t:=⟨_,rfl⟩
 cases t9
 case true =>
  have hne:we≠0:=by simpa using ht9
  have hrr:=uh HR8
  rw [if_pos hne] at hrr
  subst hrr
  have HNE:=jd hne
  clear HR8 hne
  go_wp2_with (first
   | (refine wpList_build_cs rfl 65 _ rfl [] rfl _ build_cli0 ?_)
   |(refine wpList_store_blk rfl 65 (.tmp 4) (.tmp 50) rfl (w.heap.size+1) 65 _ zCli.cs.toArray rfl rfl (uh L2) rfl (cli_info zCli_ok) (fun v hv=>Cli.one v (by simpa using hv)) ?_
     intro w9 hb9 hg9
     have Z9:=jd hb9
     have E9:=jd (gWz (uh LX) hg9)
     clear hb9 hg9)
   | fail)
  exact bodyPost_ret (v:=.tuple #[.agg zCli.cs.toArray,.int .i64 0,.slice none 0 0,.int .i64 we]) (res_cttt rfl _ (w.heap.size+1) 65 _ _ _ _ _ rfl rfl rfl rfl (uh Z9) Tryz.underlying65 rfl (cli_info zCli_ok)) rfl (TakPost.bad (uh HNE) rfl (uh E9))
 have hwe:we=0:=by simpa using ht9
 have hrr:=uh HR8
 rw [if_neg (fun h=>h hwe)] at hrr
 have HR9:=jd hrr
 clear HR8 hrr
 have ok1:({ c with hi:=wh,se:=wl }:Cli).Ok:=⟨(uh HOK).user,(uh HOK).key,(uh HOK).sess,(uh HOK).nonce,(uh HOK).server,(uh HOK).id,hwh,hwl,(uh HOK).out⟩
 obtain ⟨y,hy⟩ :∃y,({ c with hi:=wh,se:=wl }:Cli)=y:=⟨_,rfl⟩
 have hset1:=Cli.set_win (uh HOK) wh wl
 rw [hy] at ok1 hset1
 have HOK1:=jd ok1
 have HSET1:=jd hset1
 have HY:=jd hy
 have HSZ:=jd (Cli.size (uh HOK))
 have HWE:=jd hwe
 clear ok1 hset1 hy hwe
 go_upto_region 14 with (first
  | (refine wpList_load_row rfl 48 _ rfl w9.heap.size rfl 48 _ _ _ (uh LW) Tryz.underlying48 rfl (by kernel_rfl) ?_)
  |(refine wpList_store_part rfl 48 (.tmp 53) (.tmp 52) rfl w.heap.size 38 65 c.cs.toArray (.agg #[.int .u32 (wh:Int),.int .u32 (wl:Int)]) [.int .u32 (wh:Int),.int .u32 (wl:Int)] y.cs rfl rfl (uh L0) rfl (by rw [uh HSZ]; simp) (by kernel_rfl) (by intro u hu; simp at hu; rcases hu with rfl | rfl<;>rfl) (uh HSET1) ?_
    intro w11 hb hg
    have S0:=jd hb
    have S2:=jd ((uh L2).gb hg)
    have SP:=jd ((uh LP).gb hg)
    have SD:=jd (World.ownsRow.kept (uh LD) hg (.inr (own_blk_ne (uh LD) (uh L0) (by decide))))
    have SX:=jd (gWz (uh LX) hg)
    have hs11:w10.heap.size≤w11.heap.size:=hg.size
    clear hb hg
    simp only [Act.put])
  | fail)
 have hB0:Below w11.heap.size w11 w11.drew:=(Below.refl _ _).drew
 have hS0:(fun wz=>Blk wz w.heap.size 65 y.cs.toArray∧Blk wz w3.heap.size 123 #[.int .u32 (pid:Int),.int .u32 (pn:Int),.int .i64 (pk.toNat:Int),.slice Ad nd cd]) w11.drew:=⟨uh S0,uh SP⟩
 refine wp_region_noPanic (wp_region_held_drew (S:=fun wz=>Blk wz w.heap.size 65 y.cs.toArray∧Blk wz w3.heap.size 123 #[.int .u32 (pid:Int),.int .u32 (pn:Int),.int .i64 (pk.toNat:Int),.slice Ad nd cd]) (by kernel_rfl) hS0 (fun _=>?_))
 refine tJz 0 rfl (y_loadblk 65 (.tmp 2) (by rfl) rfl w.heap.size rfl 65 y.cs.toArray _ (fun _ h=>h.1) Tryz.underlying65 rfl (cli_info (uh HOK1))) hS0 ?_
 refine tq 1 rfl hS0 ?_
 refine tJz (v:=.int .i64 (pk.toNat:Int)) 2 rfl (Or.inl ⟨by rfl,fun wz hSw=>?_⟩) hS0 ?_
 ·have hq:wz.cell? ⟨w3.heap.size,2,none⟩=some (.int .i64 (pk.toNat:Int)):=hSw.2.cell 2
  go_simp
 refine tq 3 rfl hS0 ?_
 refine tJz (v:=.slice Ad nd cd) 4 rfl (Or.inl ⟨by rfl,fun wz hSw=>?_⟩) hS0 ?_
 ·have hq:wz.cell? ⟨w3.heap.size,3,none⟩=some (.slice Ad nd cd):=hSw.2.cell 3
  go_simp
 refine tOz 5 rfl fun K hK=>?_
 have q1:Blk w11.drew (w.heap.size+1) 65 zCli.cs.toArray:=uh S2
 refine step_store_blk (by rfl) 65 (.tmp 4) (.tmp 54) rfl (w.heap.size+1) 65 _ y.cs.toArray rfl rfl q1 (Cli.size_eq (uh HOK1)) (cli_info (uh HOK1)) (fun v hv=>Cli.one v (by simpa using hv)) ?_
 intro w13 hb13 hg13
 have hS13:Blk w13 w.heap.size 65 y.cs.toArray∧Blk w13 w3.heap.size 123 #[.int .u32 (pid:Int),.int .u32 (pn:Int),.int .i64 (pk.toNat:Int),.slice Ad nd cd]:=⟨hS0.1.grown hg13 (fun e=>by injection e with e; omega),hS0.2.grown hg13 (fun e=>by injection e with e; omega)⟩
 have ho13:=World.ownsRow.kept (w:=w11.drew) (uh SD) hg13 (.inr (own_blk_ne (w:=w11.drew) (uh SD) q1 (by decide)))
 have hx13:=(uh SX).drew.grown hg13 (uh SX).size (fun j e=>by injection e with e; omega)
 refine hK.out _ _ hS13 (fun _=>?_)
 clear hK K
 try simp only [Act.put]
 refine tq 6 rfl hS13 ?_
 refine tq 7 rfl hS13 ?_
 refine tq 8 rfl hS13 ?_
 refine wpAnyH_done (by kernel_rfl) (NoPanic.normal ?_) _
 have H13:=jd hb13
 have O13:=jd ho13
 have X13:=jd hx13
 clear hb13 ho13 hx13 hg13 hS13 hS0 hB0 q1
 go_wp2_with fail
 have hrr:=uh HR9
 rw [uh HY] at hrr
 subst hrr
 refine bodyPost_ret (v:=.tuple #[.agg y.cs.toArray,.int .i64 (pk.toNat:Int),.slice Ad nd cd,.int .i64 0]) (res_cttt rfl _ (w.heap.size+1) 65 _ _ _ _ _ rfl rfl rfl rfl (uh H13) Tryz.underlying65 rfl (cli_info (uh HOK1))) rfl ?_
 show TakPost w _ _ _
 unfold TakPost
 rw [if_pos rfl]
 exact ⟨Ad,nd,cd,rfl,FReads.of_own (uh O13) (Nat.le_refl _),hmd,hcdm,uh X13⟩
end Go.Proofs.YtfbkkmnkpjgciaaGreat
