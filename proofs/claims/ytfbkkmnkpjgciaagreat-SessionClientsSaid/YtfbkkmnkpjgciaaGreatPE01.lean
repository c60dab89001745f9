/- Joined of SPost SAcpt SClis TCliP. No condition. -/
import Derived.Test.YtfbkkmnkpjgciaaGreatPD29
import Derived.Test.YtfbkkmnkpjgciaaGreatPD09
import Derived.Test.YtfbkkmnkpjgciaaGreatPD34
import Derived.Test.YtfbkkmnkpjgciaaGreatPD08
import Derived.Test.YtfbkkmnkpjgciaaGreatPD39
import Derived.Test.YtfbkkmnkpjgciaaGreatPE00
namespace Go.Proofs.YtfbkkmnkpjgciaaGreat
open Go.RowKit
theorem kind_sendF (kb:UInt8) (n:Nat) (out:Int):sendF (kb.toNat:Int) n out=if kindB kb=false then 2 else if 256 < n∨out=4294967295 then 3 else 0:=by
 have h:(kindB kb=false)↔((kb.toNat:Int)≠0∧(kb.toNat:Int)≠1):=by
  unfold kindB
  simp only [Bool.or_eq_false_iff,beq_eq_false_iff_ne]
  constructor
  ·rintro ⟨p,q⟩
   exact ⟨fun e=>p (UInt8.toNat_inj.1 (by simpa using e)),fun e=>q (UInt8.toNat_inj.1 (by show kb.toNat=1; omega))⟩
  ·rintro ⟨p,q⟩
   exact ⟨fun e=>p (by rw [e]; rfl),fun e=>q (by rw [e]; rfl)⟩
 unfold sendF
 by_cases hk:kindB kb=false
 · rw [if_pos (h.1 hk),if_pos hk]
 · rw [if_neg (fun x=>hk (h.2 x)),if_neg hk]
set_option maxRecDepth 100000 in
set_option maxHeartbeats 16000000 in
theorem post_sx (w:World) (c:Cli) (hok:c.Ok) (kb:UInt8) (A:Option Addr) (n cc:Nat) (data:List UInt8) (hr:Reads w w.heap.size 1 A n (bsV data)) (hnc:n≤cc) (hcm:cc≤maxLen) (r:CRes) (hp:postC c kb data=r) :
  Calls Tryz.prog 39 #[.agg c.cs.toArray,.int .i64 (kb.toNat:Int),.slice A n cc] w (CliPost w r):=by
 have hl:data.length=n:=by have:=hr.1; simpa [bsV] using this
 obtain ⟨x,hx⟩ :∃x,sendF (kb.toNat:Int) n (c.out:Int)=x:=⟨_,rfl⟩
 have hx2:=hx
 rw [kind_sendF] at hx2
 by_cases good:cliF c=true∧c.opn=true∧x=0
 ·obtain ⟨g1,g2,g3⟩:=good
  subst g3
  have k1:kindB kb=true:=by
   cases hk:kindB kb
   · rw [if_pos hk] at hx2; exact absurd hx2 (by decide)
   · rfl
  have k2:¬ (256 < n∨(c.out:Int)=4294967295):=by
   intro hh
   rw [if_neg (by rw [k1]; simp),if_pos hh] at hx2
   exact absurd hx2 (by decide)
  have hol:=hok.out
  rw [← hp]
  unfold postC
  rw [if_neg (by rw [g1]; simp),if_neg (by rw [g2]; simp),if_neg (by rw [k1]; simp),if_neg (by rw [hl]; omega)]
  refine (post_ok w c hok kb A n cc data hr hnc hcm g1 g2 hx (by omega) (by omega)).mono fun e w' h=>?_
  unfold CliPost
  rw [if_pos rfl]
  exact h
 obtain ⟨W1,hW1⟩ :∃W1,(w.alloc (.cells c.cs.toArray 65)).alloc (.cells zCli.cs.toArray 65)=W1:=⟨_,rfl⟩
 have K0:Hid (Blk W1 w.heap.size 65 c.cs.toArray):=jd (hW1 ▸ ((Blk.new w _ _).alloc _))
 have K2:Hid (Blk W1 (w.heap.size+1) 65 zCli.cs.toArray):=jd (hW1 ▸ (Blk.new' (by simp)))
 have B1:Hid (Below w.heap.size w W1):=jd (hW1 ▸ ((Below.refl _ _).alloc (Nat.le_refl _) _).alloc (by rw [size_alloc]; omega) _)
 have HW1:=jd hW1
 have HL:=jd hl
 have HOK:=jd hok
 have HP:=jd hp
 have HX:=jd hx
 have HX2:=jd hx2
 have GOOD:=jd good
 obtain ⟨t1,ht1⟩ :∃t,cliF c=t:=⟨_,rfl⟩
 have HT1:=jd ht1
 clear hW1 hr hnc hcm hl hok hp ht1 hx hx2 good
 go_enter Tryz.func39,Tryz.ntmps39
 go_upto_region 1 with (first
  | (refine wpList_alloc_to rfl 65 rfl _ (w.heap.size+1) (size_alloc _ _) (alloc_cli _) ?_)
  | fail)
 rw [uh HW1]
 go_wp2_with (first
  | (refine wpList_load_row rfl 65 _ rfl w.heap.size rfl 65 _ _ _ (uh K0) Tryz.underlying65 rfl (cli_info (uh HOK)) ?_)
  | fail)
 refine (client_sx W1 c (uh HOK) t1 (uh HT1)).mono ?_
 rintro e w2 ⟨rfl,hb2⟩
 have J0:=jd ((uh K0).below hb2 (uh K0).lt)
 have J2:=jd ((uh K2).below hb2 (uh K2).lt)
 have X2:=jd ((uh B1).trans (hb2.mono (uh B1).size))
 have hs2:w.heap.size+1 < w2.heap.size:=(uh J2).lt
 clear hb2
 cases t1
 case false =>
  have hrr:=uh HP
  unfold postC at hrr
  rw [if_pos (uh HT1)] at hrr
  subst hrr
  clear HP
  go_wp2_with (first
   | (refine wpList_build_cs rfl 65 _ rfl [] rfl _ build_cli0 ?_)
   | (refine wpList_store_blk rfl 65 (.tmp 6) (.tmp 13) rfl (w.heap.size+1) 65 _ zCli.cs.toArray rfl rfl (uh J2) rfl (cli_info zCli_ok) (fun v hv=>Cli.one v (by simpa using hv)) ?_
      intro w9 hb9 hg9
      have Z9:=jd hb9
      have E9:=jd (gWz (uh X2) hg9)
      clear hb9 hg9)
   | fail)
  exact bodyPost_ret (v:=.tuple #[.agg zCli.cs.toArray,.slice none 0 0,.int .i64 1]) (res_ctt rfl _ (w.heap.size+1) 65 _ _ _ _ rfl rfl rfl (uh Z9) Tryz.underlying65 rfl (cli_info zCli_ok)) rfl (show CliPost w (badC 1) _ _ by unfold CliPost badC; rw [if_neg (by decide)]; exact ⟨rfl,uh E9⟩)
 have hat:=Cli.blk (uh HOK) (uh J0)
 have c37:=hat.opn
 have c40:=hat.out
 clear hat
 obtain ⟨t2,ht2⟩ :∃t,c.opn=t:=⟨_,rfl⟩
 have HT2:=jd ht2
 rw [ht2] at c37
 clear ht2
 cases t2
 case false =>
  have hrr:=uh HP
  unfold postC at hrr
  rw [if_neg (by rw [uh HT1]; simp),if_pos (uh HT2)] at hrr
  subst hrr
  clear HP
  go_wp2_with (first
   | (refine wpList_build_cs rfl 65 _ rfl [] rfl _ build_cli0 ?_)
   | (refine wpList_store_blk rfl 65 (.tmp 6) (.tmp 17) rfl (w.heap.size+1) 65 _ zCli.cs.toArray rfl rfl (uh J2) rfl (cli_info zCli_ok) (fun v hv=>Cli.one v (by simpa using hv)) ?_
      intro w9 hb9 hg9
      have Z9:=jd hb9
      have E9:=jd (gWz (uh X2) hg9)
      clear hb9 hg9)
   | fail)
  exact bodyPost_ret (v:=.tuple #[.agg zCli.cs.toArray,.slice none 0 0,.int .i64 46]) (res_ctt rfl _ (w.heap.size+1) 65 _ _ _ _ rfl rfl rfl (uh Z9) Tryz.underlying65 rfl (cli_info zCli_ok)) rfl (show CliPost w (badC 46) _ _ by unfold CliPost badC; rw [if_neg (by decide)]; exact ⟨rfl,uh E9⟩)
 have hx0:x≠0:=fun h=>uh GOOD ⟨uh HT1,uh HT2,h⟩
 have fx:(x != 0)=true:=by simp [hx0]
 have HX0:=jd hx0
 clear hx0
 go_wp2_with fail
 refine (sendable_sx _ _ _ _ _ _ x (uh HX)).mono ?_
 rintro e w3 ⟨rfl,rfl⟩
 have hpc:postC c kb data=badC x:=by
  have hx:=uh HX2
  unfold postC
  rw [if_neg (by rw [uh HT1]; simp),if_neg (by rw [uh HT2]; simp),uh HL]
  by_cases hk:kindB kb=false
  ·rw [if_pos hk] at hx ⊢
   rw [hx]
  ·rw [if_neg hk] at hx ⊢
   by_cases h3:256 < n∨(c.out:Int)=4294967295
   · rw [if_pos h3] at hx
     rw [if_pos (by omega),hx]
   · rw [if_neg h3] at hx
     exact absurd hx.symm (uh HX0)
 have HPC:=jd hpc
 clear hpc
 have hrr:=uh HP
 rw [uh HPC] at hrr
 subst hrr
 clear HP
 go_wp2_with (first
  | (refine wpList_build_cs rfl 65 _ rfl [] rfl _ build_cli0 ?_)
  |(refine wpList_store_blk rfl 65 (.tmp 6) (.tmp 25) rfl (w.heap.size+1) 65 _ zCli.cs.toArray rfl rfl (uh J2) rfl (cli_info zCli_ok) (fun v hv=>Cli.one v (by simpa using hv)) ?_
    intro w9 hb9 hg9
    have Z9:=jd hb9
    have E9:=jd (gWz (uh X2) hg9)
    clear hb9 hg9)
  | fail)
 exact bodyPost_ret (v:=.tuple #[.agg zCli.cs.toArray,.slice none 0 0,.int .i64 x]) (res_ctt rfl _ (w.heap.size+1) 65 _ _ _ _ rfl rfl rfl (uh Z9) Tryz.underlying65 rfl (cli_info zCli_ok)) rfl (show CliPost w (badC x) _ _ by unfold CliPost badC; rw [if_neg (uh HX0)]; exact ⟨rfl,uh E9⟩)
set_option maxRecDepth 100000 in
set_option maxHeartbeats 16000000 in
theorem acpt_sx (w:World) (c:Cli) (hok:c.Ok) (Ab:Option Addr) (nb cb:Nat) (b:List UInt8) (hb:Reads w w.heap.size 1 Ab nb (bsV b)) (hbc:nb≤cb) (hbm:cb≤maxLen) (r:Int × Cli) (hp:acptC c b=r) :
  Calls Tryz.prog 38 #[.agg c.cs.toArray,.slice Ab nb cb] w (AcpPost w r):=by
 have hlb:b.length=nb:=by have:=hb.1; simpa [bsV] using this
 obtain ⟨W1,hW1⟩ :∃W1,(w.alloc (.cells c.cs.toArray 65)).alloc (.cells zCli.cs.toArray 65)=W1:=⟨_,rfl⟩
 have K0:Hid (Blk W1 w.heap.size 65 c.cs.toArray):=jd (hW1 ▸ ((Blk.new w _ _).alloc _))
 have K2:Hid (Blk W1 (w.heap.size+1) 65 zCli.cs.toArray):=jd (hW1 ▸ (Blk.new' (by simp)))
 have B1:Hid (Below w.heap.size w W1):=jd (hW1 ▸ ((Below.refl _ _).alloc (Nat.le_refl _) _).alloc (by rw [size_alloc]; omega) _)
 have HBB:=jd hb
 have HLB:=jd hlb
 have HBC:=jd hbc
 have HBM:=jd hbm
 have HOK:=jd hok
 have HP:=jd hp
 have HW1:=jd hW1
 have hnb:(nb:Int)≤9223372036854775807:=by unfold maxLen at hbm; omega
 obtain ⟨t1,ht1⟩ :∃t,cliF c=t:=⟨_,rfl⟩
 have HT1:=jd ht1
 clear hb hlb hbc hbm hok hp hW1 ht1
 go_enter Tryz.func38,Tryz.ntmps38
 go_upto_region 1 with (first
  | (refine wpList_alloc_to rfl 65 rfl _ (w.heap.size+1) (size_alloc _ _) (alloc_cli _) ?_)
  | fail)
 rw [uh HW1]
 go_wp2_with (first
  | (refine wpList_load_row rfl 65 _ rfl w.heap.size rfl 65 _ _ _ (uh K0) Tryz.underlying65 rfl (cli_info (uh HOK)) ?_)
  | fail)
 refine (client_sx W1 c (uh HOK) t1 (uh HT1)).mono ?_
 rintro e w2 ⟨rfl,hb2⟩
 have J0:=jd ((uh K0).below hb2 (uh K0).lt)
 have J2:=jd ((uh K2).below hb2 (uh K2).lt)
 have X2:=jd ((uh B1).trans (hb2.mono (uh B1).size))
 have hs2:w.heap.size+1 < w2.heap.size:=(uh J2).lt
 clear hb2
 cases t1
 case false =>
  have hrr:=uh HP
  unfold acptC at hrr
  rw [if_pos (uh HT1)] at hrr
  subst hrr
  clear HP
  go_wp2_with (first
   | (refine wpList_build_cs rfl 65 _ rfl [] rfl _ build_cli0 ?_)
   |(refine wpList_store_blk rfl 65 (.tmp 4) (.tmp 10) rfl (w.heap.size+1) 65 _ zCli.cs.toArray rfl rfl (uh J2) rfl (cli_info zCli_ok) (fun v hv=>Cli.one v (by simpa using hv)) ?_
     intro w9 hb9 hg9
     have Z9:=jd hb9
     have E9:=jd (gWz (uh X2) hg9)
     clear hb9 hg9)
   | fail)
  exact bodyPost_ret (v:=.tuple #[.agg zCli.cs.toArray,.int .i64 1]) (res2 rfl _ (w.heap.size+1) 65 _ _ _ rfl rfl (uh Z9) Tryz.underlying65 rfl (cli_info zCli_ok)) rfl (show AcpPost w (1,zCli) _ _ from ⟨rfl,uh E9⟩)
 have hat:=Cli.blk (uh HOK) (uh J0)
 have c37:=hat.opn
 have c20:=hat.id
 have hil:=(uh HOK).id
 clear hat
 obtain ⟨t2,ht2⟩ :∃t,c.opn=t:=⟨_,rfl⟩
 have HT2:=jd ht2
 rw [ht2] at c37
 clear ht2
 cases t2
 case true =>
  have hrr:=uh HP
  unfold acptC at hrr
  rw [if_neg (by rw [uh HT1]; simp),if_pos (.inl (uh HT2))] at hrr
  subst hrr
  clear HP
  go_wp2_with (first
   | (refine wpList_build_cs rfl 65 _ rfl [] rfl _ build_cli0 ?_)
   |(refine wpList_store_blk rfl 65 (.tmp 4) (.tmp 19) rfl (w.heap.size+1) 65 _ zCli.cs.toArray rfl rfl (uh J2) rfl (cli_info zCli_ok) (fun v hv=>Cli.one v (by simpa using hv)) ?_
     intro w9 hb9 hg9
     have Z9:=jd hb9
     have E9:=jd (gWz (uh X2) hg9)
     clear hb9 hg9)
   | fail)
  exact bodyPost_ret (v:=.tuple #[.agg zCli.cs.toArray,.int .i64 46]) (res2 rfl _ (w.heap.size+1) 65 _ _ _ rfl rfl (uh Z9) Tryz.underlying65 rfl (cli_info zCli_ok)) rfl (show AcpPost w (46,zCli) _ _ from ⟨rfl,uh E9⟩)
 by_cases hi0:c.id=0
 case pos =>
  have f0:((c.id:Int)==0)=true:=by simp [hi0]
  have hrr:=uh HP
  unfold acptC at hrr
  rw [if_neg (by rw [uh HT1]; simp),if_pos (.inr hi0)] at hrr
  subst hrr
  clear HP
  go_wp2_with (first
   | (refine wpList_build_cs rfl 65 _ rfl [] rfl _ build_cli0 ?_)
   |(refine wpList_store_blk rfl 65 (.tmp 4) (.tmp 19) rfl (w.heap.size+1) 65 _ zCli.cs.toArray rfl rfl (uh J2) rfl (cli_info zCli_ok) (fun v hv=>Cli.one v (by simpa using hv)) ?_
     intro w9 hb9 hg9
     have Z9:=jd hb9
     have E9:=jd (gWz (uh X2) hg9)
     clear hb9 hg9)
   | fail)
  exact bodyPost_ret (v:=.tuple #[.agg zCli.cs.toArray,.int .i64 46]) (res2 rfl _ (w.heap.size+1) 65 _ _ _ rfl rfl (uh Z9) Tryz.underlying65 rfl (cli_info zCli_ok)) rfl (show AcpPost w (46,zCli) _ _ from ⟨rfl,uh E9⟩)
 have f0:((c.id:Int)==0)=false:=by simp [hi0]
 have HI0:=jd hi0
 clear hi0
 go_upto_region 5 with fail
 by_cases h13:nb=13
 case neg =>
  have f1:((nb:Int) != 13)=true:=by simp; omega
  have hrr:=uh HP
  unfold acptC at hrr
  rw [if_neg (by rw [uh HT1]; simp),if_neg (by rw [uh HT2]; simp; exact uh HI0),if_pos (fun h=>h13 ((uh HLB).symm.trans h.1))] at hrr
  subst hrr
  clear HP
  clear h13
  go_quiet (fail)
  have J0:=jd ((uh J0).drewN nq)
  have J2:=jd ((uh J2).drewN nq)
  have X2:=jd (below_drewN (uh X2) nq)
  go_wp2_with (first
   | (refine wpList_build_cs rfl 65 _ rfl [] rfl _ build_cli0 ?_)
   |(refine wpList_store_blk rfl 65 (.tmp 4) (.tmp 39) rfl (w.heap.size+1) 65 _ zCli.cs.toArray rfl rfl (uh J2) rfl (cli_info zCli_ok) (fun v hv=>Cli.one v (by simpa using hv)) ?_
     intro w9 hb9 hg9
     have Z9:=jd hb9
     have E9:=jd (gWz (uh X2) hg9)
     clear hb9 hg9)
   | fail)
  exact bodyPost_ret (v:=.tuple #[.agg zCli.cs.toArray,.int .i64 6]) (res2 rfl _ (w.heap.size+1) 65 _ _ _ rfl rfl (uh Z9) Tryz.underlying65 rfl (cli_info zCli_ok)) rfl (show AcpPost w (6,zCli) _ _ from ⟨rfl,uh E9⟩)
 subst h13
 obtain ⟨g,oo,hAb,hgl,hcell⟩:=spot_b (uh HBB) (by omega)
 obtain ⟨b0,hb0⟩ :∃x,b[0]?=some x:=⟨b[0]'(by rw [uh HLB]; omega),List.getElem?_eq_getElem _⟩
 have c0:w2.cell? ⟨g,oo,none⟩=some (.int .u8 (b0.toNat:Int)):=((uh X2).cell (p:=⟨g,oo,none⟩) hgl).trans (hcell 0 b0 hb0)
 have HB0:=jd hb0
 subst hAb
 clear hcell hb0
 by_cases hz:b0=4
 case neg =>
  have f2:((b0.toNat:Int) != 4)=true:=by
   have:b0.toNat≠4:=fun e=>hz (UInt8.toNat_inj.1 e)
   simp; omega
  have hrr:=uh HP
  unfold acptC at hrr
  rw [if_neg (by rw [uh HT1]; simp),if_neg (by rw [uh HT2]; simp; exact uh HI0),if_pos (fun h=>hz (Option.some.inj ((uh HB0).symm.trans h.2.1)))] at hrr
  subst hrr
  clear HP
  clear hz
  go_quiet (fail)
  have J0:=jd ((uh J0).drewN nq)
  have J2:=jd ((uh J2).drewN nq)
  have X2:=jd (below_drewN (uh X2) nq)
  go_wp2_with (first
   | (refine wpList_build_cs rfl 65 _ rfl [] rfl _ build_cli0 ?_)
   |(refine wpList_store_blk rfl 65 (.tmp 4) (.tmp 39) rfl (w.heap.size+1) 65 _ zCli.cs.toArray rfl rfl (uh J2) rfl (cli_info zCli_ok) (fun v hv=>Cli.one v (by simpa using hv)) ?_
     intro w9 hb9 hg9
     have Z9:=jd hb9
     have E9:=jd (gWz (uh X2) hg9)
     clear hb9 hg9)
   | fail)
  exact bodyPost_ret (v:=.tuple #[.agg zCli.cs.toArray,.int .i64 6]) (res2 rfl _ (w.heap.size+1) 65 _ _ _ rfl rfl (uh Z9) Tryz.underlying65 rfl (cli_info zCli_ok)) rfl (show AcpPost w (6,zCli) _ _ from ⟨rfl,uh E9⟩)
 subst hz
 have hc0:w2.cell? ⟨g,oo,none⟩=some (.int .u8 4):=c0
 clear c0
 obtain ⟨idv,hid⟩ :∃v,leW ((b.drop 1).take 4)=v:=⟨_,rfl⟩
 have hidl:idv < 4294967296:=by rw [← hid]; exact leW4 _ _
 have HID:=jd hid
 clear hid
 by_cases hii:idv=c.id
 case neg =>
  have f3:((idv:Int) != (c.id:Int))=true:=by simp; omega
  have HII:=jd hii
  clear hii
  have hrr:=uh HP
  unfold acptC at hrr
  rw [if_neg (by rw [uh HT1]; simp),if_neg (by rw [uh HT2]; simp; exact uh HI0),if_pos (fun h=>uh HII ((uh HID).symm.trans h.2.2))] at hrr
  subst hrr
  clear HP
  have wid:IntKind.u32.wrap (idv:Int)=(idv:Int):=IntWalk.u32_in _ (by omega)
  have hsl:=fun W=>sl_lh W (some ⟨g,oo,none⟩) 13 cb 1 5 1 5 rfl rfl (by omega) (by have:=uh HBC; omega)
  go_quiet ((first
   | (go_at_call 47; exact Calls.quiet_of_same ((number_sx _ 4 (cb - 1) ((b.drop 1).take 4) _ w.heap.size ((((uh HBB).below (uh X2)).drewN _).part (i:=1) (j:=5) (c:=cb) (by omega) (by omega) (uh HBC)) (by omega)).mono fun _ _ h=>⟨by rw [h.1,uh HID],h.2.symm⟩))
   | fail))
  have J0:=jd ((uh J0).drewN nq)
  have J2:=jd ((uh J2).drewN nq)
  have X2:=jd (below_drewN (uh X2) nq)
  go_wp2_with (first
   | (refine wpList_build_cs rfl 65 _ rfl [] rfl _ build_cli0 ?_)
   |(refine wpList_store_blk rfl 65 (.tmp 4) (.tmp 39) rfl (w.heap.size+1) 65 _ zCli.cs.toArray rfl rfl (uh J2) rfl (cli_info zCli_ok) (fun v hv=>Cli.one v (by simpa using hv)) ?_
     intro w9 hb9 hg9
     have Z9:=jd hb9
     have E9:=jd (gWz (uh X2) hg9)
     clear hb9 hg9)
   | fail)
  exact bodyPost_ret (v:=.tuple #[.agg zCli.cs.toArray,.int .i64 6]) (res2 rfl _ (w.heap.size+1) 65 _ _ _ rfl rfl (uh Z9) Tryz.underlying65 rfl (cli_info zCli_ok)) rfl (show AcpPost w (6,zCli) _ _ from ⟨rfl,uh E9⟩)
 have f3:((idv:Int) != (c.id:Int))=false:=by simp; omega
 have HII:=jd hii
 clear hii
 have hrr:=uh HP
 unfold acptC at hrr
 rw [if_neg (by rw [uh HT1]; simp),if_neg (by rw [uh HT2]; simp; exact uh HI0),if_neg (by rw [uh HLB,uh HB0,uh HID]; simp; exact uh HII)] at hrr
 have HP2:=jd hrr
 clear hrr HP
 have wid:IntKind.u32.wrap (idv:Int)=(idv:Int):=IntWalk.u32_in _ (by omega)
 have hsl:=fun W=>sl_lh W (some ⟨g,oo,none⟩) 13 cb 1 5 1 5 rfl rfl (by omega) (by have:=uh HBC; omega)
 go_quiet ((first
  | (go_at_call 47; exact Calls.quiet_of_same ((number_sx _ 4 (cb - 1) ((b.drop 1).take 4) _ w.heap.size ((((uh HBB).below (uh X2)).drewN _).part (i:=1) (j:=5) (c:=cb) (by omega) (by omega) (uh HBC)) (by omega)).mono fun _ _ h=>⟨by rw [h.1,uh HID],h.2.symm⟩))
  | fail))
 have J0:=jd ((uh J0).drewN nq)
 have J2:=jd ((uh J2).drewN nq)
 have X2:=jd (below_drewN (uh X2) nq)
 clear wid hsl
 clear hc0 c37 c20 f3
 obtain ⟨w3,hw3⟩ :∃w3,w2.drewN nq=w3:=⟨_,rfl⟩
 rw [hw3] at J0 J2 X2 ⊢
 have hs3:w.heap.size+1 < w3.heap.size:=(uh J2).lt
 clear hw3
 obtain ⟨dk,hdk,hdr⟩:=key_isRow
 have HDK:=jd hdk
 have HDR:=jd hdr
 have HLB2:=jd (levB_of (cliF_level (uh HT1)))
 have Q7:=jd ((uh HBB).below (uh X2))
 obtain ⟨t4,ht4⟩ :∃t,decide (b=provF 4 c.key c.id c.nonce c.server (levB c.level))=t:=⟨_,rfl⟩
 have HT4:=jd ht4
 clear hdk hdr ht4
 have hat:=(Cli.blk (uh HOK) (uh J0))
 have h17:=hat.level
 have h18:=hat.nonce
 have h19:=hat.server
 have h20:=hat.id
 clear hat
 go_wp2_with (first
  | (refine wpList_load_part rfl 46 (.tmp 42) rfl w.heap.size 1 65 _ (bsV c.key) dk rfl (uh J0) ((Cli.at_ (uh HOK)).key) (uh HDK) (uh HDR) (key_info _ (uh HOK).key) ?_)
  | fail)
 rw [← uh HLB2]
 refine (proved_sx _ 4 c.key (uh HOK).key c.id c.nonce c.server (uh HOK).id (levB c.level)).mono ?_
 rintro e w5 ⟨v5,rfl,ho5,hb5⟩
 obtain ⟨A5,c5,hv5,h51,h52⟩:=slice_of_own ho5
 subst hv5
 have J5:=jd ((uh J0).below hb5 (uh J0).lt)
 have L5:=jd ((uh J2).below hb5 (uh J2).lt)
 have X5:=jd ((uh X2).trans (hb5.mono (uh X2).size))
 have R5:=jd (((uh Q7).below (hb5.mono (uh X2).size)).more (uh X5).size)
 have P5:=jd (Reads.of_own ho5)
 have hs5:w3.heap.size≤w5.heap.size:=hb5.size
 clear ho5 hb5 h17 h18 h19 h20
 go_wp2_with fail
 refine (equal_sx w5 13 _ A5 cb c5 _ _ w5.heap.size (uh R5) ((uh P5)) (by omega) t4 (uh HT4)).mono ?_
 rintro e w8 ⟨rfl,hb8⟩
 have N0:=jd ((uh J5).below hb8 (uh J5).lt)
 have N2:=jd ((uh L5).below hb8 (uh L5).lt)
 have X8:=jd ((uh X5).trans (hb8.mono (uh X5).size))
 have hs8:w3.heap.size≤w8.heap.size:=Nat.le_trans hs5 hb8.size
 clear hb8
 cases t4
 case false =>
  have hrr:=uh HP2
  rw [if_pos (uh HT4)] at hrr
  subst hrr
  clear HP2
  go_wp2_with (first
   | (refine wpList_build_cs rfl 65 _ rfl [] rfl _ build_cli0 ?_)
   |(refine wpList_store_blk rfl 65 (.tmp 4) (.tmp 55) rfl (w.heap.size+1) 65 _ zCli.cs.toArray rfl rfl (uh N2) rfl (cli_info zCli_ok) (fun v hv=>Cli.one v (by simpa using hv)) ?_
     intro w9 hb9 hg9
     have Z9:=jd hb9
     have E9:=jd (gWz (uh X8) hg9)
     clear hb9 hg9)
   | fail)
  exact bodyPost_ret (v:=.tuple #[.agg zCli.cs.toArray,.int .i64 50]) (res2 rfl _ (w.heap.size+1) 65 _ _ _ rfl rfl (uh Z9) Tryz.underlying65 rfl (cli_info zCli_ok)) rfl (show AcpPost w (50,zCli) _ _ from ⟨rfl,uh E9⟩)
 have hrr:=uh HP2
 rw [if_neg (by rw [uh HT4]; simp)] at hrr
 obtain ⟨y,hy⟩ :∃y,({ c with opn:=true }:Cli)=y:=⟨_,rfl⟩
 rw [hy] at hrr
 have HRR:=jd hrr
 have hoky:({ c with opn:=true }:Cli).Ok:=⟨(uh HOK).user,(uh HOK).key,(uh HOK).sess,(uh HOK).nonce,(uh HOK).server,(uh HOK).id,(uh HOK).hi,(uh HOK).se,(uh HOK).out⟩
 have hset:=Cli.set_opn (uh HOK) true
 rw [hy] at hoky hset
 have HOY:=jd hoky
 have HSET:=jd hset
 have HSZ:=jd (Cli.size (uh HOK))
 clear hy hoky hset HP2 hrr
 go_upto_region 10 with (first
  |(refine wpList_store_part rfl 4 (.tmp 56) (.const (.bool true)) rfl w.heap.size 37 65 c.cs.toArray (.bool true) [.bool true] y.cs rfl rfl (uh N0) rfl (by rw [uh HSZ]; simp) (by kernel_rfl) (by intro u hu; simp at hu; subst hu; rfl) (uh HSET) ?_
    intro w10 hb hg
    have M0:=jd hb
    have M2:=jd ((uh N2).gb hg)
    have X10:=jd (gWz (uh X8) hg)
    clear hb hg
    simp only [Act.put])
  | fail)
 go_wp2_with (first
  | (refine wpList_load_row rfl 65 _ rfl w.heap.size rfl 65 _ _ _ (uh M0) Tryz.underlying65 rfl (cli_info (uh HOY)) ?_)
  |(refine wpList_store_blk rfl 65 (.tmp 4) (.tmp 57) rfl (w.heap.size+1) 65 _ y.cs.toArray rfl rfl (uh M2) (Cli.size_eq (uh HOY)) (cli_info (uh HOY)) (fun v hv=>Cli.one v (by simpa using hv)) ?_
    intro w11 hb hg
    have R11:=jd hb
    have X11:=jd (gWz (uh X10) hg)
    clear hb hg)
  | fail)
 have hrr:=uh HRR
 subst hrr
 exact bodyPost_ret (v:=.tuple #[.agg y.cs.toArray,.int .i64 0]) (res2 rfl _ (w.heap.size+1) 65 _ _ _ rfl rfl (uh R11) Tryz.underlying65 rfl (cli_info (uh HOY))) rfl (show AcpPost w (0,y) _ _ from ⟨rfl,uh X11⟩)
theorem cliPost_bad {w:World} {x:Int} (hx:x≠0) {e:Ending} {w':World} (h:ErrC w x e w'):CliPost w (badC x) e w':=by
 unfold CliPost badC
 rw [if_neg hx]
 exact h
theorem cliPost_ok {w:World} {c:Cli} {b:List UInt8} {e:Ending} {w':World} (h:BegPost w c b e w'):CliPost w ⟨0,c,b⟩ e w':=by
 unfold CliPost
 rw [if_pos rfl]
 exact h
theorem answ_sx (w:World) (c:Cli) (hok:c.Ok) (A:Option Addr) (n cc:Nat) (b:List UInt8) (hr:Reads w w.heap.size 1 A n (bsV b)) (hnc:n≤cc) (hcm:cc≤maxLen) (r:CRes) (hp:answC c b=r) :
  Calls Tryz.prog 37 #[.agg c.cs.toArray,.slice A n cc] w (CliPost w r):=by
 subst hp
 have hl:b.length=n:=by have:=hr.1; simpa [bsV] using this
 unfold answC
 cases h1:cliF c
 ·rw [if_pos rfl]
  exact (answer_bad w c hok A n cc h1).mono fun _ _ h=>cliPost_bad (by decide) h
 rw [if_neg (by simp)]
 cases h2:c.opn
 case true =>
  rw [if_pos rfl]
  exact (answer_open w c hok A n cc h1 h2).mono fun _ _ h=>cliPost_bad (by decide) h
 rw [if_neg (by simp)]
 by_cases h3:b.length=13∧b[0]?=some 2
 ·rw [if_neg (fun h=>h h3)]
  obtain rfl:n=13:=by omega
  exact (answer_ok w c hok A cc b hr hnc h1 h2 h3.2).mono fun _ _ h=>cliPost_ok h
 ·rw [if_pos h3]
  exact (answer_form w c hok A n cc b hr (by omega) h1 h2 h3).mono fun _ _ h=>cliPost_bad (by decide) h
theorem begin_sx (w:World) (u ks:List UInt8) (hu:u.length≤maxLen) (hk:ks.length=16) (l:Int) (n:Nat) (hn:n < 18446744073709551616) (r:CRes) (hp:begC u ks l n=r) :
  Calls Tryz.prog 19 #[.string ⟨u.toArray⟩,.agg (bsV ks).toArray,.int .i64 l,.int .u64 (n:Int)] w (CliPost w r):=by
 subst hp
 unfold begC
 cases h1:nameF u
 ·rw [if_pos rfl]
  exact (begin_name w u ks hu hk l n hn h1).mono fun _ _ h=>cliPost_bad (by decide) h
 rw [if_neg (by simp)]
 cases h2:decide (1≤l∧l≤3)
 ·rw [if_pos rfl]
  exact (begin_level w u ks hu hk l n hn h1 h2).mono fun _ _ h=>cliPost_bad (by decide) h
 rw [if_neg (by simp)]
 have e:=levB_of h2
 have hb:=begin_ok w u ks hk (levB l) n hn h1 (by rw [e]; exact h2)
 rw [e] at hb
 exact hb.mono fun _ _ h=>cliPost_ok h
theorem wpList_y {P:Program} {ops:List Oper} {Q:Exit→Act→World→Prop} {rest:List Oper} {o:Oper} {a:Act} {w:World} {v:Value} (hy:YieldsIf P ops.toArray (fun z=>z=w) o v a) (h:wpList P ops.toArray Q rest (a.put o.dst v) w):wpList P ops.toArray Q (o::rest) a w:=by
 unfold wpList
 rcases hy with ⟨hw,hr⟩ | ⟨hw,rfl⟩
 ·rw [if_pos hw]
  left
  unfold Oper.wp
  rw [hr w rfl]
  exact h
 ·rw [if_neg (by rw [hw]; simp)]
  exact h
theorem y_eq_agg {P:Program} {l:List Oper} {S:World→Prop} {a:Act} {o:Oper} {b:Bool} (t u:TypeId) (x y:Operand) (hw:Region.wanted o (yielded l.toArray a.tmps)=true) (ho:o.op=.binOp .eql t x y u) (xs ys:Array Value) (hx:a.eval x=.agg xs) (hy:a.eval y=.agg ys)
  (hm:P.eqGuardType P.depth t=false) (hrun:∀ w,(binOp .eql t (.agg xs) (.agg ys)).run P w=.ok (.bool b) w):YieldsIf P l.toArray S o (.bool b) a :=
 .inl ⟨hw,fun w _=>by
  unfold execOp
  simp only [ho,hx,hy,Sem.run_bind,Sem.run_pure,Result.andThen_ok,run_eqGuard_agg w .eql t x y xs ys hm,hrun]⟩
def CliR (w:World) (r:CRes) (e:Ending) (w':World):Prop :=
 ∃ A c,e=.returned (.tuple #[.agg r.c.cs.toArray,.slice A r.b.length c,.int .i64 r.code])∧w'.ownsRow w.heap.size 5 1 (.slice A r.b.length c) r.b.length (bsV r.b)∧r.b.length≤c∧c≤maxLen∧Below w.heap.size w w'
theorem CliPost.r {w w':World} {r:CRes} {e:Ending} (h:CliPost w r e w') (hr:CBad r):CliR w r e w':=by
 obtain ⟨v,rfl,⟨vb,rfl,ho⟩,hb⟩:=h.v hr
 obtain ⟨A,c,rfl,h1,h2⟩:=slice_of_own ho
 exact ⟨A,c,rfl,ho,h1,h2,hb⟩
def TakR (w:World) (r:TRes) (e:Ending) (w':World):Prop :=
 ∃ A m c,e=.returned (.tuple #[.agg r.c.cs.toArray,.int .i64 (r.kind:Int),.slice A m c,.int .i64 r.e])∧FReads w.heap.size w' A m (bsV r.d)∧m≤c∧c≤maxLen∧Below w.heap.size w w'
def TBad (r:TRes):Prop:=r.e≠0→r.c=zCli∧r.kind=0∧r.d=[]
theorem TakPost.r {w w':World} {r:TRes} {e:Ending} (h:TakPost w r e w') (hr:TBad r):TakR w r e w':=by
 unfold TakPost at h
 by_cases h0:r.e=0
 ·rw [if_pos h0] at h
  obtain ⟨A,m,c,he,h1,h2,h3,hb⟩:=h
  exact ⟨A,m,c,by rw [h0]; exact he,h1,h2,h3,hb⟩
 ·rw [if_neg h0] at h
  obtain ⟨he,hb⟩:=h
  obtain ⟨h1,h2,h3⟩:=hr h0
  exact ⟨none,0,0,by rw [h1,h2]; exact he,by rw [h3]; exact FReads.of_own (base:=w.heap.size) (World.ownsRow_nil _ _ 5 _) (Nat.le_refl _),Nat.le_refl _,by unfold maxLen; omega,hb⟩
theorem take_bad3 (c:Cli) (b:List UInt8):TBad (takeC c b):=by
 intro h
 unfold takeC at h ⊢
 repeat' split
 all_goals first | exact ⟨rfl,rfl,rfl⟩ | skip
 all_goals simp_all
theorem acpt_bad (c:Cli) (b:List UInt8) (h0:(acptC c b).1≠0):(acptC c b).2=zCli:=by
 unfold acptC at h0 ⊢
 by_cases h1:cliF c=false
 · rw [if_pos h1]
 rw [if_neg h1] at h0 ⊢
 by_cases h2:c.opn=true∨c.id=0
 · rw [if_pos h2]
 rw [if_neg h2] at h0 ⊢
 by_cases h3:¬ (b.length=13∧b[0]?=some 4∧leW ((b.drop 1).take 4)=c.id)
 · rw [if_pos h3]
 rw [if_neg h3] at h0 ⊢
 by_cases h4:decide (b=provF 4 c.key c.id c.nonce c.server (levB c.level))=false
 · rw [if_pos h4]
 rw [if_neg h4] at h0
 exact absurd rfl h0
theorem answ_ok2 {c:Cli} (hok:c.Ok) (b:List UInt8):(answC c b).c.Ok:=by
 unfold answC
 by_cases h1:cliF c=false
 · rw [if_pos h1]; exact zCli_ok
 rw [if_neg h1]
 by_cases h2:c.opn=true
 · rw [if_pos h2]; exact zCli_ok
 rw [if_neg h2]
 by_cases h3:b.length=13∧b[0]?=some 2
 · rw [if_neg (fun h=>h h3)]; exact ansC_ok hok h3.1
 · rw [if_pos h3]; exact zCli_ok
theorem acpt_ok2 {c:Cli} (hok:c.Ok) (b:List UInt8):(acptC c b).2.Ok:=by
 by_cases h:(acptC c b).1=0
 · exact (acpt_fine hok h).1
 · rw [acpt_bad c b h]; exact zCli_ok
theorem post_ok2 {c:Cli} (hok:c.Ok) (kb:UInt8) (data:List UInt8):(postC c kb data).c.Ok:=by
 by_cases h:(postC c kb data).code=0
 · exact (post_fine hok h).1
 · rw [(post_bad c kb data h).1]; exact zCli_ok
theorem take_ok2 {c:Cli} (hok:c.Ok) (b:List UInt8):(takeC c b).c.Ok:=by
 by_cases h:(takeC c b).e=0
 · exact (take_fine hok h).1
 · rw [take_bad c b h]; exact zCli_ok
structure SCI (w W:World) (k p q:Cli) (g9 g12:Nat):Prop where
 b4:Blk W w.heap.size 65 k.cs.toArray
 b9:Blk W g9 65 p.cs.toArray
 b12:Blk W g12 65 q.cs.toArray
 low:Below w.heap.size w W
 n9:w.heap.size < g9
 n12:g9 < g12
theorem SCI.below {w W W':World} {k p q:Cli} {g9 g12:Nat} (h:SCI w W k p q g9 g12) (hb:Below W.heap.size W W'):SCI w W' k p q g9 g12 :=
 ⟨h.b4.below hb h.b4.lt,h.b9.below hb h.b9.lt,h.b12.below hb h.b12.lt,h.low.trans (hb.mono h.low.size),h.n9,h.n12⟩
theorem SCI.set9 {w W W':World} {k p p' q:Cli} {g9 g12:Nat} (h:SCI w W k p q g9 g12) (hb:Blk W' g9 65 p'.cs.toArray) (hg:W.grownBy W' (some g9)):SCI w W' k p' q g9 g12 :=
 ⟨h.b4.grown hg (fun e=>by injection e with e; have:=h.n9; omega),hb,h.b12.grown hg (fun e=>by injection e with e; have:=h.n12; omega),h.low.grown hg h.low.size (fun j e=>by injection e with e; have:=h.n9; omega),h.n9,h.n12⟩
theorem SCI.set12 {w W W':World} {k p q q':Cli} {g9 g12:Nat} (h:SCI w W k p q g9 g12) (hb:Blk W' g12 65 q'.cs.toArray) (hg:W.grownBy W' (some g12)):SCI w W' k p q' g9 g12 :=
 ⟨h.b4.grown hg (fun e=>by injection e with e; have:=h.n9; have:=h.n12; omega),h.b9.grown hg (fun e=>by injection e with e; have:=h.n12; omega),hb,h.low.grown hg h.low.size (fun j e=>by injection e with e; have:=h.n9; have:=h.n12; omega),h.n9,h.n12⟩
end Go.Proofs.YtfbkkmnkpjgciaaGreat
