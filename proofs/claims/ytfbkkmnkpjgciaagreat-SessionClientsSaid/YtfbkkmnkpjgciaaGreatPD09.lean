/- Joined of SAnswer SLePlain SAcc. No condition. -/
import Derived.Test.YtfbkkmnkpjgciaaGreatPD08
import Derived.Test.YtfbkkmnkpjgciaaGreatPD02
import Derived.Test.YtfbkkmnkpjgciaaGreatPD04
namespace Go.Proofs.YtfbkkmnkpjgciaaGreat
open Go.RowKit
def sessL:List UInt8:=[115,101,115,115,105,111,110]
def levB (l:Int):UInt8:=UInt8.ofNat l.toNat
theorem levB_of {l:Int} (h:decide (1≤l∧l≤3)=true):((levB l).toNat:Int)=l:=by
 simp only [decide_eq_true_eq] at h
 have:l=1∨l=2∨l=3:=by omega
 rcases this with rfl | rfl | rfl<;>rfl
theorem cliF_level {c:Cli} (h:cliF c=true):decide (1≤c.level∧c.level≤3)=true:=by
 unfold cliF at h
 simp only [Bool.and_eq_true] at h
 exact h.2
theorem leW_lt8 (l:List UInt8) (h:l.length≤8):leW l < 18446744073709551616:=by
 have h1:=leW_lt l
 have h2:256 ^ l.length≤256 ^ 8:=Nat.pow_le_pow_right (by omega) h
 omega
def ansC (c:Cli) (b:List UInt8):Cli:={ c with id:=leW ((b.drop 1).take 4),server:=leW (b.drop 5),sess:=derF c.key sessL (c.nonce:Int) (leW (b.drop 5):Int) }
theorem ansC_ok {c:Cli} (h:c.Ok) {b:List UInt8} (hb:b.length=13):(ansC c b).Ok :=
 ⟨h.user,h.key,der_len _ _ _ _,h.nonce,leW_lt8 _ (by simp; omega),leW4 _ _,h.hi,h.se,h.out⟩
set_option maxRecDepth 100000 in
set_option maxHeartbeats 4000000 in
theorem answer_bad (w:World) (c:Cli) (hok:c.Ok) (A:Option Addr) (n cc:Nat) (hcf:cliF c=false):Calls Tryz.prog 37 #[.agg c.cs.toArray,.slice A n cc] w (ErrC w 1):=by
 have HCF:=jd hcf
 clear hcf
 have K0:Hid (Blk ((w.alloc (.cells c.cs.toArray 65)).alloc (.cells zCli.cs.toArray 65)) w.heap.size 65 c.cs.toArray):=jd ((Blk.new w 65 c.cs.toArray).alloc _)
 have K1:Hid (Blk ((w.alloc (.cells c.cs.toArray 65)).alloc (.cells zCli.cs.toArray 65)) (w.heap.size+1) 65 zCli.cs.toArray):=jd (Blk.new' (by simp))
 have B0:Hid (Below w.heap.size w ((w.alloc (.cells c.cs.toArray 65)).alloc (.cells zCli.cs.toArray 65))):=jd (((Below.refl _ _).alloc (Nat.le_refl _) _).alloc (by rw [size_alloc]; omega) _)
 have HOK:=jd hok
 clear hok
 go_enter Tryz.func37,Tryz.ntmps37
 go_wp2_with (first
  | (refine wpList_alloc_to rfl 65 rfl _ (w.heap.size+1) (size_alloc w _) (alloc_cli _) ?_)
  | (refine wpList_load_row rfl 65 _ rfl w.heap.size rfl 65 _ _ _ (uh K0) Tryz.underlying65 rfl (cli_info (uh HOK)) ?_)
  | fail)
 refine (client_sx _ _ (uh HOK) _ (uh HCF)).mono ?_
 rintro e w1 ⟨rfl,hb1⟩
 have Z1:=jd ((uh K0).below hb1 (uh K0).lt)
 have Q1:=jd ((uh K1).below hb1 (uh K1).lt)
 have B1:=jd ((uh B0).trans (hb1.mono (uh B0).size))
 clear hb1
 go_wp2_with (first
  | (refine wpList_build_cs rfl 65 _ rfl [] rfl _ build_cli0 ?_)
  |(refine wpList_store_blk rfl 65 (.tmp 4) (.tmp 11) rfl (w.heap.size+1) 65 _ zCli.cs.toArray rfl rfl (uh Q1) rfl (cli_info zCli_ok) (fun v hv=>Cli.one v (by simpa using hv)) ?_
    intro w9 hb9 hg9
    have Z9:=jd hb9
    have E9:=jd (gWz (uh B1) hg9)
    clear hb9 hg9)
  | fail)
 exact bodyPost_ret (v:=.tuple #[.agg zCli.cs.toArray,.slice none 0 0,.int .i64 1]) (res_ctt rfl _ (w.heap.size+1) 65 _ _ _ _ rfl rfl rfl (uh Z9) Tryz.underlying65 rfl (cli_info zCli_ok)) rfl (show ErrC w 1 _ _ from ⟨rfl,uh E9⟩)
set_option maxRecDepth 100000 in
set_option maxHeartbeats 4000000 in
theorem answer_open (w:World) (c:Cli) (hok:c.Ok) (A:Option Addr) (n cc:Nat) (hcf:cliF c=true) (hop:c.opn=true):Calls Tryz.prog 37 #[.agg c.cs.toArray,.slice A n cc] w (ErrC w 46):=by
 have HCF:=jd hcf
 have HOP:=jd hop
 clear hcf hop
 have K0:Hid (Blk ((w.alloc (.cells c.cs.toArray 65)).alloc (.cells zCli.cs.toArray 65)) w.heap.size 65 c.cs.toArray):=jd ((Blk.new w 65 c.cs.toArray).alloc _)
 have K1:Hid (Blk ((w.alloc (.cells c.cs.toArray 65)).alloc (.cells zCli.cs.toArray 65)) (w.heap.size+1) 65 zCli.cs.toArray):=jd (Blk.new' (by simp))
 have B0:Hid (Below w.heap.size w ((w.alloc (.cells c.cs.toArray 65)).alloc (.cells zCli.cs.toArray 65))):=jd (((Below.refl _ _).alloc (Nat.le_refl _) _).alloc (by rw [size_alloc]; omega) _)
 have HOK:=jd hok
 clear hok
 go_enter Tryz.func37,Tryz.ntmps37
 go_wp2_with (first
  | (refine wpList_alloc_to rfl 65 rfl _ (w.heap.size+1) (size_alloc w _) (alloc_cli _) ?_)
  | (refine wpList_load_row rfl 65 _ rfl w.heap.size rfl 65 _ _ _ (uh K0) Tryz.underlying65 rfl (cli_info (uh HOK)) ?_)
  | fail)
 refine (client_sx _ _ (uh HOK) _ (uh HCF)).mono ?_
 rintro e w1 ⟨rfl,hb1⟩
 have Z1:=jd ((uh K0).below hb1 (uh K0).lt)
 have Q1:=jd ((uh K1).below hb1 (uh K1).lt)
 have B1:=jd ((uh B0).trans (hb1.mono (uh B0).size))
 clear hb1
 have hc:=(c.blk (uh HOK) (uh Z1)).opn
 rw [uh HOP] at hc
 go_wp2_with (first
  | (refine wpList_build_cs rfl 65 _ rfl [] rfl _ build_cli0 ?_)
  |(refine wpList_store_blk rfl 65 (.tmp 4) (.tmp 15) rfl (w.heap.size+1) 65 _ zCli.cs.toArray rfl rfl (uh Q1) rfl (cli_info zCli_ok) (fun v hv=>Cli.one v (by simpa using hv)) ?_
    intro w9 hb9 hg9
    have Z9:=jd hb9
    have E9:=jd (gWz (uh B1) hg9)
    clear hb9 hg9)
  | fail)
 exact bodyPost_ret (v:=.tuple #[.agg zCli.cs.toArray,.slice none 0 0,.int .i64 46]) (res_ctt rfl _ (w.heap.size+1) 65 _ _ _ _ rfl rfl rfl (uh Z9) Tryz.underlying65 rfl (cli_info zCli_ok)) rfl (show ErrC w 46 _ _ from ⟨rfl,uh E9⟩)
set_option maxRecDepth 100000 in
set_option maxHeartbeats 4000000 in
theorem answer_form (w:World) (c:Cli) (hok:c.Ok) (A:Option Addr) (n cc:Nat) (b:List UInt8) (hr:Reads w w.heap.size 1 A n (bsV b)) (hn:n≤maxLen) (hcf:cliF c=true) (hop:c.opn=false) (hfm:¬ (b.length=13∧b[0]?=some 2)) :
  Calls Tryz.prog 37 #[.agg c.cs.toArray,.slice A n cc] w (ErrC w 6):=by
 have HCF:=jd hcf
 have HOP:=jd hop
 have hl:b.length=n:=by have:=hr.1; simpa [bsV] using this
 rw [hl] at hfm
 unfold maxLen at hn
 by_cases h13:n=13
 ·subst h13
  obtain ⟨x,hx,hx2⟩ :∃x,b[0]?=some x∧x≠2:=⟨b[0]'(by omega),List.getElem?_eq_getElem _,fun e=>hfm ⟨rfl,by rw [List.getElem?_eq_getElem (by omega),e]⟩⟩
  obtain ⟨g,oo,hA,hgl,hcell⟩:=spot_b hr (by omega)
  subst hA
  have c0:=jd (hcell 0 x hx)
  have hne:((x.toNat:Int) != 2)=true:=by
   have:x.toNat≠2:=fun e=>hx2 (UInt8.toNat_inj.1 e)
   simp; omega
  clear hcf hop hr hfm hl hcell hx hx2
  have K0:Hid (Blk ((w.alloc (.cells c.cs.toArray 65)).alloc (.cells zCli.cs.toArray 65)) w.heap.size 65 c.cs.toArray):=jd ((Blk.new w 65 c.cs.toArray).alloc _)
  have K1:Hid (Blk ((w.alloc (.cells c.cs.toArray 65)).alloc (.cells zCli.cs.toArray 65)) (w.heap.size+1) 65 zCli.cs.toArray):=jd (Blk.new' (by simp))
  have B0:Hid (Below w.heap.size w ((w.alloc (.cells c.cs.toArray 65)).alloc (.cells zCli.cs.toArray 65))):=jd (((Below.refl _ _).alloc (Nat.le_refl _) _).alloc (by rw [size_alloc]; omega) _)
  have HOK:=jd hok
  clear hok
  go_enter Tryz.func37,Tryz.ntmps37
  go_wp2_with (first
   | (refine wpList_alloc_to rfl 65 rfl _ (w.heap.size+1) (size_alloc w _) (alloc_cli _) ?_)
   | (refine wpList_load_row rfl 65 _ rfl w.heap.size rfl 65 _ _ _ (uh K0) Tryz.underlying65 rfl (cli_info (uh HOK)) ?_)
   | fail)
  refine (client_sx _ _ (uh HOK) _ (uh HCF)).mono ?_
  rintro e w1 ⟨rfl,hb1⟩
  have Z1:=jd ((uh K0).below hb1 (uh K0).lt)
  have Q1:=jd ((uh K1).below hb1 (uh K1).lt)
  have B1:=jd ((uh B0).trans (hb1.mono (uh B0).size))
  clear hb1
  have hc:=(c.blk (uh HOK) (uh Z1)).opn
  rw [uh HOP] at hc
  have hc0:w1.cell? ⟨g,oo,none⟩=some (.int .u8 (x.toNat:Int)):=((uh B1).cell (p:=⟨g,oo,none⟩) hgl).trans (uh c0)
  go_wp2_with (first
   | (refine wpList_build_cs rfl 65 _ rfl [] rfl _ build_cli0 ?_)
   |(refine wpList_store_blk rfl 65 (.tmp 4) (.tmp 26) rfl (w.heap.size+1) 65 _ zCli.cs.toArray rfl rfl (uh Q1) rfl (cli_info zCli_ok) (fun v hv=>Cli.one v (by simpa using hv)) ?_
     intro w9 hb9 hg9
     have Z9:=jd hb9
     have E9:=jd (gWz (uh B1) hg9)
     clear hb9 hg9)
   | fail)
  exact bodyPost_ret (v:=.tuple #[.agg zCli.cs.toArray,.slice none 0 0,.int .i64 6]) (res_ctt rfl _ (w.heap.size+1) 65 _ _ _ _ rfl rfl rfl (uh Z9) Tryz.underlying65 rfl (cli_info zCli_ok)) rfl (show ErrC w 6 _ _ from ⟨rfl,uh E9⟩)
 ·have hne:((n:Int) != 13)=true:=by simp; omega
  clear hcf hop hr hfm hl
  have K0:Hid (Blk ((w.alloc (.cells c.cs.toArray 65)).alloc (.cells zCli.cs.toArray 65)) w.heap.size 65 c.cs.toArray):=jd ((Blk.new w 65 c.cs.toArray).alloc _)
  have K1:Hid (Blk ((w.alloc (.cells c.cs.toArray 65)).alloc (.cells zCli.cs.toArray 65)) (w.heap.size+1) 65 zCli.cs.toArray):=jd (Blk.new' (by simp))
  have B0:Hid (Below w.heap.size w ((w.alloc (.cells c.cs.toArray 65)).alloc (.cells zCli.cs.toArray 65))):=jd (((Below.refl _ _).alloc (Nat.le_refl _) _).alloc (by rw [size_alloc]; omega) _)
  have HOK:=jd hok
  clear hok
  go_enter Tryz.func37,Tryz.ntmps37
  go_wp2_with (first
   | (refine wpList_alloc_to rfl 65 rfl _ (w.heap.size+1) (size_alloc w _) (alloc_cli _) ?_)
   | (refine wpList_load_row rfl 65 _ rfl w.heap.size rfl 65 _ _ _ (uh K0) Tryz.underlying65 rfl (cli_info (uh HOK)) ?_)
   | fail)
  refine (client_sx _ _ (uh HOK) _ (uh HCF)).mono ?_
  rintro e w1 ⟨rfl,hb1⟩
  have Z1:=jd ((uh K0).below hb1 (uh K0).lt)
  have Q1:=jd ((uh K1).below hb1 (uh K1).lt)
  have B1:=jd ((uh B0).trans (hb1.mono (uh B0).size))
  clear hb1
  have hc:=(c.blk (uh HOK) (uh Z1)).opn
  rw [uh HOP] at hc
  go_wp2_with (first
   | (refine wpList_build_cs rfl 65 _ rfl [] rfl _ build_cli0 ?_)
   |(refine wpList_store_blk rfl 65 (.tmp 4) (.tmp 26) rfl (w.heap.size+1) 65 _ zCli.cs.toArray rfl rfl (uh Q1) rfl (cli_info zCli_ok) (fun v hv=>Cli.one v (by simpa using hv)) ?_
     intro w9 hb9 hg9
     have Z9:=jd hb9
     have E9:=jd (gWz (uh B1) hg9)
     clear hb9 hg9)
   | fail)
  exact bodyPost_ret (v:=.tuple #[.agg zCli.cs.toArray,.slice none 0 0,.int .i64 6]) (res_ctt rfl _ (w.heap.size+1) 65 _ _ _ _ rfl rfl rfl (uh Z9) Tryz.underlying65 rfl (cli_info zCli_ok)) rfl (show ErrC w 6 _ _ from ⟨rfl,uh E9⟩)
set_option maxRecDepth 100000 in
set_option maxHeartbeats 8000000 in
theorem answer_ok (w:World) (c:Cli) (hok:c.Ok) (A:Option Addr) (cc:Nat) (b:List UInt8) (hr:Reads w w.heap.size 1 A 13 (bsV b)) (hnc:13≤cc) (hcf:cliF c=true) (hop:c.opn=false) (hb0:b[0]?=some 2) :
  Calls Tryz.prog 37 #[.agg c.cs.toArray,.slice A 13 cc] w (BegPost w (ansC c b) (provF 3 c.key (ansC c b).id c.nonce (ansC c b).server (levB c.level))):=by
 have HCF:=jd hcf
 have HOP:=jd hop
 have hl:b.length=13:=by have:=hr.1; simpa [bsV] using this
 obtain ⟨g,oo,hA,hgl,hcell⟩:=spot_b hr (by omega)
 have c0:=jd (hcell 0 2 hb0)
 have hlv:=jd (levB_of (cliF_level hcf))
 have HR:=jd hr
 have HNC:=jd hnc
 have HLN:=jd hl
 have HKL:=jd hok.key
 obtain ⟨x,hx⟩ :∃x,leW ((b.drop 1).take 4)=x:=⟨_,rfl⟩
 obtain ⟨y,hy⟩ :∃y,leW (b.drop 5)=y:=⟨_,rfl⟩
 obtain ⟨z,hz⟩ :∃z,derF c.key sessL (c.nonce:Int) (y:Int)=z:=⟨_,rfl⟩
 have ha:ansC c b={ c with id:=x,server:=y,sess:=z }:=by rw [← hx,← hz,← hy]; rfl
 have hzl:z.length=16:=by rw [← hz]; exact der_len _ _ _ _
 have hxl:x < 4294967296:=by rw [← hx]; exact leW4 _ _
 have hyl:y < 18446744073709551616:=by rw [← hy]; exact leW_lt8 _ (by simp; omega)
 have O1:({ c with id:=x }:Cli).Ok:=⟨hok.user,hok.key,hok.sess,hok.nonce,hok.server,hxl,hok.hi,hok.se,hok.out⟩
 have O2:({ c with id:=x,server:=y }:Cli).Ok:=⟨hok.user,hok.key,hok.sess,hok.nonce,hyl,hxl,hok.hi,hok.se,hok.out⟩
 have O3:({ c with id:=x,server:=y,sess:=z }:Cli).Ok:=⟨hok.user,hok.key,hzl,hok.nonce,hyl,hxl,hok.hi,hok.se,hok.out⟩
 rw [ha]
 dsimp only
 have HO1:=jd O1
 have HO2:=jd O2
 have HO3:=jd O3
 have HX:=jd hx
 have HY:=jd hy
 have HZ:=jd hz
 have HZL:=jd hzl
 have HXL:=jd hxl
 have HYL:=jd hyl
 have HA:=jd hA
 have HSA:=jd (fun W=>sl_lh W A 13 cc 1 5 1 5 rfl rfl (by omega) (by omega))
 have HSB:=jd (fun W=>sl_l W A 13 cc 5 5 rfl (by omega))
 have wx:IntKind.u32.wrap (x:Int)=(x:Int):=IntWalk.u32_in _ (by omega)
 clear hcf hop hr hl hcell hb0 hnc hx hy hz ha hzl O1 O2 O3
 subst hA
 have K0:Hid (Blk ((w.alloc (.cells c.cs.toArray 65)).alloc (.cells zCli.cs.toArray 65)) w.heap.size 65 c.cs.toArray):=jd ((Blk.new w 65 c.cs.toArray).alloc _)
 have K1:Hid (Blk ((w.alloc (.cells c.cs.toArray 65)).alloc (.cells zCli.cs.toArray 65)) (w.heap.size+1) 65 zCli.cs.toArray):=jd (Blk.new' (by simp))
 have B0:Hid (Below w.heap.size w ((w.alloc (.cells c.cs.toArray 65)).alloc (.cells zCli.cs.toArray 65))):=jd (((Below.refl _ _).alloc (Nat.le_refl _) _).alloc (by rw [size_alloc]; omega) _)
 have HOK:=jd hok
 clear hok
 go_enter Tryz.func37,Tryz.ntmps37
 go_wp2_with (first
  | (refine wpList_alloc_to rfl 65 rfl _ (w.heap.size+1) (size_alloc w _) (alloc_cli _) ?_)
  | (refine wpList_load_row rfl 65 _ rfl w.heap.size rfl 65 _ _ _ (uh K0) Tryz.underlying65 rfl (cli_info (uh HOK)) ?_)
  | fail)
 refine (client_sx _ _ (uh HOK) _ (uh HCF)).mono ?_
 rintro e w1 ⟨rfl,hb1⟩
 have Z1:=jd ((uh K0).below hb1 (uh K0).lt)
 have Q1:=jd ((uh K1).below hb1 (uh K1).lt)
 have B1:=jd ((uh B0).trans (hb1.mono (uh B0).size))
 clear hb1
 have hc:=(c.blk (uh HOK) (uh Z1)).opn
 rw [uh HOP] at hc
 have hc0:w1.cell? ⟨g,oo,none⟩=some (.int .u8 2):=((uh B1).cell (p:=⟨g,oo,none⟩) hgl).trans (uh c0)
 have R1:=jd ((uh HR).below (uh B1))
 go_upto_region 7 with fail
 clear hc hc0
 have hS0:(fun _:World=>True) w1.drew:=trivial
 refine wp_region_noPanic (wp_region_held_drew (S:=fun _=>True) (by kernel_rfl) hS0 (fun _=>?_))
 refine tq 0 rfl hS0 ?_
 refine tJz (v:=.slice (subA (some ⟨g,oo,none⟩) 1 cc) 4 (cc - 1)) 1 rfl (Or.inl ⟨by rfl,fun wz hSw=>?_⟩) hS0 ?_
 ·have hq:=uh HSA wz
  go_simp
 refine tq 4 rfl hS0 ?_
 refine tJz (v:=.slice (subA (some ⟨g,oo,none⟩) 5 cc) 8 (cc - 5)) 5 rfl (Or.inl ⟨by rfl,fun wz hSw=>?_⟩) hS0 ?_
 ·have hq:=uh HSB wz
  go_simp
 refine tOz 2 rfl fun K hK=>?_
 rw [if_pos (by rfl)]
 go_simp
 have hr2:=((uh R1).drew).part (i:=1) (j:=5) (c:=cc) (by omega) (by omega) (uh HNC)
 refine (number_sx _ 4 (cc - 1) ((b.drop 1).take 4) _ _ hr2 (by omega)).mono ?_
 rw [uh HX]
 clear hr2
 rintro e w' ⟨rfl,rfl⟩
 refine hK.out _ _ hS0 (fun _=>?_)
 clear hK K
 try simp only [Act.put,zA,zB,zC]
 refine tJz (v:=.int .u32 (x:Int)) 3 rfl (Or.inl ⟨by rfl,fun wz hSw=>?_⟩) hS0 ?_
 ·skip
  go_simp
 refine tq 7 rfl hS0 ?_
 refine tOz 6 rfl fun K hK=>?_
 rw [if_pos (by rfl)]
 go_simp
 have hr2:=((uh R1).drew).rest (i:=5) (c:=cc) (by omega) (uh HNC)
 refine (number_sx _ 8 (cc - 5) (b.drop 5) _ _ hr2 (by omega)).mono ?_
 rw [uh HY]
 clear hr2
 rintro e w' ⟨rfl,rfl⟩
 refine hK.out _ _ hS0 (fun _=>?_)
 clear hK K
 try simp only [Act.put,zA,zB,zC]
 have hk2:Blk w1.drew w.heap.size 65 c.cs.toArray:=uh Z1
 have hq2:Blk w1.drew (w.heap.size+1) 65 zCli.cs.toArray:=uh Q1
 refine tOz 8 rfl fun K hK=>?_
 refine step_store_part (by rfl) 27 (.tmp 34) (.tmp 30) rfl w.heap.size 20 65 c.cs.toArray (.int .u32 (x:Int)) [.int .u32 (x:Int)] ({ c with id:=x }:Cli).cs rfl rfl hk2 rfl (by rw [Cli.size (uh HOK)]; simp) (by kernel_rfl) (one1 rfl) (Cli.set_id (uh HOK) x) ?_
 intro w2 hb2 hg2
 refine hK.out _ _ trivial (fun _=>?_)
 clear hK K
 try simp only [Act.put]
 refine tq 9 rfl hS0 ?_
 refine tOz 10 rfl fun K hK=>?_
 refine step_store_part (by rfl) 43 (.tmp 35) (.tmp 33) rfl w.heap.size 19 65 ({ c with id:=x }:Cli).cs.toArray (.int .u64 (y:Int)) [.int .u64 (y:Int)] ({ c with id:=x,server:=y }:Cli).cs rfl rfl hb2 rfl (by rw [Cli.size (uh HO1)]; simp) (by kernel_rfl) (one1 rfl) (Cli.set_server (uh HO1) y) ?_
 intro w3 hb3 hg3
 refine hK.out _ _ trivial (fun _=>?_)
 clear hK K
 try simp only [Act.put]
 refine wpAnyH_done (by kernel_rfl) (NoPanic.normal ?_) _
 have B3:Hid (Below w.heap.size w w3):=jd ((((uh B1).drew).grown hg2 (uh B1).size (fun j e=>by injection e with e; omega)).grown hg3 (((uh B1).drew).grown hg2 (uh B1).size (fun j e=>by injection e with e; omega)).size (fun j e=>by injection e with e; omega))
 have Q3:=jd ((hq2.grown hg2 (fun e=>by injection e with e; omega)).grown hg3 (fun e=>by injection e with e; omega))
 have Z3:=jd hb3
 clear hb2 hb3 hg2 hg3 hk2 hq2 hS0
 have hat:=(Cli.blk (uh HO2) (uh Z3))
 have h18:=hat.nonce
 have h19:=hat.server
 dsimp only at h18 h19
 clear hat
 obtain ⟨dk,hdk,hdr⟩:=key_isRow
 have HDK:=jd hdk
 have HDR:=jd hdr
 clear hdk hdr
 go_wp2_with (first
  | (refine wpList_load_part rfl 46 (.tmp 36) rfl w.heap.size 1 65 _ (bsV c.key) dk rfl (uh Z3) ((Cli.at_ (uh HO2)).key) (uh HDK) (uh HDR) (key_info _ (uh HKL)) ?_)
  | fail)
 refine (derive_any w3 c.key (uh HKL) ⟨#[115,101,115,115,105,111,110]⟩ (by decide) (c.nonce:Int) (y:Int) (by omega) (by omega)).mono ?_
 rintro e w4 ⟨rfl,hb4⟩
 have ez:derF c.key (ByteArray.mk #[115,101,115,115,105,111,110]).data.toList (c.nonce:Int) (y:Int)=z:=uh HZ
 rw [ez]
 have Z4:=jd ((uh Z3).below hb4 (uh Z3).lt)
 have Q4:=jd ((uh Q3).below hb4 (uh Q3).lt)
 have B4:=jd ((uh B3).trans (hb4.mono (uh B3).size))
 clear hb4 h18 h19 ez
 go_upto_region 9 with (first
  |(refine wpList_store_part rfl 46 (.tmp 43) (.tmp 42) rfl w.heap.size 21 65 _ (.agg (bsV z).toArray) (bsV z) ({ c with id:=x,server:=y,sess:=z }:Cli).cs rfl rfl (uh Z4) rfl (by rw [Cli.size (uh HO2)]; simp [uh HZL]) (key_info _ (uh HZL)) (bsV_one z) (Cli.set_sess (uh HO2) z (uh HZL)) ?_
    intro w5 hb5 hg5
    have Z5:=jd hb5
    have Q5:=jd ((uh Q4).gb hg5)
    have B5:=jd (gWz (uh B4) hg5)
    clear hb5 hg5)
  | fail)
 obtain ⟨d,hd⟩ :∃d:Cli,d={ c with id:=x,server:=y,sess:=z }:=⟨_,rfl⟩
 have Z6:=uh Z5
 have O6:=uh HO3
 have hkd:d.key=c.key:=by rw [hd]
 have hid:d.id=x:=by rw [hd]
 have hnd:d.nonce=c.nonce:=by rw [hd]
 have hsd:d.server=y:=by rw [hd]
 have hld:d.level=c.level:=by rw [hd]
 rw [← hd] at Z6 O6 ⊢
 have HZ6:=jd Z6
 have HO6:=jd O6
 have HDD:=jd hd
 clear Z5 Z6 O6 HO3 hd
 have hB0:Below w5.heap.size w5 w5.drew:=(Below.refl _ _).drew
 have hS0:(fun wz=>Blk wz w.heap.size 65 d.cs.toArray) w5.drew:=uh HZ6
 refine wp_region_noPanic (wp_region_held_drew (S:=fun wz=>Blk wz w.heap.size 65 d.cs.toArray) (by kernel_rfl) hS0 (fun _=>?_))
 refine tJz 0 rfl (y_loadblk 65 (.tmp 2) (by rfl) rfl w.heap.size rfl 65 d.cs.toArray _ (fun _ h=>h) Tryz.underlying65 rfl (cli_info (uh HO6))) hS0 ?_
 refine tq 1 rfl hS0 ?_
 refine tJz 2 rfl (y_loadpart 46 (.tmp 45) (by rfl) rfl w.heap.size 1 rfl 65 d.cs.toArray (bsV d.key) dk (fun _ h=>h) ((Cli.at_ (uh HO6)).key) (uh HDK) (uh HDR) (key_info _ (uh HO6).key)) hS0 ?_
 refine tq 3 rfl hS0 ?_
 refine tJz (v:=.int .u32 (d.id:Int)) 4 rfl (Or.inl ⟨by rfl,fun wz hSw=>?_⟩) hS0 ?_
 ·have hq:=(Cli.blk (uh HO6) hSw).id
  go_simp
 refine tq 5 rfl hS0 ?_
 refine tJz (v:=.int .u64 (d.nonce:Int)) 6 rfl (Or.inl ⟨by rfl,fun wz hSw=>?_⟩) hS0 ?_
 ·have hq:=(Cli.blk (uh HO6) hSw).nonce
  go_simp
 refine tq 7 rfl hS0 ?_
 refine tJz (v:=.int .u64 (d.server:Int)) 8 rfl (Or.inl ⟨by rfl,fun wz hSw=>?_⟩) hS0 ?_
 ·have hq:=(Cli.blk (uh HO6) hSw).server
  go_simp
 refine tq 9 rfl hS0 ?_
 refine tJz (v:=.int .i64 d.level) 10 rfl (Or.inl ⟨by rfl,fun wz hSw=>?_⟩) hS0 ?_
 ·have hq:=(Cli.blk (uh HO6) hSw).level
  go_simp
 refine tOz 11 rfl fun K hK=>?_
 rw [if_pos (by rfl)]
 go_simp
 rw [← uh hlv]
 refine (proved_sx _ 3 c.key (uh HKL) x c.nonce y (uh HXL) (levB c.level)).mono ?_
 rintro e w6 ⟨v6,rfl,ho6,hb6⟩
 have hb6:Below w5.heap.size w5 w6:=hB0.trans hb6
 have hz6:Blk w6 w.heap.size 65 d.cs.toArray:=(uh HZ6).below hb6 (uh HZ6).lt
 have hq6:Blk w6 (w.heap.size+1) 65 zCli.cs.toArray:=(uh Q5).below hb6 (uh Q5).lt
 have hx6:Below w.heap.size w w6:=(uh B5).trans (hb6.mono (uh B5).size)
 have ho6':w6.ownsRow w.heap.size 5 1 v6 13 (bsV (provF 3 c.key x c.nonce y (levB c.level))):=own_more ho6 (uh B5).size
 refine hK.out _ _ hz6 (fun _=>?_)
 clear hK K
 try simp only [Act.put,zA,zB,zC]
 refine tOz 12 rfl fun K hK=>?_
 have hsq:=Cli.size_eq (uh HO6)
 refine step_store_blk (by rfl) 65 (.tmp 4) (.tmp 44) rfl (w.heap.size+1) 65 _ d.cs.toArray rfl rfl hq6 hsq (cli_info (uh HO6)) (fun v hv=>Cli.one v (by simpa using hv)) ?_
 intro w8 hb8 hg8
 have hz8:Blk w8 w.heap.size 65 d.cs.toArray:=hz6.grown hg8 (fun e=>by injection e with e; omega)
 have hx8:Below w.heap.size w w8:=hx6.grown hg8 hx6.size (fun j e=>by injection e with e; omega)
 have ho8:w8.ownsRow w.heap.size 5 1 v6 13 (bsV (provF 3 c.key x c.nonce y (levB c.level))):=World.ownsRow.kept ho6' hg8 (.inr (own_blk_ne ho6' hq6 (by decide)))
 refine hK.out _ _ hz8 (fun _=>?_)
 clear hK K
 try simp only [Act.put]
 refine tq 13 rfl hz8 ?_
 refine tq 14 rfl hz8 ?_
 refine wpAnyH_done (by kernel_rfl) (NoPanic.normal ?_) _
 have H8:=jd hb8
 have O8:=jd ho8
 have X8:=jd hx8
 clear hb8 ho8 hx8 hg8 hq6 hz6 hx6 hz8 ho6 ho6' hb6 hS0 hB0
 go_wp2_with fail
 refine bodyPost_ret (v:=.tuple #[.agg d.cs.toArray,v6,.int .i64 0]) (res_ctt rfl _ (w.heap.size+1) 65 _ _ _ _ rfl rfl rfl (uh H8) Tryz.underlying65 rfl (cli_info (uh HO6))) rfl (show BegPost w _ _ _ _ from ⟨v6,by rw [← uh HDD],?_,uh X8⟩)
 rw [provF_len]
 exact uh O8
theorem leW_leB_nat (x:Nat) (k:Nat):leW (leB (x:Int) k)=x % 256 ^ k:=by
 induction k with
 | zero=>simp [leB,leW,Nat.mod_one]
 |succ k ih =>
  have e:leB (x:Int) (k+1)=leB (x:Int) k++[byteAt (x:Int) k]:=by simp [leB,List.range_succ]
  rw [e,leW_snoc,ih,leB_len]
  have h1:(byteAt (x:Int) k).toNat=x / 256 ^ k % 256:=by
   have:=byteAt_eq (x:Int) k
   rw [IntKind.wrap_u8',show (2:Int) ^ (8*k)=((256 ^ k:Nat):Int) from by rw [pow256]; simp] at this
   omega
  rw [h1,Nat.pow_succ,Nat.mod_mul]
  rw [Nat.mul_comm (x / 256 ^ k % 256)]
theorem leW_leB (x:Int) (h0:0≤x) (h1:x < 18446744073709551616):(leW (leB x 8):Int)=x:=by
 obtain ⟨X,rfl⟩:=Int.eq_ofNat_of_zero_le h0
 rw [leW_leB_nat]
 have:(256:Nat) ^ 8=18446744073709551616:=rfl
 omega
theorem sumF_range (ks bs:List UInt8):0≤sumF ks bs∧sumF ks bs < 18446744073709551616:=by
 have h:∀ x y,0≤xor64 x y∧xor64 x y < 18446744073709551616:=fun x y=>by
  rw [show xor64 x y=IntKind.u64.wrap _ from rfl,IntKind.wrap_u64]; omega
 exact h _ _
theorem leW_inj:∀ (l l':List UInt8),l.length=l'.length→leW l=leW l'→l=l'
 | [],[],_,_=>rfl
 | [],_::_,h,_=>by simp at h
 | _::_,[],h,_=>by simp at h
 |a::l,b::l',h,hw=>by
  simp only [leW] at hw
  have ha:=a.toNat_lt
  have hb:=b.toNat_lt
  have e1:a.toNat=b.toNat:=by omega
  have e2:leW l=leW l':=by omega
  rw [leW_inj l l' (by simpa using h) e2,UInt8.toNat_inj.1 e1]
theorem open_sealed (ks bs:List UInt8) (n:Nat) (hn:bs.length=n) :
  decide ((leW ((bs++leB (sumF ks bs) 8).drop n):Int)=sumF ks ((bs++leB (sumF ks bs) 8).take n))=true:=by
 rw [List.drop_left' hn,List.take_left' hn]
 have:=sumF_range ks bs
 rw [leW_leB _ this.1 this.2]
 simp
theorem open_turned (ks bs:List UInt8) (n j:Nat) (hn:bs.length=n) (hj:j < 8) (y b:UInt8) (hb:(bs++leB (sumF ks bs) 8)[n+j]?=some b) :
  decide ((leW (((bs++leB (sumF ks bs) 8).set (n+j) (b ^^^ y)).drop n):Int)=sumF ks (((bs++leB (sumF ks bs) 8).set (n+j) (b ^^^ y)).take n))=(y==0):=by
 have e1:((bs++leB (sumF ks bs) 8).set (n+j) (b ^^^ y)).take n=bs:=by
  rw [List.take_set_of_le (by omega),List.take_left' hn]
 have e2:((bs++leB (sumF ks bs) 8).set (n+j) (b ^^^ y)).drop n=(leB (sumF ks bs) 8).set j (b ^^^ y):=by
  rw [List.drop_set,if_neg (by omega),List.drop_left' hn,Nat.add_sub_cancel_left]
 rw [e1,e2]
 have hr:=sumF_range ks bs
 have hbj:(leB (sumF ks bs) 8)[j]?=some b:=by
  rw [List.getElem?_append_right (by omega),hn,Nat.add_sub_cancel_left] at hb
  exact hb
 have hlen:j < (leB (sumF ks bs) 8).length:=by rw [leB_len]; exact hj
 have hbj':(leB (sumF ks bs) 8)[j]=b:=(List.getElem?_eq_some_iff.1 hbj).2
 rw [Bool.eq_iff_iff]
 simp only [decide_eq_true_eq,beq_iff_eq]
 constructor
 ·intro h
  have h2:leW ((leB (sumF ks bs) 8).set j (b ^^^ y))=leW (leB (sumF ks bs) 8):=by
   have:=leW_leB _ hr.1 hr.2
   omega
  have h3:=leW_inj _ _ (by simp) h2
  have h4:((leB (sumF ks bs) 8).set j (b ^^^ y))[j]?=some b:=by rw [h3,hbj]
  rw [List.getElem?_set_self hlen] at h4
  injection h4 with h4
  have h5:b ^^^ (b ^^^ y)=b ^^^ b:=by rw [h4]
  rw [← UInt8.xor_assoc,UInt8.xor_self,UInt8.zero_xor] at h5
  exact h5
 ·rintro rfl
  rw [UInt8.xor_zero,← hbj',List.set_getElem_self]
  exact leW_leB _ hr.1 hr.2
theorem provF_head (f:UInt8) (ks:List UInt8) (id cl sv:Nat) (lb:UInt8):(provF f ks id cl sv lb)[0]?=some f:=rfl
theorem provF_id (f:UInt8) (ks:List UInt8) (id cl sv:Nat) (lb:UInt8) (h:id < 4294967296):leW (((provF f ks id cl sv lb).drop 1).take 4)=id:=by
 have e:((provF f ks id cl sv lb).drop 1).take 4=leB (id:Int) 4:=by
  have:provF f ks id cl sv lb=f::(leB (id:Int) 4++leB (sumF ks (ptextF f id cl sv lb)) 8):=by simp [provF,headF,joinF]
  rw [this,List.drop_succ_cons,List.drop_zero]
  exact List.take_left' (leB_len _ _)
 rw [e,leW_leB_nat]
 exact Nat.mod_eq_of_lt h
def AccPost (w:World) (c:Cli) (e:Ending) (w':World):Prop:=e=.returned (.tuple #[.agg c.cs.toArray,.int .i64 0])∧Below w.heap.size w w' 
set_option maxRecDepth 100000 in
set_option maxHeartbeats 8000000 in
theorem accept_ok (w:World) (c:Cli) (hok:c.Ok) (A:Option Addr) (cc:Nat) (b:List UInt8) (hr:Reads w w.heap.size 1 A 13 (bsV b)) (hnc:13≤cc) (hcf:cliF c=true) (hop:c.opn=false) (hid0:c.id≠0)
  (hb:b=provF 4 c.key c.id c.nonce c.server (levB c.level)):Calls Tryz.prog 38 #[.agg c.cs.toArray,.slice A 13 cc] w (AccPost w { c with opn:=true }):=by
 have HCF:=jd hcf
 have HOP:=jd hop
 have hl:b.length=13:=by rw [hb]; exact provF_len _ _ _ _ _ _
 have hb0:b[0]?=some 4:=by rw [hb]; exact provF_head _ _ _ _ _ _
 have hbid:leW ((b.drop 1).take 4)=c.id:=by rw [hb]; exact provF_id _ _ _ _ _ _ hok.id
 obtain ⟨g,oo,hA,hgl,hcell⟩:=spot_b hr (by omega)
 have c0:=jd (hcell 0 4 hb0)
 have hlv:=jd (levB_of (cliF_level hcf))
 have HR:=jd hr
 have HNC:=jd hnc
 have HBID:=jd hbid
 have HB:=jd hb
 have O1:({ c with opn:=true }:Cli).Ok:=⟨hok.user,hok.key,hok.sess,hok.nonce,hok.server,hok.id,hok.hi,hok.se,hok.out⟩
 have HO1:=jd O1
 have hcid:=hok.id
 have hid1:((c.id:Int)==0)=false:=by simp; omega
 have wid:IntKind.u32.wrap (c.id:Int)=(c.id:Int):=IntWalk.u32_in _ (by omega)
 have HSA:=jd (fun W=>sl_lh W A 13 cc 1 5 1 5 rfl rfl (by omega) (by omega))
 have hneq:((c.id:Int) != (c.id:Int))=false:=by simp
 clear hcf hop hr hl hcell hb0 hnc hbid hb hid0 O1
 subst hA
 have K0:Hid (Blk ((w.alloc (.cells c.cs.toArray 65)).alloc (.cells zCli.cs.toArray 65)) w.heap.size 65 c.cs.toArray):=jd ((Blk.new w 65 c.cs.toArray).alloc _)
 have K1:Hid (Blk ((w.alloc (.cells c.cs.toArray 65)).alloc (.cells zCli.cs.toArray 65)) (w.heap.size+1) 65 zCli.cs.toArray):=jd (Blk.new' (by simp))
 have B0:Hid (Below w.heap.size w ((w.alloc (.cells c.cs.toArray 65)).alloc (.cells zCli.cs.toArray 65))):=jd (((Below.refl _ _).alloc (Nat.le_refl _) _).alloc (by rw [size_alloc]; omega) _)
 have HOK:=jd hok
 clear hok
 go_enter Tryz.func38,Tryz.ntmps38
 go_wp2_with (first
  | (refine wpList_alloc_to rfl 65 rfl _ (w.heap.size+1) (size_alloc w _) (alloc_cli _) ?_)
  | (refine wpList_load_row rfl 65 _ rfl w.heap.size rfl 65 _ _ _ (uh K0) Tryz.underlying65 rfl (cli_info (uh HOK)) ?_)
  | fail)
 refine (client_sx _ _ (uh HOK) _ (uh HCF)).mono ?_
 rintro e w1 ⟨rfl,hb1⟩
 have Z1:=jd ((uh K0).below hb1 (uh K0).lt)
 have Q1:=jd ((uh K1).below hb1 (uh K1).lt)
 have B1:=jd ((uh B0).trans (hb1.mono (uh B0).size))
 clear hb1
 have hat:=(c.blk (uh HOK) (uh Z1))
 have hc:=hat.opn
 rw [uh HOP] at hc
 have hc20:=hat.id
 have hc0:w1.cell? ⟨g,oo,none⟩=some (.int .u8 4):=((uh B1).cell (p:=⟨g,oo,none⟩) hgl).trans (uh c0)
 have R1:=jd ((uh HR).below (uh B1))
 have R1':=jd (((uh HR).below (uh B1)).more (uh B1).size)
 clear hat
 go_upto_region 5 with fail
 have hS0:(fun wz:World=>Blk wz w.heap.size 65 c.cs.toArray∧wz.cell? ⟨g,oo,none⟩=some (.int .u8 4)) w1.drew:=⟨uh Z1,hc0⟩
 clear hc hc20 hc0
 refine wp_region_noPanic (wp_region_held_drew (S:=fun wz=>Blk wz w.heap.size 65 c.cs.toArray∧wz.cell? ⟨g,oo,none⟩=some (.int .u8 4)) (by kernel_rfl) hS0 (fun _=>?_))
 refine tq 0 rfl hS0 ?_
 refine tq 1 rfl hS0 ?_
 refine tq 2 rfl hS0 ?_
 refine tq 3 rfl hS0 ?_
 refine tq 4 rfl hS0 ?_
 refine tq 5 rfl hS0 ?_
 refine tJz (v:=.int .u8 4) 6 rfl (Or.inl ⟨by rfl,fun wz hSw=>?_⟩) hS0 ?_
 ·have hq:=hSw.2
  go_simp
 refine tq 7 rfl hS0 ?_
 refine tq 8 rfl hS0 ?_
 refine tq 9 rfl hS0 ?_
 refine tq 10 rfl hS0 ?_
 refine tJz (v:=.slice (subA (some ⟨g,oo,none⟩) 1 cc) 4 (cc - 1)) 11 rfl (Or.inl ⟨by rfl,fun wz hSw=>?_⟩) hS0 ?_
 ·have hq:=uh HSA wz
  go_simp
 refine tq 14 rfl hS0 ?_
 refine tJz (v:=.int .u32 (c.id:Int)) 15 rfl (Or.inl ⟨by rfl,fun wz hSw=>?_⟩) hS0 ?_
 ·have hq:=(Cli.blk (uh HOK) hSw.1).id
  go_simp
 refine tOz 12 rfl fun K hK=>?_
 rw [if_pos (by rfl)]
 go_simp
 have hr2:=((uh R1).drew).part (i:=1) (j:=5) (c:=cc) (by omega) (by omega) (uh HNC)
 refine (number_sx _ 4 (cc - 1) ((b.drop 1).take 4) _ _ hr2 (by omega)).mono ?_
 rw [uh HBID]
 clear hr2
 rintro e w' ⟨rfl,rfl⟩
 refine hK.out _ _ hS0 (fun _=>?_)
 clear hK K
 try simp only [Act.put,zA,zB,zC]
 refine tJz (v:=.int .u32 (c.id:Int)) 13 rfl (Or.inl ⟨by rfl,fun wz hSw=>?_⟩) hS0 ?_
 ·skip
  go_simp
 refine tJz (v:=.bool false) 16 rfl (Or.inl ⟨by rfl,fun wz hSw=>?_⟩) hS0 ?_
 ·skip
  go_simp
 refine tJz (v:=.bool false) 17 rfl (Or.inl ⟨by rfl,fun wz hSw=>?_⟩) hS0 ?_
 ·skip
  go_simp
 refine tq 18 rfl hS0 ?_
 refine wpAnyH_done (by kernel_rfl) (NoPanic.normal ?_) _
 clear hS0
 have Z2:Hid (Blk w1.drew w.heap.size 65 c.cs.toArray):=Z1
 have Q2:Hid (Blk w1.drew (w.heap.size+1) 65 zCli.cs.toArray):=Q1
 have B2:Hid (Below w.heap.size w w1.drew):=jd (uh B1).drew
 have R2:Hid (Reads w1.drew w1.heap.size 1 (some ⟨g,oo,none⟩) 13 (bsV b)):=R1'
 have hat:=(Cli.blk (uh HOK) (uh Z2))
 have h17:=hat.level
 have h18:=hat.nonce
 have h19:=hat.server
 have h20:=hat.id
 clear hat
 obtain ⟨dk,hdk,hdr⟩:=key_isRow
 have HDK:=jd hdk
 have HDR:=jd hdr
 clear hdk hdr
 go_wp2_with (first
  | (refine wpList_load_part rfl 46 (.tmp 42) rfl w.heap.size 1 65 _ (bsV c.key) dk rfl (uh Z2) ((Cli.at_ (uh HOK)).key) (uh HDK) (uh HDR) (key_info _ (uh HOK).key) ?_)
  | fail)
 rw [← uh hlv]
 refine (proved_sx _ 4 c.key (uh HOK).key c.id c.nonce c.server hcid (levB c.level)).mono ?_
 rintro e w3 ⟨v3,rfl,ho3,hb3⟩
 obtain ⟨A3,c3,hv3,h31,h32⟩:=slice_of_own ho3
 subst hv3
 have hb3:Below w1.heap.size w1.drew w3:=hb3
 have Z3:=jd ((uh Z2).below hb3 (uh Z1).lt)
 have Q3:=jd ((uh Q2).below hb3 (uh Q1).lt)
 have B3:=jd ((uh B2).trans (hb3.mono (uh B1).size))
 have R3:=jd (((uh R2).below hb3).more hb3.size)
 have P3:=jd (Reads.of_own ho3)
 have EQ:Hid (decide (b=provF 4 c.key c.id c.nonce c.server (levB c.level))=true):=jd (by rw [← uh HB]; simp)
 clear ho3 hb3 h17 h18 h19 h20
 go_wp2_with fail
 refine (equal_sx w3 13 _ A3 cc c3 _ _ w3.heap.size (uh R3) (uh P3) (by omega) true (uh EQ)).mono ?_
 rintro e w4 ⟨rfl,hb4⟩
 have Z4:=jd ((uh Z3).below hb4 (uh Z3).lt)
 have Q4:=jd ((uh Q3).below hb4 (uh Q3).lt)
 have B4:=jd ((uh B3).trans (hb4.mono (uh B3).size))
 clear hb4
 go_wp2_with (first
  |(refine wpList_store_part rfl 4 (.tmp 56) (.const (.bool true)) rfl w.heap.size 37 65 _ (.bool true) [.bool true] ({ c with opn:=true }:Cli).cs rfl rfl (uh Z4) rfl (by rw [Cli.size (uh HOK)]; simp) (by kernel_rfl) (one1 rfl) (Cli.set_opn (uh HOK) true) ?_
    intro w5 hb5 hg5
    have Z5:=jd hb5
    have Q5:=jd ((uh Q4).gb hg5)
    have B5:=jd (gWz (uh B4) hg5)
    clear hb5 hg5)
  | (refine wpList_load_row rfl 65 _ rfl w.heap.size rfl 65 _ _ _ (uh Z5) Tryz.underlying65 rfl (cli_info (uh HO1)) ?_)
  |(refine wpList_store_blk rfl 65 (.tmp 4) (.tmp 57) rfl (w.heap.size+1) 65 _ ({ c with opn:=true }:Cli).cs.toArray rfl rfl (uh Q5) (Cli.size_eq (uh HO1)) (cli_info (uh HO1)) (fun v hv=>Cli.one v (by simpa using hv)) ?_
    intro w9 hb9 hg9
    have Z9:=jd hb9
    have E9:=jd (gWz (uh B5) hg9)
    clear hb9 hg9)
  | fail)
 exact bodyPost_ret (v:=.tuple #[.agg ({ c with opn:=true }:Cli).cs.toArray,.int .i64 0]) (res2 rfl _ (w.heap.size+1) 65 _ _ _ rfl rfl (uh Z9) Tryz.underlying65 rfl (cli_info (uh HO1))) rfl (show AccPost w _ _ _ from ⟨rfl,uh E9⟩)
set_option maxRecDepth 100000 in
set_option maxHeartbeats 8000000 in
theorem post_ok (w:World) (c:Cli) (hok:c.Ok) (kb:UInt8) (A:Option Addr) (n cc:Nat) (data:List UInt8) (hr:Reads w w.heap.size 1 A n (bsV data)) (hnc:n≤cc) (hcm:cc≤maxLen) (hcf:cliF c=true) (hop:c.opn=true)
  (hsf:sendF (kb.toNat:Int) n (c.out:Int)=0) (hd:n≤256) (hout:c.out < 4294967295):Calls Tryz.prog 39 #[.agg c.cs.toArray,.int .i64 (kb.toNat:Int),.slice A n cc] w (BegPost w { c with out:=c.out+1 } (packF 5 c.sess c.id (c.out+1) kb data)):=by
 have HCF:=jd hcf
 have HOP:=jd hop
 have hl:data.length=n:=by have:=hr.1; simpa [bsV] using this
 have HL:=jd hl
 have HR:=jd hr
 have HNC:=jd hnc
 have HCM:=jd hcm
 have HSF:=jd hsf
 have O1:({ c with out:=c.out+1 }:Cli).Ok:=⟨hok.user,hok.key,hok.sess,hok.nonce,hok.server,hok.id,hok.hi,hok.se,by show c.out+1 < 4294967296; omega⟩
 have HO1:=jd O1
 have hcid:=hok.id
 obtain ⟨m,hm⟩ :∃m,c.out+1=m:=⟨_,rfl⟩
 have HM:=jd hm
 have hmz:(c.out:Int)+1=(m:Int):=by omega
 have hml:m < 4294967296:=by omega
 have wm:IntKind.u32.wrap ((c.out:Int)+1)=(m:Int):=by rw [hmz]; exact IntWalk.u32_in _ (by omega)
 have wm2:IntKind.u32.wrap (m:Int)=(m:Int):=IntWalk.u32_in _ (by omega)
 have wm3:(m:Int) % 4294967296=(m:Int):=by omega
 rw [hm] at HO1 ⊢
 have HD:Hid (data.length≤900):=jd (by omega)
 clear hcf hop hr hl hnc hcm hsf O1 hm hout hd
 have K0:Hid (Blk ((w.alloc (.cells c.cs.toArray 65)).alloc (.cells zCli.cs.toArray 65)) w.heap.size 65 c.cs.toArray):=jd ((Blk.new w 65 c.cs.toArray).alloc _)
 have K1:Hid (Blk ((w.alloc (.cells c.cs.toArray 65)).alloc (.cells zCli.cs.toArray 65)) (w.heap.size+1) 65 zCli.cs.toArray):=jd (Blk.new' (by simp))
 have B0:Hid (Below w.heap.size w ((w.alloc (.cells c.cs.toArray 65)).alloc (.cells zCli.cs.toArray 65))):=jd (((Below.refl _ _).alloc (Nat.le_refl _) _).alloc (by rw [size_alloc]; omega) _)
 have HOK:=jd hok
 clear hok
 go_enter Tryz.func39,Tryz.ntmps39
 go_wp2_with (first
  | (refine wpList_alloc_to rfl 65 rfl _ (w.heap.size+1) (size_alloc w _) (alloc_cli _) ?_)
  | (refine wpList_load_row rfl 65 _ rfl w.heap.size rfl 65 _ _ _ (uh K0) Tryz.underlying65 rfl (cli_info (uh HOK)) ?_)
  | fail)
 refine (client_sx _ _ (uh HOK) _ (uh HCF)).mono ?_
 rintro e w1 ⟨rfl,hb1⟩
 have Z1:=jd ((uh K0).below hb1 (uh K0).lt)
 have Q1:=jd ((uh K1).below hb1 (uh K1).lt)
 have B1:=jd ((uh B0).trans (hb1.mono (uh B0).size))
 clear hb1
 have hat:=(c.blk (uh HOK) (uh Z1))
 have hc:=hat.opn
 rw [uh HOP] at hc
 have hc40:=hat.out
 clear hat
 go_wp2_with fail
 refine (sendable_sx _ _ _ _ _ _ 0 (uh HSF)).mono ?_
 rintro e w2 ⟨rfl,rfl⟩
 have hat:=(c.blk (uh HOK) (uh Z1))
 go_upto_region 9 with (first
  |(refine wpList_store_part rfl 27 (.tmp 30) (.tmp 29) rfl w.heap.size 40 65 _ (.int .u32 (m:Int)) [.int .u32 (m:Int)] ({ c with out:=m }:Cli).cs rfl rfl (uh Z1) rfl (by rw [Cli.size (uh HOK)]; simp) (by kernel_rfl) (one1 rfl) (Cli.set_out (uh HOK) m) ?_
    intro w5 hb5 hg5
    have Z5:=jd hb5
    have Q5:=jd ((uh Q1).gb hg5)
    have B5:=jd (gWz (uh B1) hg5)
    clear hb5 hg5)
  | fail)
 obtain ⟨d,hd⟩ :∃d:Cli,d={ c with out:=m }:=⟨_,rfl⟩
 have Z6:=uh Z5
 have O6:=uh HO1
 have hsd:d.sess=c.sess:=by rw [hd]
 have hid:d.id=c.id:=by rw [hd]
 have hod:d.out=m:=by rw [hd]
 rw [← hd] at Z6 O6 ⊢
 have HZ6:=jd Z6
 have HO6:=jd O6
 have HDD:=jd hd
 obtain ⟨dk,hdk,hdr⟩:=key_isRow
 have HDK:=jd hdk
 have HDR:=jd hdr
 have R5:=jd (((uh HR).below (uh B5)).more (uh B5).size)
 clear Z5 Z6 O6 HO1 hd hdk hdr hat hc hc40
 have hB0:Below w5.heap.size w5 w5.drew:=(Below.refl _ _).drew
 have hS0:(fun wz=>Blk wz w.heap.size 65 d.cs.toArray) w5.drew:=uh HZ6
 refine wp_region_noPanic (wp_region_held_drew (S:=fun wz=>Blk wz w.heap.size 65 d.cs.toArray) (by kernel_rfl) hS0 (fun _=>?_))
 refine tJz 0 rfl (y_loadblk 65 (.tmp 3) (by rfl) rfl w.heap.size rfl 65 d.cs.toArray _ (fun _ h=>h) Tryz.underlying65 rfl (cli_info (uh HO6))) hS0 ?_
 refine tq 1 rfl hS0 ?_
 refine tJz 2 rfl (y_loadpart 46 (.tmp 32) (by rfl) rfl w.heap.size 21 rfl 65 d.cs.toArray (bsV d.sess) dk (fun _ h=>h) ((Cli.at_ (uh HO6)).sess) (uh HDK) (uh HDR) (key_info _ (uh HO6).sess)) hS0 ?_
 refine tq 3 rfl hS0 ?_
 refine tJz (v:=.int .u32 (d.id:Int)) 4 rfl (Or.inl ⟨by rfl,fun wz hSw=>?_⟩) hS0 ?_
 ·have hq:=(Cli.blk (uh HO6) hSw).id
  go_simp
 refine tq 5 rfl hS0 ?_
 refine tJz (v:=.int .u32 (d.out:Int)) 6 rfl (Or.inl ⟨by rfl,fun wz hSw=>?_⟩) hS0 ?_
 ·have hq:=(Cli.blk (uh HO6) hSw).out
  go_simp
 refine tq 7 rfl hS0 ?_
 refine tq 8 rfl hS0 ?_
 refine tOz 9 rfl fun K hK=>?_
 rw [if_pos (by rfl)]
 go_simp
 refine (packet_sx _ 5 c.sess (uh HOK).sess c.id m hcid hml kb A n cc data (uh R5).drew (uh HNC) (uh HCM) (uh HD)).mono ?_
 rintro e w6 ⟨v6,rfl,ho6,hb6⟩
 have hb6:Below w5.heap.size w5 w6:=hB0.trans hb6
 have hz6:Blk w6 w.heap.size 65 d.cs.toArray:=(uh HZ6).below hb6 (uh HZ6).lt
 have hq6:Blk w6 (w.heap.size+1) 65 zCli.cs.toArray:=(uh Q5).below hb6 (uh Q5).lt
 have hx6:Below w.heap.size w w6:=(uh B5).trans (hb6.mono (uh B5).size)
 have ho6':w6.ownsRow w.heap.size 5 1 v6 (packF 5 c.sess c.id m kb data).length (bsV (packF 5 c.sess c.id m kb data)):=own_more ho6 (uh B5).size
 refine hK.out _ _ hz6 (fun _=>?_)
 clear hK K
 try simp only [Act.put,zA,zB,zC]
 refine tOz 10 rfl fun K hK=>?_
 have hsq:=Cli.size_eq (uh HO6)
 refine step_store_blk (by rfl) 65 (.tmp 6) (.tmp 31) rfl (w.heap.size+1) 65 _ d.cs.toArray rfl rfl hq6 hsq (cli_info (uh HO6)) (fun v hv=>Cli.one v (by simpa using hv)) ?_
 intro w8 hb8 hg8
 have hz8:Blk w8 w.heap.size 65 d.cs.toArray:=hz6.grown hg8 (fun e=>by injection e with e; omega)
 have hx8:Below w.heap.size w w8:=hx6.grown hg8 hx6.size (fun j e=>by injection e with e; omega)
 have ho8:w8.ownsRow w.heap.size 5 1 v6 (packF 5 c.sess c.id m kb data).length (bsV (packF 5 c.sess c.id m kb data)):=World.ownsRow.kept ho6' hg8 (.inr (own_blk_ne ho6' hq6 (by decide)))
 refine hK.out _ _ hz8 (fun _=>?_)
 clear hK K
 try simp only [Act.put]
 refine tq 11 rfl hz8 ?_
 refine tq 12 rfl hz8 ?_
 refine wpAnyH_done (by kernel_rfl) (NoPanic.normal ?_) _
 have H8:=jd hb8
 have O8:=jd ho8
 have X8:=jd hx8
 clear hb8 ho8 hx8 hg8 hq6 hz6 hx6 hz8 ho6 ho6' hb6 hS0 hB0
 go_wp2_with fail
 exact bodyPost_ret (v:=.tuple #[.agg d.cs.toArray,v6,.int .i64 0]) (res_ctt rfl _ (w.heap.size+1) 65 _ _ _ _ rfl rfl rfl (uh H8) Tryz.underlying65 rfl (cli_info (uh HO6))) rfl (show BegPost w _ _ _ _ from ⟨v6,by rw [← uh HDD],uh O8,uh X8⟩)
end Go.Proofs.YtfbkkmnkpjgciaaGreat
