/- Joined of GPost GAnsw GAcpt. No condition. -/
import Derived.Test.YtfbkkmnkpjgciaaGreatPG20
import Derived.Test.YtfbkkmnkpjgciaaGreatPG09
import Derived.Test.YtfbkkmnkpjgciaaGreatPG08
import Derived.Test.YtfbkkmnkpjgciaaGreatPG22
import Derived.Test.YtfbkkmnkpjgciaaGreatPG26
import Derived.Test.YtfbkkmnkpjgciaaGreatPG21
namespace Go.Proofs.YtfbkkmnkpjgciaaGreat
open Go.RowKit
structure CRes where
 code:Int
 c:Cli
 b:List UInt8
def badC (x:Int):CRes:=⟨x,zCli,[]⟩
def Zb3 (w:World) (r:CRes) (e:Ending) (w':World):Prop:=if r.code=0 then ZcQ w r.c r.b e w' else ErrC w r.code e w'
theorem rCz {w w9:World} {fn:Func} {p u x:Tmp} {a:Act} {g:Nat} {c:Int} (h:fn.results=#[.cell p 65,.tmp u,.tmp x]) (hp:a.tmps.getD p undef=.pointer (some ⟨g,0,none⟩)) (hu:a.tmps.getD u undef=.slice none 0 0) (hx:a.tmps.getD x undef=.int .i64 c) (hZ:Blk w9 g 65 zCli.cs.toArray) (hE:Below w.heap.size w w9) (hd:a.defers=[]:=by rfl) (hc:c≠0:=by omega):bodyPost Tryz.prog fn (Zb3 w (badC c)) .ret a w9 :=
 bodyPost_ret (v:=.tuple #[.agg zCli.cs.toArray,.slice none 0 0,.int .i64 c]) (Za4 h _ g 65 _ _ _ _ hp hu hx hZ Tryz.underlying65 rfl (Zai Zau)) hd (show Zb3 w (badC c) _ _ by unfold Zb3 badC; rw [if_neg hc]; exact ⟨rfl,hE⟩)
def ZcG (c:Cli) (kb:UInt8) (data:List UInt8):CRes :=
 if cliF c=false then badC 1 else if c.opn=false then badC 46 else if Zb6 kb=false then badC 2 else if 256 < data.length∨c.out=4294967295 then badC 3 else
 ⟨0,{ c with out:=c.out+1 },Zb0 5 c.sess c.id (c.out+1) kb data⟩
set_option maxRecDepth 100000 in
set_option maxHeartbeats 16000000 in
theorem ZeT (w:World) (c:Cli) (hok:c.Ok) (kb:UInt8) (A:Option Addr) (n cc:Nat) (data:List UInt8) (hr:Zaj w w.heap.size 1 A n (bsV data)) (hcm:n≤maxLen) (r:CRes) (hp:ZcG c kb data=r) :
  Calls Tryz.prog 68 #[.agg c.cs.toArray,.int .i64 (kb.toNat:Int),.slice A n cc] w (Zb3 w r):=by
 have hl:data.length=n:=by have:=hr.1; simpa [bsV] using this
 obtain ⟨W1,hW1⟩ :∃W1,(w.alloc (.cells c.cs.toArray 65)).alloc (.cells zCli.cs.toArray 65)=W1:=⟨_,rfl⟩
 have K0:Hid (Blk W1 w.heap.size 65 c.cs.toArray):=jd (hW1 ▸ ((Blk.new w _ _).alloc _))
 have K2:Hid (Blk W1 (w.heap.size+1) 65 zCli.cs.toArray):=jd (hW1 ▸ (Blk.new' (by simp)))
 have B1:Hid (Below w.heap.size w W1):=jd (hW1 ▸ ((Below.refl _ _).alloc (Nat.le_refl _) _).alloc (by rw [Zae]; omega) _)
 have HR:=jd hr
 have HW1:=jd hW1
 have HL:=jd hl
 have HOK:=jd hok
 have HP:=jd hp
 have hnn:(n:Int)≤9223372036854775807:=by unfold maxLen at hcm; omega
 obtain ⟨t1,ht1⟩ :∃t,cliF c=t:=⟨_,rfl⟩
 have HT1:=jd ht1
 have hzs:zCli.cs.toArray.size=zCli.cs.toArray.size:=rfl
 clear hW1 hr hl hok hp ht1 hzs
 go_enter Tryz.func68,Tryz.ntmps68
 go_upto_region 1 with (first
  | (refine Zag rfl 65 rfl _ (w.heap.size+1) (Zae _ _) (Zaz _) ?_)
  | fail)
 rw [uh HW1]
 go_wp2_with (first
  | (refine wpList_load_row rfl 65 _ rfl w.heap.size rfl 65 _ _ _ (uh K0) Tryz.underlying65 rfl (Zai (uh HOK)) ?_)
  | fail)
 refine (ZeO W1 c (uh HOK) t1 (uh HT1)).mono ?_
 rintro e w2 ⟨rfl,hb2⟩
 have J0:=jd ((uh K0).below hb2 (uh K0).lt)
 have J2:=jd ((uh K2).below hb2 (uh K2).lt)
 have X2:=jd ((uh B1).trans (hb2.mono (uh B1).size))
 have hs2:w.heap.size+1 < w2.heap.size:=(uh J2).lt
 clear hb2
 cases t1
 case false =>
  have hrr:=uh HP
  unfold ZcG at hrr
  rw [if_pos (uh HT1)] at hrr
  subst hrr
  clear HP
  go_wp2_with (first
   | (refine Zab rfl 65 _ rfl [] rfl _ Zax ?_)
   |(refine Zaa rfl 65 (.tmp 6) (.tmp 13) rfl (w.heap.size+1) 65 _ zCli.cs.toArray rfl rfl (uh J2) rfl (Zai Zau) (fun v hv=>Cli.one v (by simpa using hv)) ?_
     intro w9 hb9 hg9
     have Z9:=jd hb9
     have E9:=jd (gWz (uh X2) hg9)
     clear hb9 hg9)
   | fail)
  exact rCz rfl rfl rfl rfl (uh Z9) (uh E9)
 have hat:=Cli.blk (uh HOK) (uh J0)
 have c37:=hat.opn
 have c40:=hat.out
 have c20:=hat.id
 have hol:=(uh HOK).out
 clear hat
 obtain ⟨t2,ht2⟩ :∃t,c.opn=t:=⟨_,rfl⟩
 have HT2:=jd ht2
 rw [ht2] at c37
 clear ht2
 cases t2
 case false =>
  have hrr:=uh HP
  unfold ZcG at hrr
  rw [if_neg (by rw [uh HT1]; simp),if_pos (uh HT2)] at hrr
  subst hrr
  clear HP
  go_wp2_with (first
   | (refine Zab rfl 65 _ rfl [] rfl _ Zax ?_)
   |(refine Zaa rfl 65 (.tmp 6) (.tmp 18) rfl (w.heap.size+1) 65 _ zCli.cs.toArray rfl rfl (uh J2) rfl (Zai Zau) (fun v hv=>Cli.one v (by simpa using hv)) ?_
     intro w9 hb9 hg9
     have Z9:=jd hb9
     have E9:=jd (gWz (uh X2) hg9)
     clear hb9 hg9)
   | fail)
  exact rCz rfl rfl rfl rfl (uh Z9) (uh E9)
 obtain ⟨t3,ht3⟩ :∃t,Zb6 kb=t:=⟨_,rfl⟩
 have HT3:=jd ht3
 clear ht3
 cases t3
 case false =>
  have hrr:=uh HP
  unfold ZcG at hrr
  rw [if_neg (by rw [uh HT1]; simp),if_neg (by rw [uh HT2]; simp),if_pos (uh HT3)] at hrr
  subst hrr
  clear HP
  go_wp2_with (first
   | (refine Zab rfl 65 _ rfl [] rfl _ Zax ?_)
   |(refine Zaa rfl 65 (.tmp 6) (.tmp 23) rfl (w.heap.size+1) 65 _ zCli.cs.toArray rfl rfl (uh J2) rfl (Zai Zau) (fun v hv=>Cli.one v (by simpa using hv)) ?_
     intro w9 hb9 hg9
     have Z9:=jd hb9
     have E9:=jd (gWz (uh X2) hg9)
     clear hb9 hg9)
   | (go_at_call 88; refine (Zct _ kb _ (uh HT3)).mono ?_; rintro e w' ⟨rfl,rfl⟩)
   | fail)
  exact rCz rfl rfl rfl rfl (uh Z9) (uh E9)
 by_cases h256:256 < n
 case pos =>
  have f1:((256:Int) < (n:Int))=True:=by simp; omega
  have hrr:=uh HP
  unfold ZcG at hrr
  rw [if_neg (by rw [uh HT1]; simp),if_neg (by rw [uh HT2]; simp),if_neg (by rw [uh HT3]; simp),if_pos (.inl (by rw [uh HL]; exact h256))] at hrr
  subst hrr
  clear HP
  go_wp2_with (first
   | (refine Zab rfl 65 _ rfl [] rfl _ Zax ?_)
   |(refine Zaa rfl 65 (.tmp 6) (.tmp 33) rfl (w.heap.size+1) 65 _ zCli.cs.toArray rfl rfl (uh J2) rfl (Zai Zau) (fun v hv=>Cli.one v (by simpa using hv)) ?_
     intro w9 hb9 hg9
     have Z9:=jd hb9
     have E9:=jd (gWz (uh X2) hg9)
     clear hb9 hg9)
   | (go_at_call 88; refine (Zct _ kb _ (uh HT3)).mono ?_; rintro e w' ⟨rfl,rfl⟩)
   | fail)
  exact rCz rfl rfl rfl rfl (uh Z9) (uh E9)
 have f1:((256:Int) < (n:Int))=False:=by simp; omega
 by_cases hmx:c.out=4294967295
 case pos =>
  have f2:((c.out:Int)==4294967295)=true:=by simp; omega
  have hrr:=uh HP
  unfold ZcG at hrr
  rw [if_neg (by rw [uh HT1]; simp),if_neg (by rw [uh HT2]; simp),if_neg (by rw [uh HT3]; simp),if_pos (.inr hmx)] at hrr
  subst hrr
  clear HP
  go_wp2_with (first
   | (refine Zab rfl 65 _ rfl [] rfl _ Zax ?_)
   |(refine Zaa rfl 65 (.tmp 6) (.tmp 33) rfl (w.heap.size+1) 65 _ zCli.cs.toArray rfl rfl (uh J2) rfl (Zai Zau) (fun v hv=>Cli.one v (by simpa using hv)) ?_
     intro w9 hb9 hg9
     have Z9:=jd hb9
     have E9:=jd (gWz (uh X2) hg9)
     clear hb9 hg9)
   | (go_at_call 88; refine (Zct _ kb _ (uh HT3)).mono ?_; rintro e w' ⟨rfl,rfl⟩)
   | fail)
  exact rCz rfl rfl rfl rfl (uh Z9) (uh E9)
 have f2:((c.out:Int)==4294967295)=false:=by simp; omega
 have hrr:=uh HP
 unfold ZcG at hrr
 rw [if_neg (by rw [uh HT1]; simp),if_neg (by rw [uh HT2]; simp),if_neg (by rw [uh HT3]; simp),if_neg (by rw [uh HL]; omega)] at hrr
 have HP2:=jd hrr
 have hw1:IntKind.u32.wrap ((c.out:Int)+1)=((c.out+1:Nat):Int):=by rw [IntKind.wrap_u32]; omega
 have hok2:({ c with out:=c.out+1 }:Cli).Ok:=⟨(uh HOK).user,(uh HOK).key,(uh HOK).sess,(uh HOK).nonce,(uh HOK).server,(uh HOK).id,(uh HOK).hi,(uh HOK).se,by show c.out+1 < 4294967296; omega⟩
 obtain ⟨y,hy⟩ :∃y,({ c with out:=c.out+1 }:Cli)=y:=⟨_,rfl⟩
 have HOK2:Hid y.Ok:=jd (hy ▸ hok2)
 have hset:=Cli.set_out (uh HOK) (c.out+1)
 rw [hy] at hset hrr
 have HSET:=jd hset
 have HY:=jd hy
 have hsz:c.cs.toArray.size=41:=Cli.size (uh HOK)
 have HSZ:=jd hsz
 clear hrr HP hok2 hy hset hsz
 go_upto_region 10 with (first
  | (go_at_call 88; refine (Zct _ kb _ (uh HT3)).mono ?_; rintro e w' ⟨rfl,rfl⟩)
  |(refine Zal rfl 27 (.tmp 37) (.tmp 36) rfl w.heap.size 40 65 c.cs.toArray (.int .u32 ((c.out+1:Nat):Int)) [.int .u32 ((c.out+1:Nat):Int)] y.cs rfl rfl (uh J0) rfl (by rw [uh HSZ]; simp) (by kernel_rfl) (by intro u hu; simp at hu; subst hu; rfl) (by simpa using uh HSET) ?_
    intro w3 hb hg
    have L0:=jd hb
    have L2:=jd ((uh J2).gb hg)
    have X3:=jd (gWz (uh X2) hg)
    have hs3:w2.heap.size≤w3.heap.size:=hg.size
    clear hb hg
    simp only [Act.put])
  | fail)
 clear c37 c40 c20
 have HYid:Hid (y.id=c.id):=jd (by rw [← uh HY])
 have HYout:Hid (y.out=c.out+1):=jd (by rw [← uh HY])
 have HYs:Hid (y.sess=c.sess):=jd (by rw [← uh HY])
 have HKI:=jd (ZaV y.sess (uh HOK2).sess)
 have HKP:Hid (∀ (j:Nat) v,(bsV y.sess)[j]?=some v→y.cs.toArray[21+j]?=some v):=jd fun j v hv=>(Cli.at_ (uh HOK2)).sess j v hv
 obtain ⟨dk,hdk,hdr⟩:=Za5
 have HDK:=jd hdk
 have HDR:=jd hdr
 have hyo:=(uh HOK2).out
 have hyi:=(uh HOK2).id
 clear hdk hdr
 have hB0:Below w3.heap.size w3 w3.drew:=(Below.refl _ _).drew
 have hS0:(fun wz=>Blk wz w.heap.size 65 y.cs.toArray) w3.drew:=(uh L0)
 refine wp_region_noPanic (wp_region_held_drew (S:=fun wz=>Blk wz w.heap.size 65 y.cs.toArray) (by kernel_rfl) hS0 (fun _=>?_))
 clear hB0
 refine tJz 0 rfl (Zar 65 (.tmp 3) (by rfl) rfl w.heap.size rfl 65 y.cs.toArray _ (fun _ h=>h) Tryz.underlying65 rfl (Zai (uh HOK2))) hS0 ?_
 refine tq 1 rfl hS0 ?_
 refine tJz (v:=(.int .u32 (y.id:Int))) 2 rfl (Or.inl ⟨by rfl,fun wz hSw=>?_⟩) hS0 ?_
 ·have hq:=(Cli.blk (uh HOK2) hSw).id
  go_simp
 refine tq 3 rfl hS0 ?_
 refine tJz (v:=(.int .u32 (y.out:Int))) 4 rfl (Or.inl ⟨by rfl,fun wz hSw=>?_⟩) hS0 ?_
 ·have hq:=(Cli.blk (uh HOK2) hSw).out
  go_simp
 refine tq 5 rfl hS0 ?_
 refine tq 6 rfl hS0 ?_
 refine tq 7 rfl hS0 ?_
 refine tJz 8 rfl (Zcc 46 (.tmp 45) (by rfl) rfl w.heap.size 21 rfl 65 y.cs.toArray (bsV y.sess) dk (fun _ h=>h) (uh HKP) (uh HDK) (uh HDR) (uh HKI)) hS0 ?_
 refine tCz 9 rfl fun K hK=>?_
 go_simp
 refine (rpacket_sx w3.drew 5 y.sess (uh HOK2).sess y.id y.out kb A n cc data (((uh HR).below (uh X3)).more (uh X3).size) (by omega) hyi hyo).mono ?_
 rintro e w4 ⟨v4,rfl,ho4,hb4⟩
 have h4:Below w3.heap.size w3 w4:=(Below.refl _ _).drew.trans hb4
 refine hK.out _ _ ((uh L0).below h4 (uh L0).lt) (fun _=>?_)
 clear hK K
 try simp only [Act.put,zA,zB,zC]
 refine tOz 10 rfl fun K hK=>?_
 refine Zaf (by rfl) 65 (.tmp 6) (.tmp 38) rfl (w.heap.size+1) 65 _ y.cs.toArray rfl rfl ((uh L2).below h4 (uh L2).lt) (by rw [Cli.size (uh HOK2),Cli.size Zau]) (Zai (uh HOK2)) (fun v hv=>Cli.one v (by simpa using hv)) ?_
 intro w5 hb5 hg5
 have h5:Below w.heap.size w w5:=((uh X3).trans (h4.mono (uh X3).size)).grown hg5 (by have:=(uh X3).size; have:=h4.size; omega) (fun j e=>by injection e with e; omega)
 have o5:=World.ownsRow.kept ho4 hg5 (.inr (Zad ho4 ((uh L2).below h4 (uh L2).lt) (by decide)))
 have R5:=jd hb5
 have H5:=jd h5
 have O5:=jd (Zak o5 (uh X3).size)
 refine hK.out _ _ (((uh L0).below h4 (uh L0).lt).grown hg5 (fun e=>by injection e with e; omega)) (fun hS5=>?_)
 clear hK K hb5 hg5 h5 o5 ho4
 try simp only [Act.put]
 refine tq 11 rfl hS5 ?_
 refine tq 12 rfl hS5 ?_
 refine tDz ?_
 have hrr:=uh HP2
 rw [uh HY] at hrr
 subst hrr
 go_wp2_with fail
 refine bodyPost_ret (v:=.tuple #[.agg y.cs.toArray,v4,.int .i64 0]) (Za4 rfl _ (w.heap.size+1) 65 _ _ _ _ rfl rfl rfl (uh R5) Tryz.underlying65 rfl (Zai (uh HOK2))) rfl ?_
 show Zb3 w _ _ _
 unfold Zb3
 rw [if_pos rfl]
 refine ⟨v4,rfl,?_,uh H5⟩
 have:=uh O5
 rw [uh HYs,uh HYid,uh HYout] at this
 exact this
def Zec (c:Cli) (b:List UInt8):CRes :=
 if cliF c=false then badC 1 else if c.opn=true then badC 46 else if ¬ (b.length=13∧b[0]?=some 2) then badC 6 else
 ⟨0,ansC c b,ZbB 3 c.key (ansC c b).id c.nonce (ansC c b).server (levB c.level)⟩
set_option maxRecDepth 100000 in
set_option maxHeartbeats 16000000 in
theorem ransw_sx (w:World) (c:Cli) (hok:c.Ok) (Ab:Option Addr) (nb cb:Nat) (b:List UInt8) (hb:Zaj w w.heap.size 1 Ab nb (bsV b)) (hbc:nb≤cb) (hbm:cb≤maxLen) (r:CRes) (hp:Zec c b=r) :
  Calls Tryz.prog 66 #[.agg c.cs.toArray,.slice Ab nb cb] w (Zb3 w r):=by
 have hlb:b.length=nb:=by have:=hb.1; simpa [bsV] using this
 obtain ⟨W1,hW1⟩ :∃W1,(w.alloc (.cells c.cs.toArray 65)).alloc (.cells zCli.cs.toArray 65)=W1:=⟨_,rfl⟩
 have K0:Hid (Blk W1 w.heap.size 65 c.cs.toArray):=jd (hW1 ▸ ((Blk.new w _ _).alloc _))
 have K2:Hid (Blk W1 (w.heap.size+1) 65 zCli.cs.toArray):=jd (hW1 ▸ (Blk.new' (by simp)))
 have B1:Hid (Below w.heap.size w W1):=jd (hW1 ▸ ((Below.refl _ _).alloc (Nat.le_refl _) _).alloc (by rw [Zae]; omega) _)
 have HBB:=jd hb
 have HLB:=jd hlb
 have HBC:=jd hbc
 have HBM:=jd hbm
 have HOK:=jd hok
 have HP:=jd hp
 have HW1:=jd hW1
 have hnb:(nb:Int)≤9223372036854775807:=by unfold maxLen at hbm; omega
 obtain ⟨t1,ht1⟩ :∃t,cliF c=t:=⟨_,rfl⟩
 have HT1:=jd ht1
 clear hb hlb hbc hbm hok hp hW1 ht1
 go_enter Tryz.func66,Tryz.ntmps66
 go_upto_region 1 with (first
  | (refine Zag rfl 65 rfl _ (w.heap.size+1) (Zae _ _) (Zaz _) ?_)
  | fail)
 rw [uh HW1]
 go_wp2_with (first
  | (refine wpList_load_row rfl 65 _ rfl w.heap.size rfl 65 _ _ _ (uh K0) Tryz.underlying65 rfl (Zai (uh HOK)) ?_)
  | fail)
 refine (ZeO W1 c (uh HOK) t1 (uh HT1)).mono ?_
 rintro e w2 ⟨rfl,hb2⟩
 have J0:=jd ((uh K0).below hb2 (uh K0).lt)
 have J2:=jd ((uh K2).below hb2 (uh K2).lt)
 have X2:=jd ((uh B1).trans (hb2.mono (uh B1).size))
 have hs2:w.heap.size+1 < w2.heap.size:=(uh J2).lt
 clear hb2
 cases t1
 case false =>
  have hrr:=uh HP
  unfold Zec at hrr
  rw [if_pos (uh HT1)] at hrr
  subst hrr
  clear HP
  go_wp2_with (first
   | (refine Zab rfl 65 _ rfl [] rfl _ Zax ?_)
   |(refine Zaa rfl 65 (.tmp 4) (.tmp 11) rfl (w.heap.size+1) 65 _ zCli.cs.toArray rfl rfl (uh J2) rfl (Zai Zau) (fun v hv=>Cli.one v (by simpa using hv)) ?_
     intro w9 hb9 hg9
     have Z9:=jd hb9
     have E9:=jd (gWz (uh X2) hg9)
     clear hb9 hg9)
   | fail)
  exact rCz rfl rfl rfl rfl (uh Z9) (uh E9)
 have hat:=Cli.blk (uh HOK) (uh J0)
 have c37:=hat.opn
 clear hat
 obtain ⟨t2,ht2⟩ :∃t,c.opn=t:=⟨_,rfl⟩
 have HT2:=jd ht2
 rw [ht2] at c37
 clear ht2
 cases t2
 case true =>
  have hrr:=uh HP
  unfold Zec at hrr
  rw [if_neg (by rw [uh HT1]; simp),if_pos (uh HT2)] at hrr
  subst hrr
  clear HP
  go_wp2_with (first
   | (refine Zab rfl 65 _ rfl [] rfl _ Zax ?_)
   |(refine Zaa rfl 65 (.tmp 4) (.tmp 15) rfl (w.heap.size+1) 65 _ zCli.cs.toArray rfl rfl (uh J2) rfl (Zai Zau) (fun v hv=>Cli.one v (by simpa using hv)) ?_
     intro w9 hb9 hg9
     have Z9:=jd hb9
     have E9:=jd (gWz (uh X2) hg9)
     clear hb9 hg9)
   | fail)
  exact rCz rfl rfl rfl rfl (uh Z9) (uh E9)
 by_cases h13:nb=13
 case neg =>
  have f1:((nb:Int) != 13)=true:=by simp; omega
  have hrr:=uh HP
  unfold Zec at hrr
  rw [if_neg (by rw [uh HT1]; simp),if_neg (by rw [uh HT2]; simp),if_pos (fun h=>h13 ((uh HLB).symm.trans h.1))] at hrr
  subst hrr
  clear HP
  go_wp2_with (first
   | (refine Zab rfl 65 _ rfl [] rfl _ Zax ?_)
   |(refine Zaa rfl 65 (.tmp 4) (.tmp 26) rfl (w.heap.size+1) 65 _ zCli.cs.toArray rfl rfl (uh J2) rfl (Zai Zau) (fun v hv=>Cli.one v (by simpa using hv)) ?_
     intro w9 hb9 hg9
     have Z9:=jd hb9
     have E9:=jd (gWz (uh X2) hg9)
     clear hb9 hg9)
   | fail)
  exact rCz rfl rfl rfl rfl (uh Z9) (uh E9)
 subst h13
 obtain ⟨g,oo,hAb,hgl,hcell⟩:=Zcr (uh HBB) (by omega)
 obtain ⟨b0,hb0⟩ :∃x,b[0]?=some x:=⟨b[0]'(by rw [uh HLB]; omega),List.getElem?_eq_getElem _⟩
 have c0:w2.cell? ⟨g,oo,none⟩=some (.int .u8 (b0.toNat:Int)):=((uh X2).cell (p:=⟨g,oo,none⟩) hgl).trans (hcell 0 b0 hb0)
 have HB0:=jd hb0
 subst hAb
 clear hcell hb0
 by_cases hz:b0=2
 case neg =>
  have f2:((b0.toNat:Int) != 2)=true:=by
   have:b0.toNat≠2:=fun e=>hz (UInt8.toNat_inj.1 e)
   simp; omega
  have hrr:=uh HP
  unfold Zec at hrr
  rw [if_neg (by rw [uh HT1]; simp),if_neg (by rw [uh HT2]; simp),if_pos (fun h=>hz (Option.some.inj ((uh HB0).symm.trans h.2)))] at hrr
  subst hrr
  clear HP
  go_wp2_with (first
   | (refine Zab rfl 65 _ rfl [] rfl _ Zax ?_)
   |(refine Zaa rfl 65 (.tmp 4) (.tmp 26) rfl (w.heap.size+1) 65 _ zCli.cs.toArray rfl rfl (uh J2) rfl (Zai Zau) (fun v hv=>Cli.one v (by simpa using hv)) ?_
     intro w9 hb9 hg9
     have Z9:=jd hb9
     have E9:=jd (gWz (uh X2) hg9)
     clear hb9 hg9)
   | fail)
  exact rCz rfl rfl rfl rfl (uh Z9) (uh E9)
 subst hz
 have hc0:w2.cell? ⟨g,oo,none⟩=some (.int .u8 2):=c0
 clear c0
 have hrr:=uh HP
 unfold Zec at hrr
 rw [if_neg (by rw [uh HT1]; simp),if_neg (by rw [uh HT2]; simp),if_neg (by rw [uh HLB,uh HB0]; simp)] at hrr
 have HP2:=jd hrr
 obtain ⟨idv,hid⟩ :∃v,leW ((b.drop 1).take 4)=v:=⟨_,rfl⟩
 have hidl:idv < 4294967296:=by rw [← hid]; exact leW4 _ _
 obtain ⟨sv,hsv⟩ :∃v,leW (b.drop 5)=v:=⟨_,rfl⟩
 have hsvl:sv < 18446744073709551616:=by rw [← hsv]; exact Zez _ (by rw [List.length_drop,uh HLB]; omega)
 obtain ⟨z,hzz⟩ :∃z,derF c.key ZdW (c.nonce:Int) (sv:Int)=z:=⟨_,rfl⟩
 have hzl:z.length=16:=by rw [← hzz]; exact ZbK _ _ _ _
 have hans:ansC c b=({ c with id:=idv,server:=sv,sess:=z }:Cli):=by unfold ansC; rw [hid,hsv,hzz]
 have HANS:=jd hans
 have HID:=jd hid
 have HSV:=jd hsv
 have HZZ:=jd hzz
 have HZL:=jd hzl
 have HSL:=jd (fun W=>sl_l W (some ⟨g,oo,none⟩) 13 cb 5 5 rfl (by omega))
 have ok1:({ c with id:=idv }:Cli).Ok:=⟨(uh HOK).user,(uh HOK).key,(uh HOK).sess,(uh HOK).nonce,(uh HOK).server,hidl,(uh HOK).hi,(uh HOK).se,(uh HOK).out⟩
 have ok2:({ c with id:=idv,server:=sv }:Cli).Ok:=⟨ok1.user,ok1.key,ok1.sess,ok1.nonce,hsvl,ok1.id,ok1.hi,ok1.se,ok1.out⟩
 have ok3:({ c with id:=idv,server:=sv,sess:=z }:Cli).Ok:=⟨ok1.user,ok1.key,hzl,ok1.nonce,hsvl,ok1.id,ok1.hi,ok1.se,ok1.out⟩
 have HO1:=jd ok1
 have HO2:=jd ok2
 have HO3:=jd ok3
 have hs0:=Cli.set_id (uh HOK) idv
 have hs1:=Cli.set_server ok1 sv
 have hs2_:=Cli.set_sess ok2 z hzl
 have HS0:=jd hs0
 have HS1:=jd hs1
 have HS2:=jd hs2_
 have z0:c.cs.toArray.size=41:=Cli.size (uh HOK)
 have z1:({ c with id:=idv }:Cli).cs.toArray.size=41:=Cli.size ok1
 have z2:({ c with id:=idv,server:=sv }:Cli).cs.toArray.size=41:=Cli.size ok2
 have HZ0:=jd z0
 have HZ1:=jd z1
 have HZ2:=jd z2
 have HLV:=jd (ZdJ (uh HT1))
 clear hrr HP hid hsv hzz hzl hans ok1 ok2 ok3 hs0 hs1 hs2_ z0 z1 z2
 go_upto_region 7 with fail
 clear hc0 c37
 have hB0:Below w2.heap.size w2 w2.drew:=(Below.refl _ _).drew
 have hS0:(fun _=>True) w2.drew:=trivial
 refine wp_region_noPanic (wp_region_held_drew (S:=fun _=>True) (by kernel_rfl) hS0 (fun _=>?_))
 clear hB0
 refine tq 0 rfl hS0 ?_
 refine tq 2 rfl hS0 ?_
 refine tJz (v:=(.slice (subA (some ⟨g,oo,none⟩) 5 cb) (13 - 5) (cb - 5))) 3 rfl (Or.inl ⟨by rfl,fun wz hSw=>?_⟩) hS0 ?_
 ·have hq:=uh HSL wz
  go_simp
 refine tCz 1 rfl fun K hK=>?_
 go_simp
 refine (rid_sx _ 13 cb b w2.drew w.heap.size ((uh HBB).below (uh X2)).drew (by decide) (uh HBC) (uh HBM)).mono ?_
 rintro e w6 ⟨rfl,rfl⟩
 rw [uh HID]
 refine hK.out _ _ trivial (fun _=>?_)
 clear hK K
 try simp only [Act.put,zA,zB,zC]
 refine tq 5 rfl hS0 ?_
 refine tCz 4 rfl fun K hK=>?_
 go_simp
 refine (Zcl (subA (some ⟨g,oo,none⟩) 5 cb) 8 (cb - 5) (b.drop 5) w2.drew w.heap.size ((((uh HBB).below (uh X2)).drew).rest (i:=5) (c:=cb) (by omega) (uh HBC)) (by decide)).mono ?_
 rintro e w6 ⟨rfl,rfl⟩
 rw [uh HSV]
 refine hK.out _ _ trivial (fun _=>?_)
 clear hK K
 try simp only [Act.put,zA,zB,zC]
 refine tOz 6 rfl fun K hK=>?_
 refine Zao (by rfl) 27 (.tmp 32) (.tmp 28) rfl w.heap.size 20 65 c.cs.toArray (.int .u32 (idv:Int)) [.int .u32 (idv:Int)] ({ c with id:=idv }:Cli).cs rfl rfl (uh J0).drew rfl (by rw [uh HZ0]; simp) (by kernel_rfl) (by intro u hu; simp at hu; subst hu; rfl) (uh HS0) ?_
 intro w3 hb hg
 have L0:=jd hb
 have L2:=jd ((uh J2).drew.grown hg (fun e=>by injection e with e; omega))
 have X3:=jd ((uh X2).drew.grown hg (uh X2).size (fun j e=>by injection e with e; omega))
 have hs3:w2.heap.size≤w3.heap.size:=hg.size
 clear hb hg
 refine hK.out _ _ trivial (fun _=>?_)
 clear hK K
 try simp only [Act.put]
 refine tq 7 rfl hS0 ?_
 refine tOz 8 rfl fun K hK=>?_
 refine Zao (by rfl) 43 (.tmp 33) (.tmp 31) rfl w.heap.size 19 65 ({ c with id:=idv }:Cli).cs.toArray (.int .u64 (sv:Int)) [.int .u64 (sv:Int)] ({ c with id:=idv,server:=sv }:Cli).cs rfl rfl (uh L0) rfl (by rw [uh HZ1]; simp) (by kernel_rfl) (by intro u hu; simp at hu; subst hu; rfl) (uh HS1) ?_
 intro w4 hb hg
 have M0:=jd hb
 have M2:=jd ((uh L2).gb hg)
 have X4:=jd (gWz (uh X3) hg)
 have hs4:w3.heap.size≤w4.heap.size:=hg.size
 clear hb hg
 refine hK.out _ _ trivial (fun _=>?_)
 clear hK K
 try simp only [Act.put]
 refine tDz ?_
 clear hS0
 have HK1:=jd (ZaV c.key (uh HOK).key)
 have HKZ:=jd (ZaV z (uh HZL))
 have HKP:Hid (∀ (j:Nat) v,(bsV c.key)[j]?=some v→({ c with id:=idv,server:=sv }:Cli).cs.toArray[1+j]?=some v):=jd fun j v hv=>(Cli.at_ (uh HO2)).key j v hv
 have HKP3:Hid (∀ (j:Nat) v,(bsV c.key)[j]?=some v→({ c with id:=idv,server:=sv,sess:=z }:Cli).cs.toArray[1+j]?=some v):=jd fun j v hv=>(Cli.at_ (uh HO3)).key j v hv
 obtain ⟨dk,hdk,hdr⟩:=Za5
 have HDK:=jd hdk
 have HDR:=jd hdr
 have a18:w4.cell? ⟨w.heap.size,18,none⟩=some (.int .u64 (c.nonce:Int)):=(Cli.blk (uh HO2) (uh M0)).nonce
 have a19:w4.cell? ⟨w.heap.size,19,none⟩=some (.int .u64 (sv:Int)):=(Cli.blk (uh HO2) (uh M0)).server
 clear hdk hdr
 go_wp2_with (first
  | (refine Zbe rfl 46 _ rfl w.heap.size 1 65 ({ c with id:=idv,server:=sv }:Cli).cs.toArray (bsV c.key) dk rfl (uh M0) (uh HKP) (uh HDK) (uh HDR) (uh HK1) ?_)
  | fail)
 refine (rsecret_sx w4 c.key (uh HOK).key c.nonce sv).mono ?_
 rintro e w5 ⟨rfl,hb5⟩
 rw [uh HZZ]
 have N0:=jd ((uh M0).below hb5 (uh M0).lt)
 have N2:=jd ((uh M2).below hb5 (uh M2).lt)
 have X5:=jd ((uh X4).trans (hb5.mono (uh X4).size))
 have hs5:w4.heap.size≤w5.heap.size:=hb5.size
 clear hb5 a18 a19
 go_upto_region 9 with (first
  |(refine Zal rfl 46 (.tmp 41) (.tmp 40) rfl w.heap.size 21 65 ({ c with id:=idv,server:=sv }:Cli).cs.toArray (.agg (bsV z).toArray) (bsV z) ({ c with id:=idv,server:=sv,sess:=z }:Cli).cs rfl rfl (uh N0) rfl (by rw [uh HZ2]; simp [bsV,uh HZL]) (uh HKZ) (fun u hu=>ZaL _ u hu) (uh HS2) ?_
    intro w6 hb hg
    have Q0:=jd hb
    have Q2:=jd ((uh N2).gb hg)
    have X6:=jd (gWz (uh X5) hg)
    have hs6:w5.heap.size≤w6.heap.size:=hg.size
    clear hb hg
    simp only [Act.put])
  | fail)
 have HLB2:=jd (Zd3 (uh HLV))
 have hB0:Below w6.heap.size w6 w6.drew:=(Below.refl _ _).drew
 have hS0:(fun wz=>Blk wz w.heap.size 65 ({ c with id:=idv,server:=sv,sess:=z }:Cli).cs.toArray) w6.drew:=(uh Q0)
 refine wp_region_noPanic (wp_region_held_drew (S:=fun wz=>Blk wz w.heap.size 65 ({ c with id:=idv,server:=sv,sess:=z }:Cli).cs.toArray) (by kernel_rfl) hS0 (fun _=>?_))
 clear hB0
 refine tJz 0 rfl (Zar 65 (.tmp 2) (by rfl) rfl w.heap.size rfl 65 ({ c with id:=idv,server:=sv,sess:=z }:Cli).cs.toArray _ (fun _ h=>h) Tryz.underlying65 rfl (Zai (uh HO3))) hS0 ?_
 refine tq 1 rfl hS0 ?_
 refine tJz (v:=(.int .u32 (idv:Int))) 2 rfl (Or.inl ⟨by rfl,fun wz hSw=>?_⟩) hS0 ?_
 ·have hq:=(Cli.blk (uh HO3) hSw).id
  go_simp
 refine tq 3 rfl hS0 ?_
 refine tJz 4 rfl (Zcc 46 (.tmp 45) (by rfl) rfl w.heap.size 1 rfl 65 ({ c with id:=idv,server:=sv,sess:=z }:Cli).cs.toArray (bsV c.key) dk (fun _ h=>h) (uh HKP3) (uh HDK) (uh HDR) (uh HK1)) hS0 ?_
 refine tq 5 rfl hS0 ?_
 refine tJz (v:=(.int .u64 (c.nonce:Int))) 6 rfl (Or.inl ⟨by rfl,fun wz hSw=>?_⟩) hS0 ?_
 ·have hq:=(Cli.blk (uh HO3) hSw).nonce
  go_simp
 refine tq 7 rfl hS0 ?_
 refine tJz (v:=(.int .u64 (sv:Int))) 8 rfl (Or.inl ⟨by rfl,fun wz hSw=>?_⟩) hS0 ?_
 ·have hq:=(Cli.blk (uh HO3) hSw).server
  go_simp
 refine tq 9 rfl hS0 ?_
 refine tJz (v:=(.int .i64 ((levB c.level).toNat:Int))) 10 rfl (Or.inl ⟨by rfl,fun wz hSw=>?_⟩) hS0 ?_
 ·have hq:=(Cli.blk (uh HO3) hSw).level
  dsimp only at hq
  rw [← uh HLB2] at hq
  go_simp
 refine tCz 11 rfl fun K hK=>?_
 go_simp
 refine (Zeg w6.drew 3 c.key (uh HOK).key idv c.nonce sv hidl (levB c.level)).mono ?_
 rintro e w7 ⟨v7,rfl,ho7,hb7⟩
 have h7:Below w6.heap.size w6 w7:=(Below.refl _ _).drew.trans hb7
 refine hK.out _ _ ((uh Q0).below h7 (uh Q0).lt) (fun _=>?_)
 clear hK K
 try simp only [Act.put,zA,zB,zC]
 refine tOz 12 rfl fun K hK=>?_
 refine Zaf (by rfl) 65 (.tmp 4) (.tmp 42) rfl (w.heap.size+1) 65 _ ({ c with id:=idv,server:=sv,sess:=z }:Cli).cs.toArray rfl rfl ((uh Q2).below h7 (uh Q2).lt) (by rw [Cli.size (uh HO3),Cli.size Zau]) (Zai (uh HO3)) (fun v hv=>Cli.one v (by simpa using hv)) ?_
 intro w8 hb8 hg8
 have h8:Below w.heap.size w w8:=((uh X6).trans (h7.mono (uh X6).size)).grown hg8 (by have:=(uh X6).size; have:=h7.size; omega) (fun j e=>by injection e with e; omega)
 have o8:=World.ownsRow.kept ho7 hg8 (.inr (Zad ho7 ((uh Q2).below h7 (uh Q2).lt) (by decide)))
 have R8:=jd hb8
 have H8:=jd h8
 have O8:=jd (Zak o8 (uh X6).size)
 refine hK.out _ _ (((uh Q0).below h7 (uh Q0).lt).grown hg8 (fun e=>by injection e with e; omega)) (fun hS8=>?_)
 clear hK K hb8 hg8 h8 o8 ho7
 try simp only [Act.put]
 refine tq 13 rfl hS8 ?_
 refine tq 14 rfl hS8 ?_
 refine tDz ?_
 have hrr:=uh HP2
 rw [uh HANS] at hrr
 subst hrr
 go_wp2_with fail
 refine bodyPost_ret (v:=.tuple #[.agg ({ c with id:=idv,server:=sv,sess:=z }:Cli).cs.toArray,v7,.int .i64 0]) (Za4 rfl _ (w.heap.size+1) 65 _ _ _ _ rfl rfl rfl (uh R8) Tryz.underlying65 rfl (Zai (uh HO3))) rfl ?_
 show Zb3 w _ _ _
 unfold Zb3
 rw [if_pos rfl]
 exact ⟨v7,rfl,by rw [ZbY]; exact uh O8,uh H8⟩
def ZdL (c:Cli) (b:List UInt8):Int × Cli :=
 if cliF c=false then (1,zCli) else if c.opn=true∨c.id=0 then (46,zCli) else if ¬ (b.length=13∧b[0]?=some 4∧leW ((b.drop 1).take 4)=c.id) then (6,zCli) else
 if decide (b=ZbB 4 c.key c.id c.nonce c.server (levB c.level))=false then (50,zCli) else (0,{ c with opn:=true })
def Zdd (w:World) (r:Int × Cli) (e:Ending) (w':World):Prop:=e=.returned (.tuple #[.agg r.2.cs.toArray,.int .i64 r.1])∧Below w.heap.size w w'
set_option maxRecDepth 100000 in
set_option maxHeartbeats 16000000 in
theorem racpt_sx (w:World) (c:Cli) (hok:c.Ok) (Ab:Option Addr) (nb cb:Nat) (b:List UInt8) (hb:Zaj w w.heap.size 1 Ab nb (bsV b)) (hbc:nb≤cb) (hbm:cb≤maxLen) (r:Int × Cli) (hp:ZdL c b=r) :
  Calls Tryz.prog 67 #[.agg c.cs.toArray,.slice Ab nb cb] w (Zdd w r):=by
 have hlb:b.length=nb:=by have:=hb.1; simpa [bsV] using this
 obtain ⟨W1,hW1⟩ :∃W1,(w.alloc (.cells c.cs.toArray 65)).alloc (.cells zCli.cs.toArray 65)=W1:=⟨_,rfl⟩
 have K0:Hid (Blk W1 w.heap.size 65 c.cs.toArray):=jd (hW1 ▸ ((Blk.new w _ _).alloc _))
 have K2:Hid (Blk W1 (w.heap.size+1) 65 zCli.cs.toArray):=jd (hW1 ▸ (Blk.new' (by simp)))
 have B1:Hid (Below w.heap.size w W1):=jd (hW1 ▸ ((Below.refl _ _).alloc (Nat.le_refl _) _).alloc (by rw [Zae]; omega) _)
 have HBB:=jd hb
 have HLB:=jd hlb
 have HBC:=jd hbc
 have HBM:=jd hbm
 have HOK:=jd hok
 have HP:=jd hp
 have HW1:=jd hW1
 have hnb:(nb:Int)≤9223372036854775807:=by unfold maxLen at hbm; omega
 obtain ⟨t1,ht1⟩ :∃t,cliF c=t:=⟨_,rfl⟩
 have HT1:=jd ht1
 clear hb hlb hbc hbm hok hp hW1 ht1
 go_enter Tryz.func67,Tryz.ntmps67
 go_upto_region 1 with (first
  | (refine Zag rfl 65 rfl _ (w.heap.size+1) (Zae _ _) (Zaz _) ?_)
  | fail)
 rw [uh HW1]
 go_wp2_with (first
  | (refine wpList_load_row rfl 65 _ rfl w.heap.size rfl 65 _ _ _ (uh K0) Tryz.underlying65 rfl (Zai (uh HOK)) ?_)
  | fail)
 refine (ZeO W1 c (uh HOK) t1 (uh HT1)).mono ?_
 rintro e w2 ⟨rfl,hb2⟩
 have J0:=jd ((uh K0).below hb2 (uh K0).lt)
 have J2:=jd ((uh K2).below hb2 (uh K2).lt)
 have X2:=jd ((uh B1).trans (hb2.mono (uh B1).size))
 have hs2:w.heap.size+1 < w2.heap.size:=(uh J2).lt
 clear hb2
 cases t1
 case false =>
  have hrr:=uh HP
  unfold ZdL at hrr
  rw [if_pos (uh HT1)] at hrr
  subst hrr
  clear HP
  go_wp2_with (first
   | (refine Zab rfl 65 _ rfl [] rfl _ Zax ?_)
   |(refine Zaa rfl 65 (.tmp 4) (.tmp 10) rfl (w.heap.size+1) 65 _ zCli.cs.toArray rfl rfl (uh J2) rfl (Zai Zau) (fun v hv=>Cli.one v (by simpa using hv)) ?_
     intro w9 hb9 hg9
     have Z9:=jd hb9
     have E9:=jd (gWz (uh X2) hg9)
     clear hb9 hg9)
   | fail)
  exact bodyPost_ret (v:=.tuple #[.agg zCli.cs.toArray,.int .i64 1]) (res2 rfl _ (w.heap.size+1) 65 _ _ _ rfl rfl (uh Z9) Tryz.underlying65 rfl (Zai Zau)) rfl (show Zdd w (1,zCli) _ _ from ⟨rfl,uh E9⟩)
 have hat:=Cli.blk (uh HOK) (uh J0)
 have c37:=hat.opn
 have c20:=hat.id
 have hil:=(uh HOK).id
 clear hat
 obtain ⟨t2,ht2⟩ :∃t,c.opn=t:=⟨_,rfl⟩
 have HT2:=jd ht2
 rw [ht2] at c37
 clear ht2
 cases t2
 case true =>
  have hrr:=uh HP
  unfold ZdL at hrr
  rw [if_neg (by rw [uh HT1]; simp),if_pos (.inl (uh HT2))] at hrr
  subst hrr
  clear HP
  go_wp2_with (first
   | (refine Zab rfl 65 _ rfl [] rfl _ Zax ?_)
   |(refine Zaa rfl 65 (.tmp 4) (.tmp 19) rfl (w.heap.size+1) 65 _ zCli.cs.toArray rfl rfl (uh J2) rfl (Zai Zau) (fun v hv=>Cli.one v (by simpa using hv)) ?_
     intro w9 hb9 hg9
     have Z9:=jd hb9
     have E9:=jd (gWz (uh X2) hg9)
     clear hb9 hg9)
   | fail)
  exact bodyPost_ret (v:=.tuple #[.agg zCli.cs.toArray,.int .i64 46]) (res2 rfl _ (w.heap.size+1) 65 _ _ _ rfl rfl (uh Z9) Tryz.underlying65 rfl (Zai Zau)) rfl (show Zdd w (46,zCli) _ _ from ⟨rfl,uh E9⟩)
 by_cases hi0:c.id=0
 case pos =>
  have f0:((c.id:Int)==0)=true:=by simp [hi0]
  have hrr:=uh HP
  unfold ZdL at hrr
  rw [if_neg (by rw [uh HT1]; simp),if_pos (.inr hi0)] at hrr
  subst hrr
  clear HP
  go_wp2_with (first
   | (refine Zab rfl 65 _ rfl [] rfl _ Zax ?_)
   |(refine Zaa rfl 65 (.tmp 4) (.tmp 19) rfl (w.heap.size+1) 65 _ zCli.cs.toArray rfl rfl (uh J2) rfl (Zai Zau) (fun v hv=>Cli.one v (by simpa using hv)) ?_
     intro w9 hb9 hg9
     have Z9:=jd hb9
     have E9:=jd (gWz (uh X2) hg9)
     clear hb9 hg9)
   | fail)
  exact bodyPost_ret (v:=.tuple #[.agg zCli.cs.toArray,.int .i64 46]) (res2 rfl _ (w.heap.size+1) 65 _ _ _ rfl rfl (uh Z9) Tryz.underlying65 rfl (Zai Zau)) rfl (show Zdd w (46,zCli) _ _ from ⟨rfl,uh E9⟩)
 have f0:((c.id:Int)==0)=false:=by simp [hi0]
 have HI0:=jd hi0
 clear hi0
 go_upto_region 5 with fail
 by_cases h13:nb=13
 case neg =>
  have f1:((nb:Int) != 13)=true:=by simp; omega
  have hrr:=uh HP
  unfold ZdL at hrr
  rw [if_neg (by rw [uh HT1]; simp),if_neg (by rw [uh HT2]; simp; exact uh HI0),if_pos (fun h=>h13 ((uh HLB).symm.trans h.1))] at hrr
  subst hrr
  clear HP
  clear h13
  go_quiet (fail)
  have J0:=jd ((uh J0).drewN nq)
  have J2:=jd ((uh J2).drewN nq)
  have X2:=jd (ZaK (uh X2) nq)
  go_wp2_with (first
   | (refine Zab rfl 65 _ rfl [] rfl _ Zax ?_)
   |(refine Zaa rfl 65 (.tmp 4) (.tmp 37) rfl (w.heap.size+1) 65 _ zCli.cs.toArray rfl rfl (uh J2) rfl (Zai Zau) (fun v hv=>Cli.one v (by simpa using hv)) ?_
     intro w9 hb9 hg9
     have Z9:=jd hb9
     have E9:=jd (gWz (uh X2) hg9)
     clear hb9 hg9)
   | fail)
  exact bodyPost_ret (v:=.tuple #[.agg zCli.cs.toArray,.int .i64 6]) (res2 rfl _ (w.heap.size+1) 65 _ _ _ rfl rfl (uh Z9) Tryz.underlying65 rfl (Zai Zau)) rfl (show Zdd w (6,zCli) _ _ from ⟨rfl,uh E9⟩)
 subst h13
 obtain ⟨g,oo,hAb,hgl,hcell⟩:=Zcr (uh HBB) (by omega)
 obtain ⟨b0,hb0⟩ :∃x,b[0]?=some x:=⟨b[0]'(by rw [uh HLB]; omega),List.getElem?_eq_getElem _⟩
 have c0:w2.cell? ⟨g,oo,none⟩=some (.int .u8 (b0.toNat:Int)):=((uh X2).cell (p:=⟨g,oo,none⟩) hgl).trans (hcell 0 b0 hb0)
 have HB0:=jd hb0
 subst hAb
 clear hcell hb0
 by_cases hz:b0=4
 case neg =>
  have f2:((b0.toNat:Int) != 4)=true:=by
   have:b0.toNat≠4:=fun e=>hz (UInt8.toNat_inj.1 e)
   simp; omega
  have hrr:=uh HP
  unfold ZdL at hrr
  rw [if_neg (by rw [uh HT1]; simp),if_neg (by rw [uh HT2]; simp; exact uh HI0),if_pos (fun h=>hz (Option.some.inj ((uh HB0).symm.trans h.2.1)))] at hrr
  subst hrr
  clear HP
  clear hz
  go_quiet (fail)
  have J0:=jd ((uh J0).drewN nq)
  have J2:=jd ((uh J2).drewN nq)
  have X2:=jd (ZaK (uh X2) nq)
  go_wp2_with (first
   | (refine Zab rfl 65 _ rfl [] rfl _ Zax ?_)
   |(refine Zaa rfl 65 (.tmp 4) (.tmp 37) rfl (w.heap.size+1) 65 _ zCli.cs.toArray rfl rfl (uh J2) rfl (Zai Zau) (fun v hv=>Cli.one v (by simpa using hv)) ?_
     intro w9 hb9 hg9
     have Z9:=jd hb9
     have E9:=jd (gWz (uh X2) hg9)
     clear hb9 hg9)
   | fail)
  exact bodyPost_ret (v:=.tuple #[.agg zCli.cs.toArray,.int .i64 6]) (res2 rfl _ (w.heap.size+1) 65 _ _ _ rfl rfl (uh Z9) Tryz.underlying65 rfl (Zai Zau)) rfl (show Zdd w (6,zCli) _ _ from ⟨rfl,uh E9⟩)
 subst hz
 have hc0:w2.cell? ⟨g,oo,none⟩=some (.int .u8 4):=c0
 clear c0
 obtain ⟨idv,hid⟩ :∃v,leW ((b.drop 1).take 4)=v:=⟨_,rfl⟩
 have hidl:idv < 4294967296:=by rw [← hid]; exact leW4 _ _
 have HID:=jd hid
 clear hid
 by_cases hii:idv=c.id
 case neg =>
  have f3:((idv:Int) != (c.id:Int))=true:=by simp; omega
  have HII:=jd hii
  clear hii
  have hrr:=uh HP
  unfold ZdL at hrr
  rw [if_neg (by rw [uh HT1]; simp),if_neg (by rw [uh HT2]; simp; exact uh HI0),if_pos (fun h=>uh HII ((uh HID).symm.trans h.2.2))] at hrr
  subst hrr
  clear HP
  go_quiet ((first
   | (go_at_call 77; exact Calls.quiet_of_same ((rid_sx _ 13 cb b _ w.heap.size (((uh HBB).below (uh X2)).drewN _) (by decide) (uh HBC) (uh HBM)).mono fun _ _ h=>⟨by rw [h.1,uh HID],h.2.symm⟩))
   | fail))
  have J0:=jd ((uh J0).drewN nq)
  have J2:=jd ((uh J2).drewN nq)
  have X2:=jd (ZaK (uh X2) nq)
  go_wp2_with (first
   | (refine Zab rfl 65 _ rfl [] rfl _ Zax ?_)
   |(refine Zaa rfl 65 (.tmp 4) (.tmp 37) rfl (w.heap.size+1) 65 _ zCli.cs.toArray rfl rfl (uh J2) rfl (Zai Zau) (fun v hv=>Cli.one v (by simpa using hv)) ?_
     intro w9 hb9 hg9
     have Z9:=jd hb9
     have E9:=jd (gWz (uh X2) hg9)
     clear hb9 hg9)
   | fail)
  exact bodyPost_ret (v:=.tuple #[.agg zCli.cs.toArray,.int .i64 6]) (res2 rfl _ (w.heap.size+1) 65 _ _ _ rfl rfl (uh Z9) Tryz.underlying65 rfl (Zai Zau)) rfl (show Zdd w (6,zCli) _ _ from ⟨rfl,uh E9⟩)
 have f3:((idv:Int) != (c.id:Int))=false:=by simp; omega
 have HII:=jd hii
 clear hii
 have hrr:=uh HP
 unfold ZdL at hrr
 rw [if_neg (by rw [uh HT1]; simp),if_neg (by rw [uh HT2]; simp; exact uh HI0),if_neg (by rw [uh HLB,uh HB0,uh HID]; simp; exact uh HII)] at hrr
 have HP2:=jd hrr
 clear hrr HP
 go_quiet ((first
  | (go_at_call 77; exact Calls.quiet_of_same ((rid_sx _ 13 cb b _ w.heap.size (((uh HBB).below (uh X2)).drewN _) (by decide) (uh HBC) (uh HBM)).mono fun _ _ h=>⟨by rw [h.1,uh HID],h.2.symm⟩))
  | fail))
 have J0:=jd ((uh J0).drewN nq)
 have J2:=jd ((uh J2).drewN nq)
 have X2:=jd (ZaK (uh X2) nq)
 go_upto_region 7 with fail
 clear hc0 c37 c20 f3
 obtain ⟨w3,hw3⟩ :∃w3,w2.drewN nq=w3:=⟨_,rfl⟩
 rw [hw3] at J0 J2 X2 ⊢
 have hs3:w.heap.size+1 < w3.heap.size:=(uh J2).lt
 clear hw3
 have HKI:=jd (ZaV c.key (uh HOK).key)
 have HKP:Hid (∀ (j:Nat) v,(bsV c.key)[j]?=some v→c.cs.toArray[1+j]?=some v):=jd fun j v hv=>(Cli.at_ (uh HOK)).key j v hv
 obtain ⟨dk,hdk,hdr⟩:=Za5
 have HDK:=jd hdk
 have HDR:=jd hdr
 have HLB2:=jd (Zd3 (ZdJ (uh HT1)))
 have Q7:=jd ((uh HBB).below (uh X2))
 obtain ⟨t4,ht4⟩ :∃t,decide (b=ZbB 4 c.key c.id c.nonce c.server (levB c.level))=t:=⟨_,rfl⟩
 have HT4:=jd ht4
 clear hdk hdr ht4
 have hS0:Below w3.heap.size w3 w3.drew:=(Below.refl _ _).drew
 refine wp_region_noPanic (wp_region_held_drew (S:=fun wz=>Below w3.heap.size w3 wz) (by kernel_rfl) hS0 (fun _=>?_))
 refine tq 0 rfl hS0 ?_
 refine tJz (v:=(.int .u32 (c.id:Int))) 1 rfl (Or.inl ⟨by rfl,fun wz hSw=>?_⟩) hS0 ?_
 ·have hq:=(Cli.blk (uh HOK) ((uh J0).below hSw (uh J0).lt)).id
  go_simp
 refine tq 2 rfl hS0 ?_
 refine tJz 3 rfl (Zcc 46 (.tmp 41) (by rfl) rfl w.heap.size 1 rfl 65 c.cs.toArray (bsV c.key) dk (fun _ h=>(uh J0).below h (uh J0).lt) (uh HKP) (uh HDK) (uh HDR) (uh HKI)) hS0 ?_
 refine tq 4 rfl hS0 ?_
 refine tJz (v:=(.int .u64 (c.nonce:Int))) 5 rfl (Or.inl ⟨by rfl,fun wz hSw=>?_⟩) hS0 ?_
 ·have hq:=(Cli.blk (uh HOK) ((uh J0).below hSw (uh J0).lt)).nonce
  go_simp
 refine tq 6 rfl hS0 ?_
 refine tJz (v:=(.int .u64 (c.server:Int))) 7 rfl (Or.inl ⟨by rfl,fun wz hSw=>?_⟩) hS0 ?_
 ·have hq:=(Cli.blk (uh HOK) ((uh J0).below hSw (uh J0).lt)).server
  go_simp
 refine tq 8 rfl hS0 ?_
 refine tJz (v:=(.int .i64 ((levB c.level).toNat:Int))) 9 rfl (Or.inl ⟨by rfl,fun wz hSw=>?_⟩) hS0 ?_
 ·have hq:=(Cli.blk (uh HOK) ((uh J0).below hSw (uh J0).lt)).level
  rw [← uh HLB2] at hq
  go_simp
 refine tq 12 rfl hS0 ?_
 refine tJz 13 rfl (Zdp 22 9 5 (.tmp 51) (by rfl) rfl (some ⟨g,oo,none⟩) 13 cb rfl w.heap.size b (fun wz h=>(uh Q7).below (h.mono (by omega))) Tryz.underlying22 Tryz.underlying5 Tryz.underlying9) hS0 ?_
 refine tCz 10 rfl fun K hK=>?_
 go_simp
 refine (Zeg _ 4 c.key (uh HOK).key c.id c.nonce c.server (uh HOK).id (levB c.level)).mono ?_
 rintro e w8 ⟨v8,rfl,ho8,hb8⟩
 have hb8:Below w3.heap.size w3 w8:=hS0.trans hb8
 obtain ⟨A8,c8,hv8,h81,h82⟩:=Zac ho8
 subst hv8
 have R8:=jd (Zaj.of_own ho8)
 refine hK.out _ _ hb8 (fun _=>?_)
 clear hK K
 try simp only [Act.put,zA,zB,zC]
 refine tOz 11 rfl fun K hK=>?_
 refine Ze9 w8 (by rfl) 22 9 5 (.tmp 49) rfl A8 13 c8 rfl w8.heap.size (ZbB 4 c.key c.id c.nonce c.server (levB c.level)) (uh R8) Tryz.underlying22 Tryz.underlying5 Tryz.underlying9 ?_
 refine hK.out _ _ hb8 (fun _=>?_)
 clear hK K
 try simp only [Act.put,zA,zB,zC]
 refine tJz 14 rfl (y_neqs 9 9 (.tmp 50) (.tmp 52) (ZbB 4 c.key c.id c.nonce c.server (levB c.level)) b t4 (by rfl) rfl rfl rfl (uh HT4)) hb8 ?_
 refine tq 15 rfl hb8 ?_
 refine tDz ?_
 have N0:=jd ((uh J0).below hb8 (uh J0).lt)
 have N2:=jd ((uh J2).below hb8 (uh J2).lt)
 have X8:=jd ((uh X2).trans (hb8.mono (uh X2).size))
 have hs8:w3.heap.size≤w8.heap.size:=hb8.size
 clear hb8 ho8 hS0 R8
 cases t4
 case false =>
  have hrr:=uh HP2
  rw [if_pos (uh HT4)] at hrr
  subst hrr
  clear HP2
  go_wp2_with (first
   | (refine Zab rfl 65 _ rfl [] rfl _ Zax ?_)
   |(refine Zaa rfl 65 (.tmp 4) (.tmp 54) rfl (w.heap.size+1) 65 _ zCli.cs.toArray rfl rfl (uh N2) rfl (Zai Zau) (fun v hv=>Cli.one v (by simpa using hv)) ?_
     intro w9 hb9 hg9
     have Z9:=jd hb9
     have E9:=jd (gWz (uh X8) hg9)
     clear hb9 hg9)
   | fail)
  exact bodyPost_ret (v:=.tuple #[.agg zCli.cs.toArray,.int .i64 50]) (res2 rfl _ (w.heap.size+1) 65 _ _ _ rfl rfl (uh Z9) Tryz.underlying65 rfl (Zai Zau)) rfl (show Zdd w (50,zCli) _ _ from ⟨rfl,uh E9⟩)
 have hrr:=uh HP2
 rw [if_neg (by rw [uh HT4]; simp)] at hrr
 obtain ⟨y,hy⟩ :∃y,({ c with opn:=true }:Cli)=y:=⟨_,rfl⟩
 rw [hy] at hrr
 have HRR:=jd hrr
 have hoky:({ c with opn:=true }:Cli).Ok:=⟨(uh HOK).user,(uh HOK).key,(uh HOK).sess,(uh HOK).nonce,(uh HOK).server,(uh HOK).id,(uh HOK).hi,(uh HOK).se,(uh HOK).out⟩
 have hset:=Cli.set_opn (uh HOK) true
 rw [hy] at hoky hset
 have HOY:=jd hoky
 have HSET:=jd hset
 have HSZ:=jd (Cli.size (uh HOK))
 clear hy hoky hset HP2 hrr
 go_upto_region 10 with (first
  |(refine Zal rfl 4 (.tmp 55) (.const (.bool true)) rfl w.heap.size 37 65 c.cs.toArray (.bool true) [.bool true] y.cs rfl rfl (uh N0) rfl (by rw [uh HSZ]; simp) (by kernel_rfl) (by intro u hu; simp at hu; subst hu; rfl) (uh HSET) ?_
    intro w10 hb hg
    have M0:=jd hb
    have M2:=jd ((uh N2).gb hg)
    have X10:=jd (gWz (uh X8) hg)
    clear hb hg
    simp only [Act.put])
  | fail)
 go_wp2_with (first
  | (refine wpList_load_row rfl 65 _ rfl w.heap.size rfl 65 _ _ _ (uh M0) Tryz.underlying65 rfl (Zai (uh HOY)) ?_)
  |(refine Zaa rfl 65 (.tmp 4) (.tmp 56) rfl (w.heap.size+1) 65 _ y.cs.toArray rfl rfl (uh M2) (Cli.size_eq (uh HOY)) (Zai (uh HOY)) (fun v hv=>Cli.one v (by simpa using hv)) ?_
    intro w11 hb hg
    have R11:=jd hb
    have X11:=jd (gWz (uh X10) hg)
    clear hb hg)
  | fail)
 have hrr:=uh HRR
 subst hrr
 exact bodyPost_ret (v:=.tuple #[.agg y.cs.toArray,.int .i64 0]) (res2 rfl _ (w.heap.size+1) 65 _ _ _ rfl rfl (uh R11) Tryz.underlying65 rfl (Zai (uh HOY))) rfl (show Zdd w (0,y) _ _ from ⟨rfl,uh X11⟩)
end Go.Proofs.YtfbkkmnkpjgciaaGreat
