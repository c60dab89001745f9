/- Joined of GSend GAcc GLim. No condition. -/
import Derived.Test.YtfbkkmnkpjgciaaGreatPG29
import Derived.Test.YtfbkkmnkpjgciaaGreatPG28
import Derived.Test.YtfbkkmnkpjgciaaGreatPG18
import Derived.Test.YtfbkkmnkpjgciaaGreatPG16
import Derived.Test.YtfbkkmnkpjgciaaGreatPG11
import Derived.Deep.QuietTactic
import Derived.BigQuiet
import Derived.IntWalk
namespace Go.Proofs.YtfbkkmnkpjgciaaGreat
open Go.RowKit
def Zc2 (x:Sess):Sess:={ x with out:=x.out+1 }
def Zc5 (L:List Sess) (nx:Nat) (id:Nat) (kb:UInt8) (data:List UInt8):SRes :=
 if ZaS L nx=false then badS 1 else
 match Zcs (idP id) L 0 with
 | none=>badS 44
 |some (i,x)=>if x.opn=false then badS 44 else if Zb6 kb=false then badS 2 else if 256 < data.length∨x.out=4294967295 then badS 3 else
  ⟨0,L.set i (Zc2 x),nx,Zb0 6 x.key id (x.out+1) kb data⟩
set_option maxRecDepth 100000 in
set_option maxHeartbeats 16000000 in
theorem Zee (w:World) (A:Option Addr) (n c:Nat) (L:List Sess) (nx:Nat) (hS:ZaA w w.heap.size A n L) (hn:n≤1000) (hnx:nx < 4294967296) (id:Nat) (hid:id < 4294967296)
  (kb:UInt8) (Ad:Option Addr) (nd cd:Nat) (data:List UInt8) (hd:Zaj w w.heap.size 1 Ad nd (bsV data)) (hdm:nd≤maxLen) (r:SRes) (hr:Zc5 L nx id kb data=r) :
  Calls Tryz.prog 34 #[.agg #[.slice A n c,.int .u32 (nx:Int)],.int .u32 (id:Int),.int .i64 (kb.toNat:Int),.slice Ad nd cd] w (ZaH w r):=by
 obtain ⟨W1,hW1⟩ :∃W1,(w.alloc (.cells #[.slice A n c,.int .u32 (nx:Int)] 29)).alloc (.cells #[.slice none 0 0,.int .u32 0] 29)=W1:=⟨_,rfl⟩
 have K0:Hid (Blk W1 w.heap.size 29 #[.slice A n c,.int .u32 (nx:Int)]):=jd (hW1 ▸ ((Blk.new w _ _).alloc _))
 have K2:Hid (Blk W1 (w.heap.size+1) 29 #[.slice none 0 0,.int .u32 0]):=jd (hW1 ▸ (Blk.new' (by simp)))
 have B1:Hid (Below w.heap.size w W1):=jd (hW1 ▸ ((Below.refl _ _).alloc (Nat.le_refl _) _).alloc (by rw [Zae]; omega) _)
 have HS:=jd hS
 have HDD:=jd hd
 have HR:=jd hr
 have hld:data.length=nd:=by have:=hd.1; simpa [bsV] using this
 have HLD:=jd hld
 have HDM:=jd hdm
 have hnd:(nd:Int)≤9223372036854775807:=by unfold maxLen at hdm; omega
 obtain ⟨t1,ht1⟩ :∃t,ZaS L nx=t:=⟨_,rfl⟩
 have HT1:=jd ht1
 clear hS hd hr hld hdm ht1
 go_enter Tryz.func34,Tryz.ntmps34
 go_wp2_with (first
  | (refine wpList_load_row rfl 29 _ rfl w.heap.size rfl 29 _ _ _ (uh K0) Tryz.underlying29 rfl (by kernel_rfl) ?_)
  | fail)
 have hw1:w.heap.size+1 < W1.heap.size:=(uh K2).lt
 refine (Zds W1 A n c L nx (((uh HS).below (uh B1)).more (uh B1).size) (by unfold maxLen; omega) hnx t1 (uh HT1)).mono ?_
 rintro e w2 ⟨rfl,hb2⟩
 have J0:=jd ((uh K0).below hb2 (uh K0).lt)
 have J2:=jd ((uh K2).below hb2 (uh K2).lt)
 have X2:=jd ((uh B1).trans (hb2.mono (uh B1).size))
 have hs2:w.heap.size+1 < w2.heap.size:=(uh J2).lt
 clear hb2
 cases t1
 case false =>
  have hrr:=uh HR
  unfold Zc5 at hrr
  rw [if_pos (uh HT1)] at hrr
  subst hrr
  clear HR
  go_wp2_with (first
   | (refine Zab rfl 29 _ rfl [] rfl _ Zan ?_)
   |(refine Zaa rfl 29 (.tmp 8) (.tmp 16) rfl (w.heap.size+1) 29 _ #[.slice none 0 0,.int .u32 0] rfl rfl (uh J2) rfl (by kernel_rfl) (oZz rfl rfl) ?_
     intro w9 hb9 hg9
     have Z9:=jd hb9
     have E9:=jd (gWz (uh X2) hg9)
     clear hb9 hg9)
   | fail)
  exact rSz rfl rfl rfl rfl (uh Z9) (uh E9)
 have hrr:=uh HR
 unfold Zc5 at hrr
 rw [if_neg (by rw [uh HT1]; simp)] at hrr
 have HR2:=jd hrr
 clear hrr HR
 obtain ⟨fi,hfi⟩ :∃i,Zbl (idP id) L 0=i:=⟨_,rfl⟩
 have HFI:=jd hfi
 clear hfi
 go_wp2_with (first
  | (refine wpList_load_row rfl 29 _ rfl w.heap.size rfl 29 _ _ _ (uh J0) Tryz.underlying29 rfl (by kernel_rfl) ?_)
  | fail)
 refine (Zer w2 A n c L _ (((uh HS).below (uh X2)).more (uh X2).size) (by unfold maxLen; omega) id).mono ?_
 rintro e w3 ⟨rfl,hb3⟩
 rw [uh HFI]
 have M0:=jd ((uh J0).below hb3 (uh J0).lt)
 have M2:=jd ((uh J2).below hb3 (uh J2).lt)
 have X3:=jd ((uh X2).trans (hb3.mono (uh X2).size))
 have hs3:w2.heap.size≤w3.heap.size:=hb3.size
 clear hb3
 rcases Za8 (idP id) L 0 with ⟨e1,f1⟩ | ⟨i,x,e1,f1,hx,hpx⟩
 ·obtain rfl:fi=-1:=by rw [← uh HFI,e1]
  have hf1:=jd f1
  clear e1 f1
  have hrr:=uh HR2
  rw [uh hf1] at hrr
  dsimp only at hrr
  subst hrr
  clear HR2
  go_wp2_with (first
   | (refine Zab rfl 29 _ rfl [] rfl _ Zan ?_)
   |(refine Zaa rfl 29 (.tmp 8) (.tmp 32) rfl (w.heap.size+1) 29 _ #[.slice none 0 0,.int .u32 0] rfl rfl (uh M2) rfl (by kernel_rfl) (oZz rfl rfl) ?_
     intro w9 hb9 hg9
     have Z9:=jd hb9
     have E9:=jd (gWz (uh X3) hg9)
     clear hb9 hg9)
   | fail)
  exact rSz rfl rfl rfl rfl (uh Z9) (uh E9)
 rw [Nat.zero_add] at e1 f1
 obtain rfl:fi=(i:Int):=by rw [← uh HFI,e1]
 have hrr:=uh HR2
 rw [f1] at hrr
 dsimp only at hrr
 have HR3:=jd hrr
 have hin:i < n:=by have:=(List.getElem?_eq_some_iff.1 hx).1; have:=(uh HS).len; omega
 obtain ⟨g,oo,x',hA,hg,hx',hxo,hrg⟩:=((uh HS).below (uh X3)).at_ hin
 obtain rfl:x'=x:=by rw [hx] at hx'; injection hx' with h; exact h.symm
 subst hA
 have hat:=Sess.range hxo hrg
 have c21:=hat.opn
 have c24:=hat.out
 have hi0:((i:Int) < 0)=False:=by simp
 have hi0b:(0:Int)≤(i:Int):=by omega
 have hiz:(i:Int) < (n:Int):=by omega
 have hxid:x'.id=id:=by simpa [idP] using hpx
 have hxl:=hxo.out
 have HX:=jd hx
 have HXO:=jd hxo
 have HXID:=jd hxid
 have D0:=(uh M0).cell 0
 clear hrr HR2 e1 f1 hx hx' hxo hat hrg hpx hxid
 obtain ⟨t3,ht3⟩ :∃t,x'.opn=t:=⟨_,rfl⟩
 rw [ht3] at c21
 have HT3:=jd ht3
 clear ht3
 simp only [List.getElem?_toArray,List.getElem?_cons_zero] at D0
 cases t3
 case false =>
  have hrr:=uh HR3
  rw [if_pos (uh HT3)] at hrr
  subst hrr
  clear HR3
  go_wp2_with (first
   | (refine Zab rfl 29 _ rfl [] rfl _ Zan ?_)
   |(refine Zaa rfl 29 (.tmp 8) (.tmp 32) rfl (w.heap.size+1) 29 _ #[.slice none 0 0,.int .u32 0] rfl rfl (uh M2) rfl (by kernel_rfl) (oZz rfl rfl) ?_
     intro w9 hb9 hg9
     have Z9:=jd hb9
     have E9:=jd (gWz (uh X3) hg9)
     clear hb9 hg9)
   | fail)
  exact rSz rfl rfl rfl rfl (uh Z9) (uh E9)
 obtain ⟨t4,ht4⟩ :∃t,Zb6 kb=t:=⟨_,rfl⟩
 have HT4:=jd ht4
 clear ht4
 cases t4
 case false =>
  have hrr:=uh HR3
  rw [if_neg (by rw [uh HT3]; simp),if_pos (uh HT4)] at hrr
  subst hrr
  clear HR3
  go_wp2_with (first
   | (refine Zab rfl 29 _ rfl [] rfl _ Zan ?_)
   |(refine Zaa rfl 29 (.tmp 8) (.tmp 37) rfl (w.heap.size+1) 29 _ #[.slice none 0 0,.int .u32 0] rfl rfl (uh M2) rfl (by kernel_rfl) (oZz rfl rfl) ?_
     intro w9 hb9 hg9
     have Z9:=jd hb9
     have E9:=jd (gWz (uh X3) hg9)
     clear hb9 hg9)
   | (go_at_call 88; refine (Zct _ kb _ (uh HT4)).mono ?_; rintro e w' ⟨rfl,rfl⟩)
   | fail)
  exact rSz rfl rfl rfl rfl (uh Z9) (uh E9)
 by_cases h256:256 < nd
 case pos =>
  have f1:((256:Int) < (nd:Int))=True:=by simp; omega
  have hrr:=uh HR3
  rw [if_neg (by rw [uh HT3]; simp),if_neg (by rw [uh HT4]; simp),if_pos (.inl (by rw [uh HLD]; exact h256))] at hrr
  subst hrr
  clear HR3
  go_wp2_with (first
   | (refine Zab rfl 29 _ rfl [] rfl _ Zan ?_)
   |(refine Zaa rfl 29 (.tmp 8) (.tmp 51) rfl (w.heap.size+1) 29 _ #[.slice none 0 0,.int .u32 0] rfl rfl (uh M2) rfl (by kernel_rfl) (oZz rfl rfl) ?_
     intro w9 hb9 hg9
     have Z9:=jd hb9
     have E9:=jd (gWz (uh X3) hg9)
     clear hb9 hg9)
   | (go_at_call 88; refine (Zct _ kb _ (uh HT4)).mono ?_; rintro e w' ⟨rfl,rfl⟩)
   | fail)
  exact rSz rfl rfl rfl rfl (uh Z9) (uh E9)
 have f1:((256:Int) < (nd:Int))=False:=by simp; omega
 by_cases hmx:x'.out=4294967295
 case pos =>
  have f2:((x'.out:Int)==4294967295)=true:=by simp; omega
  have hrr:=uh HR3
  rw [if_neg (by rw [uh HT3]; simp),if_neg (by rw [uh HT4]; simp),if_pos (.inr hmx)] at hrr
  subst hrr
  clear HR3
  go_wp2_with (first
   | (refine Zab rfl 29 _ rfl [] rfl _ Zan ?_)
   |(refine Zaa rfl 29 (.tmp 8) (.tmp 51) rfl (w.heap.size+1) 29 _ #[.slice none 0 0,.int .u32 0] rfl rfl (uh M2) rfl (by kernel_rfl) (oZz rfl rfl) ?_
     intro w9 hb9 hg9
     have Z9:=jd hb9
     have E9:=jd (gWz (uh X3) hg9)
     clear hb9 hg9)
   | (go_at_call 88; refine (Zct _ kb _ (uh HT4)).mono ?_; rintro e w' ⟨rfl,rfl⟩)
   | fail)
  exact rSz rfl rfl rfl rfl (uh Z9) (uh E9)
 have f2:((x'.out:Int)==4294967295)=false:=by simp; omega
 have hrr:=uh HR3
 rw [if_neg (by rw [uh HT3]; simp),if_neg (by rw [uh HT4]; simp),if_neg (by rw [uh HLD]; omega)] at hrr
 have HR4:=jd hrr
 have hol:x'.out < 4294967295:=by omega
 clear hrr HR3 hmx
 go_upto_region 10 with (first
  | (go_at_call 88; refine (Zct _ kb _ (uh HT4)).mono ?_; rintro e w' ⟨rfl,rfl⟩)
  | fail)
 clear c21 c24 D0
 go_wp2_with (first
  | (refine wpList_load_row rfl 29 _ rfl w.heap.size rfl 29 _ _ _ (uh M0) Tryz.underlying29 rfl (by kernel_rfl) ?_)
  | fail)
 refine (ZeP w3 _ n c L nx (((uh HS).below (uh X3)).more (uh X3).size) hn).mono ?_
 rintro e w4 hex
 unfold Zcm at hex
 obtain ⟨v4,rfl,ho4,hb4⟩:=hex
 have hLn:L.length=n:=(uh HS).len
 rw [hLn] at ho4
 obtain ⟨gr,c4,cur,hv4,hgb,hrow,hml⟩:=RowM.of_own ho4 (uh HS).ok (by omega)
 subst hv4
 obtain ⟨ok1,hset1⟩:(Zc2 x').Ok∧x'.cs.take 24++[.int .u32 ((x'.out+1:Nat):Int)]++x'.cs.drop (24+[Value.int .u32 ((x'.out+1:Nat):Int)].length)=(Zc2 x').cs :=
  ⟨⟨(uh HXO).id,(uh HXO).user,(uh HXO).client,(uh HXO).server,(uh HXO).key,(uh HXO).hi,(uh HXO).se,by show x'.out+1 < 4294967296; omega⟩,Sess.set_out (uh HXO) (x'.out+1)⟩
 have N0:=jd ((uh M2).below hb4 (uh M2).lt)
 have X4:=jd ((uh X3).trans (hb4.mono (uh X3).size))
 have hs4:w3.heap.size≤w4.heap.size:=hb4.size
 have N2:=jd ((uh N0).alloc (.cells #[.slice none 0 0,.int .u32 0] 29))
 have N3:=jd (Blk.new w4 29 #[.slice none 0 0,.int .u32 0])
 have X4a:=jd ((uh X4).alloc (by have:=(uh X4).size; omega) (.cells #[.slice none 0 0,.int .u32 0] 29))
 have ROW4:=jd (hrow.alloc (.cells #[.slice none 0 0,.int .u32 0] 29))
 have HOK1:=jd ok1
 have HSET1:=jd hset1
 have HLN:=jd hLn
 have hgw4:=hrow.blk.lt
 clear ho4 hb4 hrow ok1 hset1 hLn
 go_upto_region 11 with (first
  | (refine Zag rfl 29 rfl _ w4.heap.size rfl (ZaB _) ?_)
  |(refine Zaa rfl 29 (.tmp 12) (.tmp 53) rfl w4.heap.size 29 _ #[.slice (some ⟨gr,0,none⟩) n c4,.int .u32 (nx:Int)] rfl rfl (uh N3) rfl (by kernel_rfl) (oZz rfl rfl) ?_
    intro w5 hb5 hg5
    have P3:=jd hb5
    have P2:=jd ((uh N2).gb hg5)
    have ROW5:=jd ((uh ROW4).grown hg5 (by omega))
    have X5:=jd (gWz (uh X4a) hg5)
    have hs5:w4.heap.size < w5.heap.size:=hb5.lt
    clear hb5 hg5)
  | fail)
 have d0:w5.cell? ⟨w4.heap.size,0,none⟩=some (.slice (some ⟨gr,0,none⟩) n c4):=(uh P3).cell 0
 have e24:w5.cell? ⟨gr,i*26+24,none⟩=some (.int .u32 (x'.out:Int)):=(Sess.range (uh HXO) ((uh ROW5).range (uh HS).ok (uh HX))).out
 have hw32:IntKind.u32.wrap ((x'.out:Int)+1)=((x'.out+1:Nat):Int):=by rw [IntKind.wrap_u32]; omega
 have hcs:cur.size=c4*26:=(uh ROW5).size
 have hlec:n≤c4:=by have:=(uh ROW5).le; have:=uh HLN; omega
 have HCS:=jd hcs
 clear hcs
 go_upto_region 12 with (first
  |(refine Zal rfl 27 (.tmp 62) (.tmp 60) rfl gr (i*26+24) 50 cur (.int .u32 ((x'.out+1:Nat):Int)) [.int .u32 ((x'.out+1:Nat):Int)] _ rfl rfl (uh ROW5).blk rfl (by rw [uh HCS]; simp; omega) (by kernel_rfl) (by intro u hu; simp at hu; subst hu; rfl) rfl ?_
    intro w6 hb hg
    have ROW6:=jd (RowM.part (i:=i) (j:=24) (uh ROW5) (uh HS).ok (uh HX) (uh HOK1) (uh HSET1) (by simp) hb)
    have Q3:=jd ((uh P3).grown hg (fun e=>(uh P3).ne_ (uh ROW5).blk (by decide) (by injection e)))
    have Q2:=jd ((uh P2).grown hg (fun e=>(uh P2).ne_ (uh ROW5).blk (by decide) (by injection e)))
    have X6:=jd (gWz (uh X5) hg)
    have hs6:w5.heap.size≤w6.heap.size:=hg.size
    clear hb hg
    simp only [Act.put])
  | fail)
 clear d0 e24
 have hok6:ZaE (L.set i (Zc2 x')):=ZaE.set (uh HS).ok (uh HOK1)
 have HOK6:=jd hok6
 have HX6:Hid ((L.set i (Zc2 x'))[i]?=some (Zc2 x')):=jd (List.getElem?_set_self (by rw [uh HLN]; exact hin))
 obtain ⟨cur6,ROWB⟩ :∃cur6,Hid (RowM w6 gr c4 (L.set i (Zc2 x')) cur6):=⟨_,ROW6⟩
 have HAT:Hid (∀ wz,Blk wz gr 50 cur6→wz.rangeAt gr (i*26) (Zc2 x').cs):=jd fun wz hb=>RowM.range ⟨hb,(uh ROWB).size,(uh ROWB).le,(uh ROWB).cap,(uh ROWB).take⟩ (uh HOK6) (uh HX6)
 have HKI:=jd (ZaV x'.key (uh HXO).key)
 have HKR:Hid (∀ wz,(Blk wz w4.heap.size 29 #[.slice (some ⟨gr,0,none⟩) n c4,.int .u32 (nx:Int)]∧Blk wz gr 50 cur6∧Below w.heap.size w wz)→wz.rangeAt gr (i*26+5) (bsV x'.key)):=jd fun wz hz j v hv=>by rw [Nat.add_assoc]; exact (Sess.range (uh HOK1) (uh HAT wz hz.2.1)).key j v hv
 obtain ⟨dk,hdk,hdr⟩:=Za5
 have HDK:=jd hdk
 have HDR:=jd hdr
 clear hok6 ROW6 hdk hdr
 have hB0:Below w6.heap.size w6 w6.drew:=(Below.refl _ _).drew
 have hS0:(fun wz=>Blk wz w4.heap.size 29 #[.slice (some ⟨gr,0,none⟩) n c4,.int .u32 (nx:Int)]∧Blk wz gr 50 cur6∧Below w.heap.size w wz) w6.drew:=⟨(uh Q3).drew,(uh ROWB).blk.drew,(uh X6).drew⟩
 refine wp_region_noPanic (wp_region_held_drew (S:=fun wz=>Blk wz w4.heap.size 29 #[.slice (some ⟨gr,0,none⟩) n c4,.int .u32 (nx:Int)]∧Blk wz gr 50 cur6∧Below w.heap.size w wz) (by kernel_rfl) hS0 (fun _=>?_))
 clear hB0
 refine tJz 0 rfl (Zar 29 (.tmp 12) (by rfl) rfl w4.heap.size rfl 29 #[.slice (some ⟨gr,0,none⟩) n c4,.int .u32 (nx:Int)] _ (fun _ h=>h.1) Tryz.underlying29 rfl (by kernel_rfl)) hS0 ?_
 refine tq 1 rfl hS0 ?_
 refine tq 2 rfl hS0 ?_
 refine tJz (v:=(.slice (some ⟨gr,0,none⟩) n c4)) 3 rfl (Or.inl ⟨by rfl,fun wz hSw=>?_⟩) hS0 ?_
 ·have hq:=hSw.1.cell 0
  simp only [List.getElem?_toArray,List.getElem?_cons_zero] at hq
  go_simp
 refine tq 4 rfl hS0 ?_
 refine tq 5 rfl hS0 ?_
 refine tq 6 rfl hS0 ?_
 refine tJz (v:=(.int .u32 ((x'.out+1:Nat):Int))) 7 rfl (Or.inl ⟨by rfl,fun wz hSw=>?_⟩) hS0 ?_
 ·have hq:=(Sess.range (uh HOK1) (uh HAT wz hSw.2.1)).out
  dsimp only [Zc2] at hq
  go_simp
 refine tq 8 rfl hS0 ?_
 refine tq 9 rfl hS0 ?_
 refine tq 10 rfl hS0 ?_
 refine tJz (v:=(.slice (some ⟨gr,0,none⟩) n c4)) 11 rfl (Or.inl ⟨by rfl,fun wz hSw=>?_⟩) hS0 ?_
 ·have hq:=hSw.1.cell 0
  simp only [List.getElem?_toArray,List.getElem?_cons_zero] at hq
  go_simp
 refine tq 12 rfl hS0 ?_
 refine tq 13 rfl hS0 ?_
 refine tq 14 rfl hS0 ?_
 refine tJz (v:=.agg (bsV x'.key).toArray) 15 rfl (yieldsIf_load_mid (by rfl) 46 (.tmp 77) rfl gr (i*26+5) rfl (bsV x'.key) dk (uh HKR) (uh HDK) (uh HDR) (uh HKI)) hS0 ?_
 refine tCz 16 rfl fun K hK=>?_
 go_simp
 refine (rpacket_sx w6.drew 6 x'.key (uh HXO).key id (x'.out+1) kb Ad nd cd data (((uh HDD).below ((uh X6).drew)).more (uh X6).size) (by omega) hid (by omega)).mono ?_
 rintro e w7 ⟨v7,rfl,ho7,hb7⟩
 have h7:Below w6.heap.size w6 w7:=(Below.refl _ _).drew.trans hb7
 have o7:=Zak ho7 (show w.heap.size≤w6.drew.heap.size from (uh X6).size)
 have S7:Blk w7 w4.heap.size 29 #[.slice (some ⟨gr,0,none⟩) n c4,.int .u32 (nx:Int)]∧Blk w7 gr 50 cur6∧Below w.heap.size w w7:=⟨(uh Q3).below h7 (uh Q3).lt,(uh ROWB).blk.below h7 (uh ROWB).blk.lt,(uh X6).trans (h7.mono (uh X6).size)⟩
 refine hK.out _ _ S7 (fun _=>?_)
 clear hK K
 try simp only [Act.put,zA,zB,zC]
 refine tOz 17 rfl fun K hK=>?_
 refine Zaf (by rfl) 29 (.tmp 8) (.tmp 63) rfl (w.heap.size+1) 29 _ #[.slice (some ⟨gr,0,none⟩) n c4,.int .u32 (nx:Int)] rfl rfl ((uh Q2).below h7 (uh Q2).lt) rfl (by kernel_rfl) (oZz rfl rfl) ?_
 intro w8 hb8 hg8
 have X8:=jd (((uh X6).trans (h7.mono (uh X6).size)).grown hg8 (by have:=(uh X6).size; have:=h7.size; omega) (fun j e=>by injection e with e; omega))
 have ROW7:=(uh ROWB).below h7
 have ROW8:=jd (ROW7.grown hg8 (fun e=>ROW7.blk.ne_ ((uh Q2).below h7 (uh Q2).lt) (by decide) e))
 have O8:=jd (World.ownsRow.kept o7 hg8 (.inr (Zad o7 ((uh Q2).below h7 (uh Q2).lt) (by decide))))
 have R8:=jd hb8
 have S8:Blk w8 w4.heap.size 29 #[.slice (some ⟨gr,0,none⟩) n c4,.int .u32 (nx:Int)]∧Blk w8 gr 50 cur6∧Below w.heap.size w w8:=⟨S7.1.grown hg8 (fun e=>by injection e with e; omega),(uh ROW8).blk,uh X8⟩
 refine hK.out _ _ S8 (fun hS8=>?_)
 clear hK K hb8 hg8 ROW7 ho7 o7
 try simp only [Act.put]
 refine tq 18 rfl hS8 ?_
 refine tq 19 rfl hS8 ?_
 refine tDz ?_
 clear hS8 hS0
 have hrr:=uh HR4
 subst hrr
 go_wp2_with fail
 refine bodyPost_ret (v:=.tuple #[.agg #[.slice (some ⟨gr,0,none⟩) n c4,.int .u32 (nx:Int)],v7,.int .i64 0]) (Za4 rfl _ (w.heap.size+1) 29 _ _ _ _ rfl rfl rfl (uh R8) Tryz.underlying29 rfl (by kernel_rfl)) rfl ?_
 show ZaH w _ _ _
 unfold ZaH
 rw [if_pos rfl]
 refine ⟨_,v7,rfl,?_,uh O8,uh X8⟩
 have h:=RowM.whole (base:=w.heap.size) (n:=n) (uh ROW8) (uh HOK6) (by omega) (by rw [List.length_set]; exact uh HLN)
 rw [show (L.set i (Zc2 x')).length=n by rw [List.length_set]; exact uh HLN]
 exact h
theorem less_total:∀ a b:List UInt8,(!(Op.bytesLess a b))=leqL b a
 | [],[]=>rfl
 | _::_,[]=>rfl
 | [],_::_=>rfl
 |a::x,b::y=>by
  have ih:=less_total x y
  unfold leqL at ih ⊢
  simp only [Op.bytesLess]
  by_cases h1:a < b
  ·have h2:¬ b < a:=fun h=>by have:=UInt8.lt_iff_toNat_lt.1 h1; have:=UInt8.lt_iff_toNat_lt.1 h; omega
   have h3:¬ b=a:=fun h=>by subst h; exact h2 h1
   simp [h1,h2,h3]
  ·by_cases h3:a=b
   ·subst h3
    simp only [h1,decide_false,beq_self_eq_true,Bool.true_and,Bool.false_or]
    rw [ih]
    simp
   ·have h2:b < a:=by
     have e1:a.toNat≠b.toNat:=fun e=>h3 (UInt8.toNat_inj.1 e)
     have e2:¬ a.toNat < b.toNat:=fun e=>h1 (UInt8.lt_iff_toNat_lt.2 e)
     exact UInt8.lt_iff_toNat_lt.2 (by omega)
    simp [h1,h3,h2]
theorem run_geq_str (w:World) (a b:List UInt8) (r:Bool) (hr:leqL b a=r):(binOp .geq 9 (.string ⟨a.toArray⟩) (.string ⟨b.toArray⟩)).run Tryz.prog w=.ok (.bool r) w:=by
 have e:leqL b a=!(Op.bytesLess a b):=(less_total a b).symm
 rw [e] at hr
 simp [binOp,Op.stringOp,ByteArray.toList_eq,hr]
set_option maxRecDepth 100000 in
set_option maxHeartbeats 4000000 in
theorem Zd8 (w:World) (AU:Option Addr) (nU cU:Nat) (y:Value) (U:List Usr) (hU:UsrL w w.heap.size AU nU U) (hnm:nU≤maxLen) (s:List UInt8) :
  Calls Tryz.prog 76 #[.agg #[.slice AU nU cU,y],.string ⟨s.toArray⟩] w fun e w'=>e=.returned (.int .i64 (Zby (ZbR s) U 0))∧Below w.heap.size w w':=by
 unfold maxLen at hnm
 have HB0:=jd ((Below.refl w.heap.size w).alloc (Nat.le_refl _) (.cells #[.slice AU nU cU,y] 33))
 have HK0:=jd (Blk.new w 33 #[.slice AU nU cU,y])
 have HS:=jd hU
 clear hU
 go_enter Tryz.func76,Tryz.ntmps76
 go_wp2_with fail
 go_loopw [5] (fun i wr=>∃ k:Nat,k≤nU∧i=.int .i64 k∧Hid (Zby (ZbR s) (U.drop k) k=Zby (ZbR s) U 0)∧Blk wr w.heap.size 33 #[.slice AU nU cU,y]∧Below w.heap.size w wr) (fun i _=>nU - (intOf i).toNat)
 case atStart=>exact ⟨0,by omega,rfl,jd (by rw [List.drop_zero]),uh HK0,uh HB0⟩
 case round =>
  obtain ⟨k,hk,rfl,hrk,hK,hB⟩:=hrel
  have HK:=jd hK
  have HB:=jd hB
  have dr:wr.cell? ⟨w.heap.size,0,none⟩=some (.slice AU nU cU):=hK.cell 0
  clear hK hB
  by_cases hlt:k < nU
  ·obtain ⟨g,oo,x,rfl,hg,hx,hxo,_,hrg⟩:=((uh HS).below (uh HB)).at_ (by omega) hlt
   have hfd:=Zex (p:=ZbR s) hx
   have hc0:wr.cell? ⟨g,oo+k*19,none⟩=some (.string ⟨x.name.toArray⟩):=(Usr.range hxo hrg).name
   have hlt2:(k:Int) < (nU:Int):=by omega
   obtain ⟨eb,heb⟩ :∃b,(x.name==s)=b:=⟨_,rfl⟩
   have hnp:ZbR s x=eb:=heb
   have heq:(x.name.toArray.toList==s.toArray.toList)=eb:=by simpa using heb
   rw [hnp] at hfd
   clear hx hxo hrg hnp heb
   cases eb with
   |true =>
    rw [if_pos rfl] at hfd
    have HRES:Hid (Zby (ZbR s) U 0=(k:Int)):=jd (by rw [← uh hrk,hfd])
    clear hfd hrk
    go_wp2_with fail
    go_ret
    exact ⟨by rw [uh HRES]; rfl,uh HB⟩
   |false =>
    rw [if_neg (by simp)] at hfd
    have HRES:Hid (Zby (ZbR s) (U.drop (k+1)) (k+1)=Zby (ZbR s) U 0):=jd (by rw [← hfd]; exact uh hrk)
    clear hfd hrk
    go_wp2_with fail
    go_roundw
    case rel=>exact ⟨k+1,by omega,by go_num,HRES,uh HK,uh HB⟩
    case measure=>simp [intOf]; omega
  ·obtain rfl:k=nU:=by omega
   have hdr:U.drop k=[]:=List.drop_of_length_le (by have:=(uh HS).len (by omega); omega)
   have h0:=uh hrk
   rw [hdr] at h0
   have HRES:Hid (Zby (ZbR s) U 0=-1):=jd (by rw [← h0]; rfl)
   clear hrk hdr h0
   go_wp2_with fail
   go_ret
   exact ⟨by rw [uh HRES]; rfl,uh HB⟩
set_option maxRecDepth 100000 in
set_option maxHeartbeats 16000000 in
theorem raccv_sx (w:World) (AU:Option Addr) (nU cU:Nat) (AC:Option Addr) (nC cC:Nat) (U:List Usr) (C:List Chn) (hU:UsrL w w.heap.size AU nU U) (hC:ChnL w w.heap.size AC nC C) (hnU:nU≤maxLen) (hnC:nC≤maxLen) (r:Int) (hr:accV U C=r) :
  Calls Tryz.prog 101 #[.agg #[.slice AU nU cU,.slice AC nC cC]] w fun e w'=>e=.returned (.int .i64 r)∧Below w.heap.size w w':=by
 have hlU:=hU.len (by omega)
 have hlC:=hC.len (by omega)
 unfold accV at hr
 rw [hlU,hlC] at hr
 unfold maxLen at hnU hnC
 have HB0:=jd ((Below.refl w.heap.size w).alloc (Nat.le_refl _) (.cells #[.slice AU nU cU,.slice AC nC cC] 33))
 have HK0:=jd (Blk.new w 33 #[.slice AU nU cU,.slice AC nC cC])
 by_cases h8:8 < nU
 ·obtain rfl:3=r:=by rw [← hr]; simp [h8]
  have e1:((8:Int) < (nU:Int))=True:=by simp; omega
  clear hr hU hC hlU hlC
  go_enter Tryz.func101,Tryz.ntmps101
  go_wp2_with fail
  go_ret
  exact ⟨rfl,uh HB0⟩
 have e1:((8:Int) < (nU:Int))=False:=by simp; omega
 by_cases h4:4 < nC
 ·obtain rfl:3=r:=by rw [← hr]; simp [h4]
  have e2:((4:Int) < (nC:Int))=True:=by simp; omega
  clear hr hU hC hlU hlC
  go_enter Tryz.func101,Tryz.ntmps101
  go_wp2_with fail
  go_ret
  exact ⟨rfl,uh HB0⟩
 have e2:((4:Int) < (nC:Int))=False:=by simp; omega
 rw [if_neg (by omega)] at hr
 obtain ⟨E,hE⟩ :∃E,Zbz (errU U) nU 0=E:=⟨_,rfl⟩
 obtain ⟨G,hG⟩ :∃G,Zbz (errC C) nC 0=G:=⟨_,rfl⟩
 rw [hE,hG] at hr
 have HR:=jd hr
 have HE:Hid (Zbz (errU U) (nU - 0) 0=E):=jd hE
 have HG:Hid (Zbz (errC C) (nC - 0) 0=G):=jd hG
 have HU:=jd hU
 have HC:=jd hC
 clear hr hE hG hU hC hlU hlC
 go_enter Tryz.func101,Tryz.ntmps101
 go_wp2_with fail
 go_loopw [3] (fun i wr=>∃ k:Nat,k≤nU∧i=.int .i64 k∧Hid (Zbz (errU U) (nU - k) k=E)∧Hid (Blk wr w.heap.size 33 #[.slice AU nU cU,.slice AC nC cC])∧Hid (Below w.heap.size w wr)) (fun i _=>nU - (intOf i).toNat)
 case atStart=>exact ⟨0,by omega,rfl,HE,HK0,HB0⟩
 case round =>
  obtain ⟨k,hk,rfl,hrk,HK,HB⟩:=hrel
  have d0:wr.cell? ⟨w.heap.size,0,none⟩=some (.slice AU nU cU):=(uh HK).cell 0
  have d1:wr.cell? ⟨w.heap.size,1,none⟩=some (.slice AC nC cC):=(uh HK).cell 1
  by_cases hlt:k < nU
  ·obtain ⟨g,oo,x,hA,hg,hx,hxo,_,hrg⟩:=((uh HU).below (uh HB)).at_ (by omega) hlt
   have hv:=Zdf (errU U) hlt
   have HRK0:Hid (∀ e,errU U k=e→e≠0→r=e):=jd (fun e he hne=>by
    have h1:=uh hrk
    rw [hv,he,if_neg hne] at h1
    rw [← uh HR,← h1,if_neg hne])
   have HRK1:Hid (errU U k=0→Zbz (errU U) (nU - (k+1)) (k+1)=E):=jd (fun he=>by have h1:=uh hrk; rwa [hv,if_pos he] at h1)
   have hprev:k=0∨∃ (kp:Nat) (y:Usr),kp+1=k∧y.Ok∧U[kp]?=some y∧wr.rangeAt g (oo+kp*19) y.cs:=by
    rcases k with _ | kp
    · exact .inl rfl
    ·obtain ⟨g2,oo2,y,hA2,_,hy,hyo,_,hrg2⟩:=((uh HU).below (uh HB)).at_ (by omega) (show kp < nU by omega)
     rw [hA] at hA2
     injection hA2 with hA2
     injection hA2 with e1 e2
     subst e1 e2
     exact .inr ⟨kp,y,rfl,hyo,hy,hrg2⟩
   have HX:=jd hx
   have HXO:=jd hxo
   have HPR:=jd hprev
   have hat:=Usr.range hxo hrg
   have c0:wr.cell? ⟨g,oo+k*19,none⟩=some (.string ⟨x.name.toArray⟩):=hat.name
   have c18:=hat.limit
   have hux:=hxo.name
   have hlt2:(k:Int) < (nU:Int):=by omega
   subst hA
   clear hx hxo hrg hv hat hprev
   obtain ⟨t3,ht3⟩ :∃b,ZbC x.name=b:=⟨_,rfl⟩
   have HNM:=jd ht3
   cases t3
   case false =>
    obtain rfl:r=1:=uh HRK0 1 (by unfold errU; rw [uh HX]; simp [ht3]) (by omega)
    go_wp2_with (first
     | (go_at_call 62; refine (ZaN _ x.name hux _ (uh HNM)).mono ?_; rintro e w' ⟨rfl,rfl⟩)
     | fail)
    go_ret
    exact ⟨rfl,uh HB⟩
   obtain ⟨t4,ht4⟩ :∃b,lvl0 x.limit=b:=⟨_,rfl⟩
   have HLV:=jd ht4
   cases t4
   case false =>
    obtain rfl:r=2:=uh HRK0 2 (by unfold errU; rw [uh HX]; simp [ht3,ht4]) (by omega)
    go_wp2_with (first
     | (go_at_call 62; refine (ZaN _ x.name hux _ (uh HNM)).mono ?_; rintro e w' ⟨rfl,rfl⟩)
     | (go_at_call 112; refine (ZeR _ x.limit _ (uh HLV)).mono ?_; rintro e w' ⟨rfl,rfl⟩)
     | fail)
    go_ret
    exact ⟨rfl,uh HB⟩
   have HT3:=jd ht3
   have HT4:=jd ht4
   clear ht3 ht4
   go_upto_region 10 with (first
     | (go_at_call 62; refine (ZaN _ x.name hux _ (uh HNM)).mono ?_; rintro e w' ⟨rfl,rfl⟩)
     | (go_at_call 112; refine (ZeR _ x.limit _ (uh HLV)).mono ?_; rintro e w' ⟨rfl,rfl⟩)
     | fail)
   rcases uh HPR with hk0 | ⟨kp,y,hkp,hyo,hy,hrgy⟩
   ·have HNX:=jd (uh HRK1 (by unfold errU; rw [uh HX]; subst hk0; simp [uh HT3,uh HT4]))
    have hi0:decide (0 < k)=false:=by simp; omega
    clear hk0
    go_quiet (fail)
    go_wp2_with fail
    go_roundw
    case rel=>exact ⟨k+1,by omega,by go_num,HNX,jd ((uh HK).drewN nq),jd (ZaK (uh HB) nq)⟩
    case measure=>simp [intOf]; omega
   ·have hi0:decide (0 < k)=true:=by simp; omega
    have hm:IntKind.i64.wrap ((k:Int) - 1)=(kp:Int):=by rw [IntWalk.i64_in _ (by omega)]; omega
    have hkn:(kp:Int) < (nU:Int):=by omega
    have y0:wr.cell? ⟨g,oo+kp*19,none⟩=some (.string ⟨y.name.toArray⟩):=(Usr.range hyo hrgy).name
    obtain ⟨q,hq⟩ :∃q,leqL x.name y.name=q:=⟨_,rfl⟩
    have hge:=fun W=>run_geq_str W y.name x.name q hq
    have HERR:Hid (errU U k=if q=true then 7 else 0):=jd (by subst hkp; unfold errU; rw [uh HX]; simp [uh HT3,uh HT4,hy,hq])
    clear hkp hyo hy hrgy hq
    cases q with
    |true =>
     obtain rfl:r=7:=uh HRK0 7 (by rw [uh HERR]; rfl) (by omega)
     go_quiet (fail)
     go_wp2_with fail
     go_ret
     exact ⟨rfl,ZaK (uh HB) nq⟩
    |false =>
     have HNX:=jd (uh HRK1 (by rw [uh HERR]; rfl))
     go_quiet (fail)
     go_wp2_with fail
     go_roundw
     case rel=>exact ⟨k+1,by omega,by go_num,HNX,jd ((uh HK).drewN nq),jd (ZaK (uh HB) nq)⟩
     case measure=>simp [intOf]; omega
  ·obtain rfl:nU=k:=by omega
   have hE0:E=0:=by have:=uh hrk; rw [Nat.sub_self] at this; exact this.symm
   have HRG:Hid (G=r):=jd (by have:=uh HR; rw [hE0,if_pos rfl] at this; exact this)
   clear hrk hE0 HE
   go_wp2_with fail
   go_loopw [4] (fun i wi=>∃ k:Nat,k≤nC∧i=.int .i64 k∧Hid (Zbz (errC C) (nC - k) k=G)∧Hid (Blk wi w.heap.size 33 #[.slice AU nU cU,.slice AC nC cC])∧Hid (Below w.heap.size w wi)) (fun i _=>nC - (intOf i).toNat)
   case atStart=>exact ⟨0,by omega,rfl,HG,HK,HB⟩
   case round =>
    obtain ⟨k,hk,rfl,hrk,HK,HB⟩:=hrel
    have d0:wr.cell? ⟨w.heap.size,0,none⟩=some (.slice AU nU cU):=(uh HK).cell 0
    have d1:wr.cell? ⟨w.heap.size,1,none⟩=some (.slice AC nC cC):=(uh HK).cell 1
    by_cases hlt:k < nC
    ·obtain ⟨g,oo,x,hA,hg,hx,_,_,hrg⟩:=((uh HC).below (uh HB)).at_ (by omega) hlt
     have hv:=Zdf (errC C) hlt
     have HRK0:Hid (∀ e,errC C k=e→e≠0→r=e):=jd (fun e he hne=>by
      have h1:=uh hrk
      rw [hv,he,if_neg hne] at h1
      rw [← uh HRG,← h1])
     have HRK1:Hid (errC C k=0→Zbz (errC C) (nC - (k+1)) (k+1)=G):=jd (fun he=>by have h1:=uh hrk; rwa [hv,if_pos he] at h1)
     have hprev:k=0∨∃ (kp:Nat) (y:Chn),kp+1=k∧C[kp]?=some y∧wr.cell? ⟨g,oo+kp*2,none⟩=some (.int .i64 y.number):=by
      rcases k with _ | kp
      · exact .inl rfl
      ·obtain ⟨g2,oo2,y,hA2,_,hy,_,_,hrg2⟩:=((uh HC).below (uh HB)).at_ (by omega) (show kp < nC by omega)
       rw [hA] at hA2
       injection hA2 with hA2
       injection hA2 with e1 e2
       subst e1 e2
       exact .inr ⟨kp,y,rfl,hy,hrg2 0 _ rfl⟩
     have HX:=jd hx
     have HPR:=jd hprev
     have c0:wr.cell? ⟨g,oo+k*2,none⟩=some (.int .i64 x.number):=hrg 0 _ rfl
     have c1:wr.cell? ⟨g,oo+k*2+1,none⟩=some (.int .i64 x.limit):=hrg 1 _ rfl
     have hlt2:(k:Int) < (nC:Int):=by omega
     subst hA
     clear hx hrg hv hprev
     by_cases h1:x.number < 0
     ·have f1:(x.number < 0)=True:=by simp [h1]
      obtain rfl:r=2:=uh HRK0 2 (by unfold errC; rw [uh HX]; simp [h1]) (by omega)
      clear h1
      go_wp2_with fail
      go_ret
      exact ⟨rfl,uh HB⟩
     have f1:(x.number < 0)=False:=by simp; omega
     by_cases h2:4≤x.number
     ·have f2:(4≤x.number)=True:=by simp [h2]
      obtain rfl:r=2:=uh HRK0 2 (by unfold errC; rw [uh HX]; simp [h2]) (by omega)
      clear h1 h2
      go_wp2_with fail
      go_ret
      exact ⟨rfl,uh HB⟩
     have f2:(4≤x.number)=False:=by simp; omega
     obtain ⟨t4,ht4⟩ :∃b,lvl0 x.limit=b:=⟨_,rfl⟩
     have HLV:=jd ht4
     have HN1:=jd h1
     have HN2:=jd h2
     clear h1 h2
     cases t4
     case false =>
      obtain rfl:r=2:=uh HRK0 2 (by unfold errC; rw [uh HX]; simp [ht4]) (by omega)
      go_wp2_with (first
       | (go_at_call 112; refine (ZeR _ x.limit _ (uh HLV)).mono ?_; rintro e w' ⟨rfl,rfl⟩)
       | fail)
      go_ret
      exact ⟨rfl,uh HB⟩
     have HT4:=jd ht4
     clear ht4
     go_upto_region 17 with (first
       | (go_at_call 112; refine (ZeR _ x.limit _ (uh HLV)).mono ?_; rintro e w' ⟨rfl,rfl⟩)
       | fail)
     have hcond:¬ (x.number < 0∨4≤x.number∨lvl0 x.limit=false):=by
      have:=uh HN1
      have:=uh HN2
      rw [uh HT4]
      simp
      omega
     have HCD:=jd hcond
     clear hcond
     rcases uh HPR with hk0 | ⟨kp,y,hkp,hy,y0⟩
     ·have HNX:=jd (uh HRK1 (by unfold errC; rw [uh HX]; subst hk0; dsimp only; rw [if_neg (uh HCD)]))
      have hi0:decide (0 < k)=false:=by simp; omega
      clear hk0
      go_quiet (fail)
      go_wp2_with fail
      go_roundw
      case rel=>exact ⟨k+1,by omega,by go_num,HNX,jd ((uh HK).drewN nq),jd (ZaK (uh HB) nq)⟩
      case measure=>simp [intOf]; omega
     ·have hi0:decide (0 < k)=true:=by simp; omega
      have hm:IntKind.i64.wrap ((k:Int) - 1)=(kp:Int):=by rw [IntWalk.i64_in _ (by omega)]; omega
      have hkn:(kp:Int) < (nC:Int):=by omega
      have HERR:Hid (errC C k=if x.number≤y.number then 7 else 0):=jd (by subst hkp; unfold errC; rw [uh HX]; dsimp only; rw [if_neg (uh HCD),hy]; simp)
      clear hkp hy
      by_cases h3:x.number≤y.number
      ·obtain rfl:r=7:=uh HRK0 7 (by rw [uh HERR,if_pos h3]) (by omega)
       have f3:(x.number≤y.number)=True:=by simp [h3]
       clear h3
       go_quiet (fail)
       go_wp2_with fail
       go_ret
       exact ⟨rfl,ZaK (uh HB) nq⟩
      ·have HNX:=jd (uh HRK1 (by rw [uh HERR,if_neg h3]))
       have f3:(x.number≤y.number)=False:=by simp; omega
       clear h3
       go_quiet (fail)
       go_wp2_with fail
       go_roundw
       case rel=>exact ⟨k+1,by omega,by go_num,HNX,jd ((uh HK).drewN nq),jd (ZaK (uh HB) nq)⟩
       case measure=>simp [intOf]; omega
    ·obtain rfl:k=nC:=by omega
     have hG0:G=0:=by have:=uh hrk; rw [Nat.sub_self] at this; exact this.symm
     obtain rfl:r=0:=by rw [← uh HRG,hG0]
     clear hrk hG0 HRG HG
     go_wp2_with fail
     go_ret
     exact ⟨rfl,uh HB⟩
theorem Zfl {f:Nat→Int}:∀ (m k:Nat),Zbz f m k=0→∀ j,k≤j→j < k+m→f j=0
 | 0,k,_,j,h1,h2=>by omega
 |m+1,k,h,j,h1,h2=>by
  unfold Zbz at h
  by_cases h0:f k=0
  ·rw [if_pos h0] at h
   by_cases e:j=k
   · subst e; exact h0
   · exact Zfl m (k+1) h j (by omega) (by omega)
  ·rw [if_neg h0] at h
   exact absurd h h0
theorem accV_chn {U:List Usr} {C:List Chn} (h:accV U C=0):∀ k,k < C.length→errC C k=0:=by
 intro k hk
 unfold accV at h
 split at h
 · cases h
 ·by_cases h1:Zbz (errU U) U.length 0=0
  ·rw [if_pos h1] at h
   exact Zfl _ 0 h k (Nat.zero_le _) (by omega)
  ·rw [if_neg h1] at h
   exact absurd h h1
theorem chn_step {U:List Usr} {C:List Chn} (h:accV U C=0) (k:Nat) (p x:Chn) (hp:C[k]?=some p) (hx:C[k+1]?=some x):p.number < x.number:=by
 have hk:=(List.getElem?_eq_some_iff.1 hx).1
 have he:=accV_chn h (k+1) hk
 unfold errC at he
 rw [hx] at he
 dsimp only at he
 split at he
 · cases he
 ·rw [hp] at he
  simp only [Option.map_some,Option.getD_some] at he
  split at he
  · cases he
  ·rename_i h2
   simpa using h2
theorem chn_mono {U:List Usr} {C:List Chn} (h:accV U C=0):∀ (d i:Nat) (p x:Chn),C[i]?=some p→C[i+(d+1)]?=some x→p.number < x.number
 | 0,i,p,x,hp,hx=>chn_step h i p x hp hx
 |d+1,i,p,x,hp,hx=>by
  have hl:=(List.getElem?_eq_some_iff.1 hx).1
  obtain ⟨q,hq⟩ :∃q,C[i+(d+1)]?=some q:=⟨_,List.getElem?_eq_getElem (by omega)⟩
  have h1:=chn_mono h d i p q hp hq
  have h2:=chn_step h (i+(d+1)) q x hq hx
  omega
theorem chn_uniq {U:List Usr} {C:List Chn} (h:accV U C=0) {i j:Nat} {x y:Chn} (hx:C[i]?=some x) (hy:C[j]?=some y) (he:x.number=y.number):i=j:=by
 rcases Nat.lt_trichotomy i j with h1 | h1 | h1
 ·obtain ⟨d,rfl⟩ :∃d,j=i+(d+1):=⟨j - i - 1,by omega⟩
  have:=chn_mono h d i x y hx hy
  omega
 · exact h1
 ·obtain ⟨d,rfl⟩ :∃d,i=j+(d+1):=⟨i - j - 1,by omega⟩
  have:=chn_mono h d j y x hy hx
  omega
def LastC (C:List Chn) (ch:Int) (k:Nat) (z:Int):Prop:=(z=-1∧∀ (j:Nat) (x:Chn),j < k→C[j]?=some x→x.number≠ch)∨∃ (j:Nat) (x:Chn),z=(j:Int)∧j < k∧C[j]?=some x∧x.number=ch
theorem last_find {U:List Usr} {C:List Chn} {ch z:Int} {n:Nat} (h:accV U C=0) (hl:C.length=n) (hz:LastC C ch n z):Zby (ZcC ch) C 0=z:=by
 rcases findA_spec (ZcC ch) C 0 with ⟨e,ha⟩ | ⟨i,x,e,hx,hp⟩
 ·rcases hz with ⟨h1,_⟩ | ⟨j,y,_,_,h3,h4⟩
  · rw [e,h1]
  ·have:=ha y (List.mem_of_getElem? h3)
   unfold ZcC at this
   rw [h4] at this
   simp at this
 ·have hn:x.number=ch:=by simpa [ZcC] using hp
  rcases hz with ⟨_,h2⟩ | ⟨j,y,h1,_,h3,h4⟩
  · exact absurd hn (h2 i x (by have:=(List.getElem?_eq_some_iff.1 hx).1; omega) hx)
  ·obtain rfl:=chn_uniq h hx h3 (by rw [hn,h4])
   rw [e,h1,Nat.zero_add]
set_option maxRecDepth 100000 in
set_option maxHeartbeats 8000000 in
theorem rlimit_sx (w:World) (AU:Option Addr) (nU cU:Nat) (AC:Option Addr) (nC cC:Nat) (U:List Usr) (C:List Chn) (hU:UsrL w w.heap.size AU nU U) (hC:ChnL w w.heap.size AC nC C) (hnU:nU≤maxLen) (hnC:nC≤maxLen) (s:List UInt8) (ch:Int) (l e:Int) (hr:limF U C s ch=(l,e)) :
  Calls Tryz.prog 74 #[.agg #[.slice AU nU cU,.slice AC nC cC],.string ⟨s.toArray⟩,.int .i64 ch] w fun z w'=>z=.returned (.tuple #[.int .i64 l,.int .i64 e])∧Below w.heap.size w w':=by
 have HU0:=jd hU
 have HC0:=jd hC
 have HR:=jd hr
 have K0:=jd (Blk.new w 33 #[.slice AU nU cU,.slice AC nC cC])
 have B0:=jd ((Below.refl w.heap.size w).alloc (Nat.le_refl _) (.cells #[.slice AU nU cU,.slice AC nC cC] 33))
 have HU:=jd ((hU.below (uh B0)).more (uh B0).size)
 have HC:=jd ((hC.below (uh B0)).more (uh B0).size)
 obtain ⟨v,hv⟩ :∃v,accV U C=v:=⟨_,rfl⟩
 have HV:=jd hv
 have hbU:=hU.len (by omega)
 clear hU hC hr hv
 go_enter Tryz.func74,Tryz.ntmps74
 go_wp2_with (first
  | (refine wpList_load_row rfl 33 _ rfl w.heap.size rfl 33 _ _ _ (uh K0) Tryz.underlying33 rfl (by kernel_rfl) ?_)
  | fail)
 refine (raccv_sx _ AU nU cU AC nC cC U C (uh HU) (uh HC) hnU hnC v (uh HV)).mono ?_
 rintro z w2 ⟨rfl,hb2⟩
 have K2:=jd ((uh K0).below hb2 (uh K0).lt)
 have B2:=jd ((uh B0).trans (hb2.mono (uh B0).size))
 have HU2:=jd ((uh HU0).below (uh B2))
 have HC2:=jd ((uh HC0).below (uh B2))
 clear hb2
 by_cases hv0:v=0
 case neg =>
  have h:=uh HR
  unfold limF at h
  rw [uh HV,if_pos hv0] at h
  injection h with h1 h2
  subst h1 h2
  have hvb:(v != 0)=true:=by simpa using hv0
  clear hv0
  go_wp2_with fail
  go_ret2
  exact ⟨rfl,uh B2⟩
 have hvb:(v != 0)=false:=by simpa using hv0
 have HV0:=jd hv0
 clear hv0
 go_wp2_with (first
  | (refine wpList_load_row rfl 33 _ rfl w.heap.size rfl 33 _ _ _ (uh K2) Tryz.underlying33 rfl (by kernel_rfl) ?_)
  | fail)
 refine (Zd8 w2 AU nU cU _ U ((uh HU2).more (uh B2).size) hnU s).mono ?_
 rintro z w3 ⟨rfl,hb3⟩
 have K3:=jd ((uh K2).below hb3 (uh K2).lt)
 have B3:=jd ((uh B2).trans (hb3.mono (uh B2).size))
 have HU3:=jd ((uh HU0).below (uh B3))
 have HC3:=jd ((uh HC0).below (uh B3))
 clear hb3
 obtain ⟨i,hi⟩ :∃i,Zby (ZbR s) U 0=i:=⟨_,rfl⟩
 rw [hi]
 have HI:=jd hi
 clear hi
 have hcm:(nC:Int)≤9223372036854775807:=by unfold maxLen at hnC; omega
 go_wp2_with fail
 go_loopw [10,11] (fun cv iv wr=>∃ (k:Nat) (z:Int),k≤nC∧iv=.int .i64 k∧cv=.int .i64 z∧Hid (LastC C ch k z)∧Hid (Blk wr w.heap.size 33 #[.slice AU nU cU,.slice AC nC cC])∧Hid (Below w.heap.size w wr)) (fun _ iv _=>nC - (intOf iv).toNat)
 case atStart=>exact ⟨0,-1,by omega,rfl,rfl,jd (.inl ⟨rfl,fun j x h=>by omega⟩),K3,B3⟩
 case round =>
 obtain ⟨kc,z,hkc,rfl,rfl,hlast,K4,B4⟩:=hrel
 have dq:wr.cell? ⟨w.heap.size,1,none⟩=some (.slice AC nC cC):=(uh K4).cell 1
 by_cases hlt:kc < nC
 ·obtain ⟨g,oo,x,hA,hg,hx,_,_,hrg⟩:=((uh HC0).below (uh B4)).at_ (by omega) hlt
  have c0:wr.cell? ⟨g,oo+kc*2,none⟩=some (.int .i64 x.number):=hrg 0 _ rfl
  have hlt2:(kc:Int) < (nC:Int):=by omega
  subst hA
  by_cases hn:x.number=ch
  ·have HL:Hid (LastC C ch (kc+1) (kc:Int)):=jd (.inr ⟨kc,x,rfl,Nat.lt_succ_self _,hx,hn⟩)
   have eqn:(x.number==ch)=true:=by simpa using hn
   clear hx hrg hn hlast
   go_wp2_with fail
   go_roundw
   case rel=>exact ⟨kc+1,kc,by omega,by go_num,rfl,HL,K4,B4⟩
   case measure=>simp [intOf]; omega
  ·have HL:Hid (LastC C ch (kc+1) z):=jd (by
    rcases uh hlast with ⟨h1,h2⟩ | ⟨j,y,h1,h2,h3,h4⟩
    ·refine .inl ⟨h1,fun j y hj hy=>?_⟩
     by_cases e:j=kc
     ·subst e
      obtain rfl:x=y:=Option.some.inj (hx.symm.trans hy)
      exact hn
     · exact h2 j y (by omega) hy
    · exact .inr ⟨j,y,h1,by omega,h3,h4⟩)
   have eqn:(x.number==ch)=false:=by simpa using hn
   clear hx hrg hn hlast
   go_wp2_with fail
   go_roundw
   case rel=>exact ⟨kc+1,z,by omega,by go_num,rfl,HL,K4,B4⟩
   case measure=>simp [intOf]; omega
 obtain rfl:nC=kc:=by omega
 have hz:Zby (ZcC ch) C 0=z:=last_find (by rw [uh HV,uh HV0]) ((uh HC0).len (by omega)) (uh hlast)
 have HKK:=jd hz
 clear hz hlast hlt
 have HU4:=jd ((uh HU0).below (uh B4))
 have HC4:=jd ((uh HC0).below (uh B4))
 have hlim:(l,e)=(match U.find? (ZbR s),C.find? (ZcC ch) with
  | some u,some c=>if u.on=false then (0,43) else (min u.limit c.limit,0)
  | _,_=>(0,8)):=by have h:=uh HR; unfold limF at h; rw [uh HV,uh HV0] at h; exact h.symm
 have HLIM:=jd hlim
 clear hlim
 rcases Zcw (ZbR s) U 0 with ⟨e1,f1⟩ | ⟨iu,u,e1,hu,f1⟩
 ·obtain rfl:i=-1:=by rw [← uh HI,e1]
  have h:=uh HLIM
  rw [f1] at h
  injection h with h1 h2
  subst h1 h2
  clear e1 f1
  go_wp2_with fail
  go_ret2
  exact ⟨rfl,uh B4⟩
 obtain rfl:i=(iu:Int):=by rw [← uh HI,e1,Nat.zero_add]
 have hiu:=(List.getElem?_eq_some_iff.1 hu).1
 have hi0:((iu:Int) < 0)=False:=by simp
 have hi0b:(0:Int)≤(iu:Int):=by omega
 have hil:(iu:Int) < (nU:Int):=by omega
 rcases Zcw (ZcC ch) C 0 with ⟨e2,f2⟩ | ⟨ic,x,e2,hx,f2⟩
 ·obtain rfl:z=-1:=by rw [← uh HKK,e2]
  have h:=uh HLIM
  rw [f1,f2] at h
  injection h with h1 h2
  subst h1 h2
  clear e1 f1 e2 f2 hu
  go_wp2_with fail
  go_ret2
  exact ⟨rfl,uh B4⟩
 obtain rfl:z=(ic:Int):=by rw [← uh HKK,e2,Nat.zero_add]
 have hic:=(List.getElem?_eq_some_iff.1 hx).1
 have hcl:=(uh HC4).len (by omega)
 have hk0:((ic:Int) < 0)=False:=by simp
 have hk0b:(0:Int)≤(ic:Int):=by omega
 have hkl:(ic:Int) < (nC:Int):=by omega
 obtain ⟨g,oo,u',hA,hg,hu',huo,_,hru⟩:=(uh HU4).at_ (k:=iu) (by omega) (by omega)
 obtain ⟨g',oo',x',hA',hg',hx',_,_,hrx⟩:=(uh HC4).at_ (k:=ic) (by omega) (by omega)
 obtain rfl:u=u':=Option.some.inj (hu.symm.trans hu')
 obtain rfl:x=x':=Option.some.inj (hx.symm.trans hx')
 have cu17:=(Usr.range huo hru).on
 have cu18:=(Usr.range huo hru).limit
 have cx1:wr.cell? ⟨g',oo'+ic*2+1,none⟩=some (.int .i64 x.limit):=hrx 1 _ rfl
 have d0:wr.cell? ⟨w.heap.size,0,none⟩=some (.slice AU nU cU):=(uh K4).cell 0
 have d1:wr.cell? ⟨w.heap.size,1,none⟩=some (.slice AC nC cC):=(uh K4).cell 1
 have hgw:g < wr.heap.size:=Nat.lt_of_lt_of_le hg (uh B4).size
 have hgw':g' < wr.heap.size:=Nat.lt_of_lt_of_le hg' (uh B4).size
 have h:=uh HLIM
 rw [f1,f2] at h
 dsimp only at h
 have HH:=jd h
 subst hA hA'
 have hbU2:=hbU
 clear h e1 f1 e2 f2 hu hx hu' hx' hru hrx huo hbU hcl
 obtain ⟨t,ht⟩ :∃t,u.on=t:=⟨_,rfl⟩
 rw [ht] at cu17
 have HT:=jd ht
 clear ht
 cases t with
 |false =>
  have h:=uh HH
  rw [if_pos (uh HT)] at h
  injection h with h1 h2
  subst h1 h2
  go_wp2_with fail
  go_ret2
  exact ⟨rfl,uh B4⟩
 |true =>
  have h:=uh HH
  rw [if_neg (by rw [uh HT]; simp)] at h
  injection h with h1 h2
  subst h1 h2
  have CU:=jd (fun W (hW:Below wr.heap.size wr W)=>(hW.cell (p:=⟨g,oo+iu*19+18,none⟩) hgw).trans cu18)
  have CX:=jd (fun W (hW:Below wr.heap.size wr W)=>(hW.cell (p:=⟨g',oo'+ic*2+1,none⟩) hgw').trans cx1)
  have CD0:=jd (fun W (hW:Below wr.heap.size wr W)=>(hW.cell (p:=⟨w.heap.size,0,none⟩) (uh K4).lt).trans d0)
  have CD1:=jd (fun W (hW:Below wr.heap.size wr W)=>(hW.cell (p:=⟨w.heap.size,1,none⟩) (uh K4).lt).trans d1)
  go_upto_region 14 with fail
  clear cu17 cu18 cx1 d0 d1
  have hS0:Below wr.heap.size wr wr.drew:=(Below.refl _ _).drew
  refine wp_region_noPanic (wp_region_held_drew (S:=fun wz=>Below wr.heap.size wr wz) (by kernel_rfl) hS0 (fun _=>?_))
  refine tq 0 rfl hS0 ?_
  refine tJz (v:=.slice (some ⟨g,oo,none⟩) nU cU) 1 rfl (Or.inl ⟨by rfl,fun wz hSw=>?_⟩) hS0 ?_
  ·have hq:=uh CD0 wz hSw
   go_simp
  refine tq 2 rfl hS0 ?_
  refine tq 3 rfl hS0 ?_
  refine tq 4 rfl hS0 ?_
  refine tJz (v:=.int .i64 u.limit) 5 rfl (Or.inl ⟨by rfl,fun wz hSw=>?_⟩) hS0 ?_
  ·have hq:=uh CU wz hSw
   go_simp
  refine tq 6 rfl hS0 ?_
  refine tJz (v:=.slice (some ⟨g',oo',none⟩) nC cC) 7 rfl (Or.inl ⟨by rfl,fun wz hSw=>?_⟩) hS0 ?_
  ·have hq:=uh CD1 wz hSw
   go_simp
  refine tq 8 rfl hS0 ?_
  refine tq 9 rfl hS0 ?_
  refine tq 10 rfl hS0 ?_
  refine tJz (v:=.int .i64 x.limit) 11 rfl (Or.inl ⟨by rfl,fun wz hSw=>?_⟩) hS0 ?_
  ·have hq:=uh CX wz hSw
   go_simp
  refine tJz (v:=.int .i64 (min u.limit x.limit)) 12 rfl (Or.inl ⟨by rfl,fun wz hSw=>?_⟩) hS0 ?_
  ·have hmin:=min_if u.limit x.limit
   go_simp
  refine tq 13 rfl hS0 ?_
  refine tq 14 rfl hS0 ?_
  refine tDz ?_
  have B5:=jd (uh B4).drew
  clear hS0
  go_wp2_with fail
  go_ret2
  exact ⟨rfl,uh B5⟩
end Go.Proofs.YtfbkkmnkpjgciaaGreat
