/- Joined of SSend SClose. No condition. -/
import Derived.Test.YtfbkkmnkpjgciaaGreatPG30
import Derived.Test.YtfbkkmnkpjgciaaGreatPG10
import Derived.Laws.OwnMore
namespace Go.Proofs.YtfbkkmnkpjgciaaGreat
open Go.RowKit
theorem kind_sendS (kb:UInt8) (n:Nat) (out:Int):ZeK (kb.toNat:Int) n out=if Zb6 kb=false then 2 else if 256 < n∨out=4294967295 then 3 else 0:=by
 have h:(Zb6 kb=false)↔((kb.toNat:Int)≠0∧(kb.toNat:Int)≠1):=by
  unfold Zb6
  simp only [Bool.or_eq_false_iff,beq_eq_false_iff_ne]
  constructor
  ·rintro ⟨p,q⟩
   exact ⟨fun e=>p (UInt8.toNat_inj.1 (by simpa using e)),fun e=>q (UInt8.toNat_inj.1 (by show kb.toNat=1; omega))⟩
  ·rintro ⟨p,q⟩
   exact ⟨fun e=>p (by rw [e]; rfl),fun e=>q (by rw [e]; rfl)⟩
 unfold ZeK
 by_cases hk:Zb6 kb=false
 · rw [if_pos (h.1 hk),if_pos hk]
 · rw [if_neg (fun x=>hk (h.2 x)),if_neg hk]
set_option maxRecDepth 100000 in
set_option maxHeartbeats 16000000 in
theorem send_sx (w:World) (A:Option Addr) (n c:Nat) (L:List Sess) (nx:Nat) (hS:ZaA w w.heap.size A n L) (hn:n≤1000) (hnx:nx < 4294967296) (id:Nat) (_hid:id < 4294967296)
  (kb:UInt8) (Ad:Option Addr) (nd cd:Nat) (data:List UInt8) (hd:Zaj w w.heap.size 1 Ad nd (bsV data)) (hdc:nd≤cd) (hdm:cd≤maxLen) (r:SRes) (hr:Zc5 L nx id kb data=r) :
  Calls Tryz.prog 33 #[.agg #[.slice A n c,.int .u32 (nx:Int)],.int .u32 (id:Int),.int .i64 (kb.toNat:Int),.slice Ad nd cd] w (ZaH w r):=by
 obtain ⟨W1,hW1⟩ :∃W1,(w.alloc (.cells #[.slice A n c,.int .u32 (nx:Int)] 29)).alloc (.cells #[.slice none 0 0,.int .u32 0] 29)=W1:=⟨_,rfl⟩
 have K0:Hid (Blk W1 w.heap.size 29 #[.slice A n c,.int .u32 (nx:Int)]):=jd (hW1 ▸ ((Blk.new w _ _).alloc _))
 have K2:Hid (Blk W1 (w.heap.size+1) 29 #[.slice none 0 0,.int .u32 0]):=jd (hW1 ▸ (Blk.new' (by simp)))
 have B1:Hid (Below w.heap.size w W1):=jd (hW1 ▸ ((Below.refl _ _).alloc (Nat.le_refl _) _).alloc (by rw [Zae]; omega) _)
 have HS:=jd hS
 have HDD:=jd hd
 have HR:=jd hr
 have hld:data.length=nd:=by have:=hd.1; simpa [bsV] using this
 have HLD:=jd hld
 have HDC:=jd hdc
 have HDM:=jd hdm
 have EGC':=jd (ZaO Tryz.func54 (by kernel_rfl) rfl)
 have hnd:(nd:Int)≤9223372036854775807:=by unfold maxLen at hdm; omega
 obtain ⟨t1,ht1⟩ :∃t,ZaS L nx=t:=⟨_,rfl⟩
 have HT1:=jd ht1
 clear hS hd hr hld hdc hdm ht1
 go_enter Tryz.func33,Tryz.ntmps33
 go_wp2_with (first
  | (refine wpList_load_row rfl 29 _ rfl w.heap.size rfl 29 _ _ _ (uh K0) Tryz.underlying29 rfl (by kernel_rfl) ?_)
  | fail)
 have hw1:w.heap.size+1 < W1.heap.size:=(uh K2).lt
 refine (Zdb W1 A n c L nx (((uh HS).below (uh B1)).more (uh B1).size) (by unfold maxLen; omega) hnx t1 (uh HT1)).mono ?_
 rintro e w2 ⟨rfl,hb2⟩
 have J0:=jd ((uh K0).below hb2 (uh K0).lt)
 have J2:=jd ((uh K2).below hb2 (uh K2).lt)
 have X2:=jd ((uh B1).trans (hb2.mono (uh B1).size))
 have hs2:w.heap.size+1 < w2.heap.size:=(uh J2).lt
 clear hb2
 cases t1
 case false =>
  have hrr:=uh HR
  unfold Zc5 at hrr
  rw [if_pos (uh HT1)] at hrr
  subst hrr
  clear HR
  go_wp2_with (first
   | (refine Zab rfl 29 _ rfl [] rfl _ Zan ?_)
   | (refine Zaa rfl 29 (.tmp 8) (.tmp 18) rfl (w.heap.size+1) 29 _ #[.slice none 0 0,.int .u32 0] rfl rfl (uh J2) rfl (by kernel_rfl) (oZz rfl rfl) ?_
      intro w9 hb9 hg9
      have Z9:=jd hb9
      have E9:=jd (gWz (uh X2) hg9)
      clear hb9 hg9)
   | fail)
  exact rSz rfl rfl rfl rfl (uh Z9) (uh E9)
 have hrr:=uh HR
 unfold Zc5 at hrr
 rw [if_neg (by rw [uh HT1]; simp)] at hrr
 have HR2:=jd hrr
 clear hrr HR
 obtain ⟨fi,hfi⟩ :∃i,Zbl (idP id) L 0=i:=⟨_,rfl⟩
 have HFI:=jd hfi
 clear hfi
 go_wp2_with (first
  | (refine wpList_load_row rfl 29 _ rfl w.heap.size rfl 29 _ _ _ (uh J0) Tryz.underlying29 rfl (by kernel_rfl) ?_)
  | fail)
 refine (Zfq w2 A n c L _ (((uh HS).below (uh X2)).more (uh X2).size) (by unfold maxLen; omega) id).mono ?_
 rintro e w3 ⟨rfl,hb3⟩
 rw [uh HFI]
 have M0:=jd ((uh J0).below hb3 (uh J0).lt)
 have M2:=jd ((uh J2).below hb3 (uh J2).lt)
 have X3:=jd ((uh X2).trans (hb3.mono (uh X2).size))
 have hs3:w2.heap.size≤w3.heap.size:=hb3.size
 clear hb3
 rcases Za8 (idP id) L 0 with ⟨e1,f1⟩ | ⟨i,x,e1,f1,hx,hpx⟩
 ·obtain rfl:fi=-1:=by rw [← uh HFI,e1]
  have hf1:=jd f1
  clear e1 f1
  have hrr:=uh HR2
  rw [uh hf1] at hrr
  dsimp only at hrr
  subst hrr
  clear HR2
  go_wp2_with (first
   | (refine Zab rfl 29 _ rfl [] rfl _ Zan ?_)
   | (refine Zaa rfl 29 (.tmp 8) (.tmp 33) rfl (w.heap.size+1) 29 _ #[.slice none 0 0,.int .u32 0] rfl rfl (uh M2) rfl (by kernel_rfl) (oZz rfl rfl) ?_
      intro w9 hb9 hg9
      have Z9:=jd hb9
      have E9:=jd (gWz (uh X3) hg9)
      clear hb9 hg9)
   | fail)
  exact rSz rfl rfl rfl rfl (uh Z9) (uh E9)
 rw [Nat.zero_add] at e1 f1
 obtain rfl:fi=(i:Int):=by rw [← uh HFI,e1]
 have hrr:=uh HR2
 rw [f1] at hrr
 dsimp only at hrr
 have HR3:=jd hrr
 have hin:i < n:=by have:=(List.getElem?_eq_some_iff.1 hx).1; have:=(uh HS).len; omega
 obtain ⟨g,oo,x',hA,hg,hx',hxo,hrg⟩:=((uh HS).below (uh X3)).at_ hin
 obtain rfl:x'=x:=by rw [hx] at hx'; injection hx' with h; exact h.symm
 subst hA
 have hat:=Sess.range hxo hrg
 have c21:=hat.opn
 have c24:=hat.out
 have hi0:((i:Int) < 0)=False:=by simp
 have hi0b:(0:Int)≤(i:Int):=by omega
 have hiz:(i:Int) < (n:Int):=by omega
 have hxid:x'.id=id:=by simpa [idP] using hpx
 have hxl:=hxo.out
 have HX:=jd hx
 have HXO:=jd hxo
 have HXID:=jd hxid
 have D0:=(uh M0).cell 0
 clear hrr HR2 e1 f1 hx hx' hxo hat hrg hpx hxid
 obtain ⟨t3,ht3⟩ :∃t,x'.opn=t:=⟨_,rfl⟩
 rw [ht3] at c21
 have HT3:=jd ht3
 clear ht3
 simp only [List.getElem?_toArray,List.getElem?_cons_zero] at D0
 cases t3
 case false =>
  have hrr:=uh HR3
  rw [if_pos (uh HT3)] at hrr
  subst hrr
  clear HR3
  go_wp2_with (first
   | (refine Zab rfl 29 _ rfl [] rfl _ Zan ?_)
   | (refine Zaa rfl 29 (.tmp 8) (.tmp 33) rfl (w.heap.size+1) 29 _ #[.slice none 0 0,.int .u32 0] rfl rfl (uh M2) rfl (by kernel_rfl) (oZz rfl rfl) ?_
      intro w9 hb9 hg9
      have Z9:=jd hb9
      have E9:=jd (gWz (uh X3) hg9)
      clear hb9 hg9)
   | fail)
  exact rSz rfl rfl rfl rfl (uh Z9) (uh E9)
 obtain ⟨xe,hxe⟩ :∃x,ZeK (kb.toNat:Int) nd (x'.out:Int)=x:=⟨_,rfl⟩
 have HXE:=jd hxe
 clear hxe
 by_cases hx0:xe=0
 case neg =>
  have f1:(xe != 0)=true:=by simpa using hx0
  have hrr:=uh HR3
  have hk:=uh HXE
  rw [kind_sendS] at hk
  rw [if_neg (by rw [uh HT3]; simp)] at hrr
  have hq:badS xe=r:=by
   rw [← hrr,← hk]
   split
   · rfl
   · have e:(256 < data.length∨x'.out=4294967295)↔(256 < nd∨(x'.out:Int)=4294967295):=by rw [uh HLD]; omega
     by_cases h:256 < nd∨(x'.out:Int)=4294967295
     · rw [if_pos h,if_pos (e.2 h)]
     · exfalso
       apply hx0
       rw [← hk,if_neg (by assumption),if_neg h]
  clear hrr hk
  subst hq
  have HX0:=jd hx0
  clear hx0
  go_wp2_with (first
   | (refine Zab rfl 29 _ rfl [] rfl _ Zan ?_)
   | (refine Zaa rfl 29 (.tmp 8) (.tmp 45) rfl (w.heap.size+1) 29 _ #[.slice none 0 0,.int .u32 0] rfl rfl (uh M2) rfl (by kernel_rfl) (oZz rfl rfl) ?_
      intro w9 hb9 hg9
      have Z9:=jd hb9
      have E9:=jd (gWz (uh X3) hg9)
      clear hb9 hg9)
   | (go_at_call 86; refine (ZdS _ (kb.toNat:Int) _ nd cd (x'.out:Int) _ (uh HXE)).mono ?_; rintro e w' ⟨rfl,rfl⟩)
   | fail)
  exact bodyPost_ret (v:=.tuple #[.agg #[.slice none 0 0,.int .u32 0],.slice none 0 0,.int .i64 xe]) (Za4 rfl _ (w.heap.size+1) 29 _ _ _ _ rfl rfl rfl (uh Z9) Tryz.underlying29 rfl (by kernel_rfl)) rfl (ZaH.bad (uh HX0) rfl (uh E9))
 subst hx0
 have hk2:=uh HXE
 rw [kind_sendS] at hk2
 have hkb:Zb6 kb=true:=by
  cases hh:Zb6 kb
  · rw [if_pos hh] at hk2; exact absurd hk2 (by decide)
  · rfl
 have hnn:¬ (256 < nd∨(x'.out:Int)=4294967295):=by
  intro h
  rw [if_neg (by rw [hkb]; simp),if_pos h] at hk2
  exact absurd hk2 (by decide)
 have hrr:=uh HR3
 rw [if_neg (by rw [uh HT3]; simp),if_neg (by rw [hkb]; simp),if_neg (by rw [uh HLD]; omega)] at hrr
 have HR4:=jd hrr
 have hol:x'.out < 4294967295:=by omega
 have hnd256:nd≤256:=by omega
 clear hrr HR3 hk2 hkb hnn
 go_upto_region 9 with (first
  | (go_at_call 86; refine (ZdS _ (kb.toNat:Int) _ nd cd (x'.out:Int) _ (uh HXE)).mono ?_; rintro e w' ⟨rfl,rfl⟩)
  | fail)
 clear c21 c24 D0
 have D0:=jd (fun W (hW:Below w3.heap.size w3 W)=>(hW.cell (p:=⟨w.heap.size,0,none⟩) (uh M0).lt).trans ((uh M0).cell 0))
 have D1:=jd (fun W (hW:Below w3.heap.size w3 W)=>(hW.cell (p:=⟨w.heap.size,1,none⟩) (uh M0).lt).trans ((uh M0).cell 1))
 have HS3:=jd (((uh HS).below (uh X3)).more (uh X3).size)
 have hS0:Below w3.heap.size w3 w3.drew:=(Below.refl _ _).drew
 refine wp_region_noPanic (wp_region_held_drew (S:=fun wz=>Below w3.heap.size w3 wz) (by kernel_rfl) hS0 (fun _=>?_))
 refine tq 0 rfl hS0 ?_
 refine tJz (v:=.slice (some ⟨g,oo,none⟩) n c) 1 rfl (Or.inl ⟨by rfl,fun wz hSw=>?_⟩) hS0 ?_
 ·have hq:=uh D0 wz hSw
  simp only [List.getElem?_toArray,List.getElem?_cons_zero] at hq
  go_simp
 refine tq 3 rfl hS0 ?_
 refine tJz (v:=.int .u32 (nx:Int)) 4 rfl (Or.inl ⟨by rfl,fun wz hSw=>?_⟩) hS0 ?_
 ·have hq:=uh D1 wz hSw
  simp only [List.getElem?_toArray,List.getElem?_cons_succ,List.getElem?_cons_zero] at hq
  go_simp
 refine ZbH (ExpR w3.heap.size n L nx) w3 [2,5,6] #[true,true,true,true,true,true,true,false] [(2,some 49),(5,some 52),(6,some 13)] 80 1 (by kernel_rfl) rfl ExpR.keep (fun _ h=>h) hS0 ⟨?_,?_,?_,trivial⟩ ?_ rfl
 ·intro a wa hBa hout hin
  have e:a.eval (.tmp 48)=.slice (some ⟨g,oo,none⟩) n c:=hout 48 (by kernel_rfl)
  refine ZaI [.slice (some ⟨g,oo,none⟩) n c] rfl rfl rfl rfl (uh EGC') ?_ ?_
  ·show [a.eval (.tmp 48)]=_
   rw [e]
  · exact (clone_s wa _ n c L (((uh HS3).below hBa).more hBa.size) hn).mono fun e w' ⟨v,he,ho,hb⟩=>⟨v,he,hb,Zak ho hBa.size⟩
 ·intro a wa hBa hout hin
  have h2:wa.ownsRow w3.heap.size 50 26 (a.eval (.tmp 49)) n (Zat L):=hin 2 49 (by kernel_rfl)
  have e10:a.eval (.tmp 51)=.int .u32 (nx:Int):=hout 51 (by kernel_rfl)
  obtain ⟨A8,c8,e8,_,_⟩:=Zac h2
  rw [e8] at h2
  refine ZaF rfl rfl (v:=.agg #[.slice A8 n c8,.int .u32 (nx:Int)]) (w':=wa) ?_ ⟨Below.refl _ _,_,rfl,h2⟩
  simp [execOp,e8,e10,bld_sl]
 ·intro a wa hBa hout hin
  refine ZaF rfl rfl (v:=.pointer (some ⟨wa.heap.size,0,none⟩)) (w':=wa.alloc (.cells #[.slice none 0 0,.int .u32 0] 29)) ?_ ⟨(Below.refl _ _).alloc (Nat.le_refl _) _,wa.heap.size,rfl,Blk.new _ _ _,hBa.size⟩
  simp [execOp,ZaB]
 intro vals ww hBw hRw
 simp only [puts,Act.put,zA,zB,zC]
 obtain ⟨d,e5,ho5⟩ :∃d,vals 5=.agg #[d,.int .u32 (nx:Int)]∧ww.ownsRow w3.heap.size 50 26 d n (Zat L):=hRw 5 (by rfl)
 obtain ⟨g13,e6,hb6,hg6⟩ :∃g,vals 6=.pointer (some ⟨g,0,none⟩)∧Blk ww g 29 #[.slice none 0 0,.int .u32 0]∧w3.heap.size≤g:=hRw 6 (by rfl)
 rw [e5,e6]
 clear e5 e6 hRw
 refine tOz 7 rfl fun K hK=>?_
 refine Zaf (by rfl) 29 (.tmp 13) (.tmp 52) rfl g13 29 _ #[d,.int .u32 (nx:Int)] rfl rfl hb6 rfl (by kernel_rfl) (by obtain ⟨_,_,e,_,_⟩:=Zac ho5; subst e; intro v hv; simp at hv; rcases hv with rfl | rfl<;>rfl) ?_
 intro w5 hb5 hg5
 have hS2:Below w3.heap.size w3 w5:=hBw.grown hg5 hBw.size (fun j e=>by injection e with e; omega)
 have ho2:w5.ownsRow w3.heap.size 50 26 d n (Zat L):=World.ownsRow.kept ho5 hg5 (.inr (Zad ho5 hb6 (by decide)))
 refine hK.out _ _ hS2 (fun _=>?_)
 clear hK K
 try simp only [Act.put]
 refine tDz ?_
 have hLn:L.length=n:=(uh HS).len
 obtain ⟨gr,c4,cur,hv4,hgb,hrow,hml⟩:=RowM.of_own ho2 (uh HS).ok (by omega)
 subst hv4
 obtain ⟨ok1,hset1⟩:(Zc2 x').Ok∧x'.cs.take 24++[.int .u32 ((x'.out+1:Nat):Int)]++x'.cs.drop (24+[Value.int .u32 ((x'.out+1:Nat):Int)].length)=(Zc2 x').cs :=
  ⟨⟨(uh HXO).id,(uh HXO).user,(uh HXO).client,(uh HXO).server,(uh HXO).key,(uh HXO).hi,(uh HXO).se,by show x'.out+1 < 4294967296; omega⟩,Sess.set_out (uh HXO) (x'.out+1)⟩
 have P3:=jd hb5
 have P2:=jd ((uh M2).below hS2 (uh M2).lt)
 have X5:=jd ((uh X3).trans (hS2.mono (uh X3).size))
 have ROW5:=jd hrow
 have HOK1:=jd ok1
 have HSET1:=jd hset1
 have HLN:=jd hLn
 have hs5:w3.heap.size≤w5.heap.size:=hS2.size
 have hg13w:w.heap.size+1 < g13:=by omega
 have hgrw:w.heap.size+1 < gr:=by omega
 clear ho2 ho5 hb5 hb6 hg5 hS2 hS0 hBw hrow ok1 hset1 hLn D0 D1
 have d0:w5.cell? ⟨g13,0,none⟩=some (.slice (some ⟨gr,0,none⟩) n c4):=(uh P3).cell 0
 have e24:w5.cell? ⟨gr,i*26+24,none⟩=some (.int .u32 (x'.out:Int)):=(Sess.range (uh HXO) ((uh ROW5).range (uh HS).ok (uh HX))).out
 have hw32:IntKind.u32.wrap ((x'.out:Int)+1)=((x'.out+1:Nat):Int):=by rw [IntKind.wrap_u32]; omega
 have hcs:cur.size=c4*26:=(uh ROW5).size
 have hlec:n≤c4:=by have:=(uh ROW5).le; have:=uh HLN; omega
 have HCS:=jd hcs
 clear hcs
 go_upto_region 12 with (first
  |(refine Zal rfl 27 (.tmp 63) (.tmp 61) rfl gr (i*26+24) 50 cur (.int .u32 ((x'.out+1:Nat):Int)) [.int .u32 ((x'.out+1:Nat):Int)] _ rfl rfl (uh ROW5).blk rfl (by rw [uh HCS]; simp; omega) (by kernel_rfl) (by intro u hu; simp at hu; subst hu; rfl) rfl ?_
    intro w6 hb hg
    have ROW6:=jd (RowM.part (i:=i) (j:=24) (uh ROW5) (uh HS).ok (uh HX) (uh HOK1) (uh HSET1) (by simp) hb)
    have Q3:=jd ((uh P3).grown hg (fun e=>(uh P3).ne_ (uh ROW5).blk (by decide) (by injection e)))
    have Q2:=jd ((uh P2).grown hg (fun e=>(uh P2).ne_ (uh ROW5).blk (by decide) (by injection e)))
    have X6:=jd (gWz (uh X5) hg)
    have hs6:w5.heap.size≤w6.heap.size:=hg.size
    clear hb hg
    try simp only [Act.put])
  | fail)
 clear d0 e24
 have hok6:ZaE (L.set i (Zc2 x')):=ZaE.set (uh HS).ok (uh HOK1)
 have HOK6:=jd hok6
 have HX6:Hid ((L.set i (Zc2 x'))[i]?=some (Zc2 x')):=jd (List.getElem?_set_self (by rw [uh HLN]; exact hin))
 obtain ⟨cur6,ROWB⟩ :∃cur6,Hid (RowM w6 gr c4 (L.set i (Zc2 x')) cur6):=⟨_,ROW6⟩
 have HAT:Hid (∀ wz,Blk wz gr 50 cur6→wz.rangeAt gr (i*26) (Zc2 x').cs):=jd fun wz hb=>RowM.range ⟨hb,(uh ROWB).size,(uh ROWB).le,(uh ROWB).cap,(uh ROWB).take⟩ (uh HOK6) (uh HX6)
 have HKI:=jd (ZaV x'.key (uh HXO).key)
 have HKR:Hid (∀ wz,(Blk wz g13 29 #[.slice (some ⟨gr,0,none⟩) n c4,.int .u32 (nx:Int)]∧Blk wz gr 50 cur6∧Below w.heap.size w wz)→wz.rangeAt gr (i*26+5) (bsV x'.key)):=jd fun wz hz j v hv=>by rw [Nat.add_assoc]; exact (Sess.range (uh HOK1) (uh HAT wz hz.2.1)).key j v hv
 obtain ⟨dk,hdk,hdr⟩:=Za5
 have HDK:=jd hdk
 have HDR:=jd hdr
 clear hok6 ROW6 hdk hdr
 have hB0:Below w6.heap.size w6 w6.drew:=(Below.refl _ _).drew
 have hS0:(fun wz=>Blk wz g13 29 #[.slice (some ⟨gr,0,none⟩) n c4,.int .u32 (nx:Int)]∧Blk wz gr 50 cur6∧Below w.heap.size w wz) w6.drew:=⟨(uh Q3).drew,(uh ROWB).blk.drew,(uh X6).drew⟩
 refine wp_region_noPanic (wp_region_held_drew (S:=fun wz=>Blk wz g13 29 #[.slice (some ⟨gr,0,none⟩) n c4,.int .u32 (nx:Int)]∧Blk wz gr 50 cur6∧Below w.heap.size w wz) (by kernel_rfl) hS0 (fun _=>?_))
 clear hB0
 refine tJz 0 rfl (Zar 29 (.tmp 13) (by rfl) rfl g13 rfl 29 #[.slice (some ⟨gr,0,none⟩) n c4,.int .u32 (nx:Int)] _ (fun _ h=>h.1) Tryz.underlying29 rfl (by kernel_rfl)) hS0 ?_
 refine tq 1 rfl hS0 ?_
 refine tq 2 rfl hS0 ?_
 refine tq 3 rfl hS0 ?_
 refine tJz (v:=.agg (bsV x'.key).toArray) 4 rfl (yieldsIf_load_mid (by rfl) 46 (.tmp 67) rfl gr (i*26+5) rfl (bsV x'.key) dk (uh HKR) (uh HDK) (uh HDR) (uh HKI)) hS0 ?_
 refine tq 5 rfl hS0 ?_
 refine tq 6 rfl hS0 ?_
 refine tq 7 rfl hS0 ?_
 refine tJz (v:=(.int .u32 (x'.id:Int))) 8 rfl (Or.inl ⟨by rfl,fun wz hSw=>?_⟩) hS0 ?_
 ·have hq:=(Sess.range (uh HOK1) (uh HAT wz hSw.2.1)).id
  dsimp only [Zc2] at hq
  simp only [Nat.add_zero] at hq
  go_simp
 refine tq 9 rfl hS0 ?_
 refine tq 10 rfl hS0 ?_
 refine tq 11 rfl hS0 ?_
 refine tJz (v:=(.int .u32 ((x'.out+1:Nat):Int))) 12 rfl (Or.inl ⟨by rfl,fun wz hSw=>?_⟩) hS0 ?_
 ·have hq:=(Sess.range (uh HOK1) (uh HAT wz hSw.2.1)).out
  dsimp only [Zc2] at hq
  go_simp
 refine tq 13 rfl hS0 ?_
 refine tq 14 rfl hS0 ?_
 refine tCz 15 rfl fun K hK=>?_
 go_simp
 refine (packet_sx w6.drew 6 x'.key (uh HXO).key x'.id (x'.out+1) (uh HXO).id (by omega) kb Ad nd cd data (((uh HDD).below ((uh X6).drew)).more (uh X6).size) (uh HDC) (uh HDM) (by rw [uh HLD]; omega)).mono ?_
 rintro e w7 ⟨v7,rfl,ho7,hb7⟩
 have h7:Below w6.heap.size w6 w7:=(Below.refl _ _).drew.trans hb7
 have o7:=Zak ho7 (show w.heap.size≤w6.drew.heap.size from (uh X6).size)
 have S7:Blk w7 g13 29 #[.slice (some ⟨gr,0,none⟩) n c4,.int .u32 (nx:Int)]∧Blk w7 gr 50 cur6∧Below w.heap.size w w7:=⟨(uh Q3).below h7 (uh Q3).lt,(uh ROWB).blk.below h7 (uh ROWB).blk.lt,(uh X6).trans (h7.mono (uh X6).size)⟩
 refine hK.out _ _ S7 (fun _=>?_)
 clear hK K
 try simp only [Act.put,zA,zB,zC]
 refine tOz 16 rfl fun K hK=>?_
 refine Zaf (by rfl) 29 (.tmp 8) (.tmp 64) rfl (w.heap.size+1) 29 _ #[.slice (some ⟨gr,0,none⟩) n c4,.int .u32 (nx:Int)] rfl rfl ((uh Q2).below h7 (uh Q2).lt) rfl (by kernel_rfl) (oZz rfl rfl) ?_
 intro w8 hb8 hg8
 have X8:=jd (((uh X6).trans (h7.mono (uh X6).size)).grown hg8 (by have:=(uh X6).size; have:=h7.size; omega) (fun j e=>by injection e with e; omega))
 have ROW7:=(uh ROWB).below h7
 have ROW8:=jd (ROW7.grown hg8 (fun e=>ROW7.blk.ne_ ((uh Q2).below h7 (uh Q2).lt) (by decide) e))
 have O8:=jd (World.ownsRow.kept o7 hg8 (.inr (Zad o7 ((uh Q2).below h7 (uh Q2).lt) (by decide))))
 have R8:=jd hb8
 have S8:Blk w8 g13 29 #[.slice (some ⟨gr,0,none⟩) n c4,.int .u32 (nx:Int)]∧Blk w8 gr 50 cur6∧Below w.heap.size w w8:=⟨S7.1.grown hg8 (fun e=>by injection e with e; omega),(uh ROW8).blk,uh X8⟩
 refine hK.out _ _ S8 (fun hS8=>?_)
 clear hK K hb8 hg8 ROW7 ho7 o7
 try simp only [Act.put]
 refine tq 17 rfl hS8 ?_
 refine tq 18 rfl hS8 ?_
 refine tDz ?_
 clear hS8 hS0
 have hrr:=uh HR4
 have hxi:=uh HXID
 subst hrr
 go_wp2_with fail
 refine bodyPost_ret (v:=.tuple #[.agg #[.slice (some ⟨gr,0,none⟩) n c4,.int .u32 (nx:Int)],v7,.int .i64 0]) (Za4 rfl _ (w.heap.size+1) 29 _ _ _ _ rfl rfl rfl (uh R8) Tryz.underlying29 rfl (by kernel_rfl)) rfl ?_
 show ZaH w _ _ _
 unfold ZaH
 rw [if_pos rfl]
 rw [← hxi]
 refine ⟨_,v7,rfl,?_,uh O8,uh X8⟩
 have h:=RowM.whole (base:=w.heap.size) (n:=n) (uh ROW8) (uh HOK6) (by omega) (by rw [List.length_set]; exact uh HLN)
 rw [show (L.set i (Zc2 x')).length=n by rw [List.length_set]; exact uh HLN]
 exact h
def ZdQ (L:List Sess) (nx:Nat) (id:Nat):SRes :=
 if ZaS L nx=false then badS 1 else
 match Zcs (idP id) L 0 with
 | none=>badS 44
 | some (i,_)=>⟨0,L.eraseIdx i,nx,[]⟩
def Zco (w:World) (r:SRes) (e:Ending) (w':World):Prop :=
 ∃ A c,e=.returned (.tuple #[.agg #[.slice A r.L.length c,.int .u32 (r.nx:Int)],.int .i64 r.code])∧ZaA w' w'.heap.size A r.L.length r.L∧Below w.heap.size w w'
theorem ZaE.erase {L:List Sess} (h:ZaE L) (i:Nat):ZaE (L.eraseIdx i):=fun x hx=>h x (List.mem_of_mem_eraseIdx hx)
theorem Zco.bad {w w':World} {c:Int} {e:Ending} (he:e=.returned (.tuple #[.agg #[.slice none 0 0,.int .u32 0],.int .i64 c])) (hb:Below w.heap.size w w'):Zco w (badS c) e w':=⟨none,0,he,ZaA.of_own (World.ownsRow_nil w' 0 50 26) (fun _ hx=>(by cases hx)),hb⟩
theorem sls_lhm (g n c i j:Nat) (hij:i≤j) (hjn:j≤n) (hnc:n≤c) :
  ∃ v,∀ W:World,(Instr.sliceAt 26 (.slice (some ⟨g,0,none⟩) n c) (some (.int .i64 (i:Int))) (some (.int .i64 (j:Int))) (some (.int .i64 (n:Int)))).run Tryz.prog W=.ok v W:=by
 refine ⟨sliced (some ⟨g,0,none⟩) i j n 26,fun W=>?_⟩
 rw [run_sliceAt_slice _ _ _ _ _ _ ZeL,run_slice_lhm W _ _ _ _ ZeL .i64 .i64 .i64 _ _ _ (by omega) (by omega) (by omega) (by omega),elem_s,size_s]
 simp [Result.andThen]
theorem sls_lh (W:World) (g m c:Nat) (hmc:m < c) :
  (Instr.sliceAt 26 (.slice (some ⟨g,0,none⟩) m c) (some (.int .i64 (m:Int))) (some (.int .i64 ((m+1:Nat):Int))) none).run Tryz.prog W=.ok (.slice (some ⟨g,m*26,none⟩) 1 (c - m)) W:=by
 rw [run_sliceAt_slice _ _ _ _ _ _ ZeL,run_slice_lh W _ _ _ _ ZeL .i64 .i64 _ _ (by omega) (by omega) (by omega),elem_s,size_s]
 have hne:¬ c=m:=by omega
 simp only [Result.andThen,sliced,Int.toNat_natCast,Nat.add_sub_cancel_left,if_neg hne]
 simp [ZbM]
theorem sls_rest (g n c j:Nat) (hjn:j≤n) (hnc:n≤c) :
  ∃ a:Addr,(∀ W:World,(Instr.sliceAt 26 (.slice (some ⟨g,0,none⟩) n c) (some (.int .i64 (j:Int))) none none).run Tryz.prog W=.ok (.slice (some a) (n - j) (c - j)) W)∧(j < n→a=⟨g,j*26,none⟩):=by
 by_cases h:j < c
 · exact ⟨⟨g,j*26,none⟩,fun W=>sls_l W g n c j hjn h,fun _=>rfl⟩
 ·obtain rfl:c=j:=by omega
  obtain rfl:n=c:=by omega
  refine ⟨⟨g,0,none⟩,fun W=>?_,fun h=>by omega⟩
  rw [run_sliceAt_slice _ _ _ _ _ _ ZeL,run_slice_l W _ _ _ _ ZeL .i64 _ (by omega) (by omega),elem_s,size_s]
  simp [Result.andThen,sliced]
theorem Zep (L M:List Sess):Zat (L++M)=Zat L++Zat M:=by simp [Zat]
theorem Zdz {α : Type} (L:List α) (i:Nat):L.eraseIdx i=L.take i++L.drop (i+1):=List.eraseIdx_eq_take_drop_succ L i
theorem RowM.from_ {w:World} {g cap:Nat} {M:List Sess} {cur:Array Value} (h:RowM w g cap M cur) (hok:ZaE M) (j k:Nat) (hj:j≤M.length) (u:Value) (hu:(Zat (M.drop j))[k]?=some u):w.cell? ⟨g,j*26+k,none⟩=some u:=by
 have ht:(Zat (M.take j)).length=j*26:=by
  rw [ZbT (fun x hx=>hok x (List.mem_of_mem_take hx)),List.length_take]
  congr 1
  omega
 have e:(Zat M)[j*26+k]?=some u:=by
  rw [← List.take_append_drop j M,Zep,List.getElem?_append_right (by omega),ht,Nat.add_sub_cancel_left]
  exact hu
 rw [h.blk.cell]
 rw [← h.take,List.getElem?_take] at e
 split at e
 · simpa using e
 · cases e
section
variable {P:Program} {l:List Oper} {a:Act} {o:Oper}
theorem ZdC {w w':World} {K:Act→World→Prop} {Q:Exit→Act→World→Prop} {E:Prop} (hw:Region.wanted o (yielded l.toArray a.tmps)=true) (s x:Operand) (t:TypeId) (ho:o.op=.call { callee:=.builtin .append,args:=#[s,x],argTypes:=#[t,t] })
  (v1 v2 v:Value) (hs:a.eval s=v1) (hx:a.eval x=v2) (hrun:(Builtin.append_ #[t,t] o.type #[v1,v2]).run P w=.ok v w') (hk:K (a.put o.dst v) w'):if Region.wanted o (yielded l.toArray a.tmps)=true then Oper.wp P o a w K Q else E:=by
 rw [if_pos hw]
 unfold Oper.wp execOp
 simp only [ho,resolve,invoke,builtin,Sem.run_bind,Sem.run_pure,Result.andThen_ok,List.map_toArray,List.map_cons,List.map_nil,hs,hx,hrun]
 exact hk
end
set_option maxRecDepth 100000 in
set_option maxHeartbeats 8000000 in
theorem delete_s (w:World) (base:Nat) (v0:Value) (n:Nat) (L:List Sess) (hown:w.ownsRow base 50 26 v0 n (Zat L)) (hok:ZaE L) (hn:n≤1000) (i j m:Nat) (hi:i < n) (hj:j=i+1) (hm:n=m+1) :
  Calls Tryz.prog 90 #[v0,.int .i64 (i:Int),.int .i64 (j:Int)] w
   fun e w'=>∃ v,e=.returned v∧w'.ownsRow base 50 26 v m (Zat (L.eraseIdx i))∧w.grownBy w' v0.ownBlock:=by
 obtain ⟨g,cap,cur,hv,hgb,hrow,hml⟩:=RowM.of_own hown hok (by omega)
 subst hv
 have hcap:=hrow.le
 have hLn:L.length=n:=by have:=hown.1; rw [ZbT hok] at this; omega
 obtain ⟨vx,hvx⟩:=sls_lhm g n cap i j (by omega) (by omega) (by omega)
 obtain ⟨a5,ha5,ha6⟩:=sls_rest g n cap j (by omega) (by omega)
 have HSB:=jd (fun W=>sls_h W g n cap i (by omega))
 have HSR:=jd ha5
 have HSC:=jd (sls_lh w g m cap (by omega))
 obtain ⟨i0,hi0,hz0,hz1,hz2⟩:=info_parts ZeG
 have hij:((i:Int)==(j:Int))=false:=by simp; omega
 have HO:=jd (Zam (hrow.own hok hgb i (by omega)) ((Below.refl w.heap.size w).drew))
 have hnews:∀ k u,(Zat (L.drop j))[k]?=some u→w.drew.cell? (a5.add k)=some u:=by
  intro k u hu
  have hjn:j < n:=by
   rcases Nat.lt_or_ge j n with h | h
   · exact h
   · rw [List.drop_of_length_le (by omega)] at hu
     simp [Zat] at hu
  rw [ha6 hjn,ZbM]
  exact hrow.from_ hok j k (by omega) u hu
 have hdl:(Zat (L.drop j)).length=(n - j)*i0.size:=by rw [ZbT (fun x hx=>hok x (List.mem_of_mem_drop hx)),List.length_drop,hLn,hz1]
 obtain ⟨w6,hrun,ho6,hg6⟩:=run_append_fits (P:=Tryz.prog) w.drew base 26 26 50 i0 26 Tryz.underlying26 hi0 hz1 g i cap (Zat (L.take i)) (uh HO) a5 (n - j) (cap - j) (Zat (L.drop j)) (by rw [hdl,hz1]) hnews (fun u hu=>by
  obtain ⟨x,_,hx⟩:=List.mem_flatMap.1 hu
  exact Sess.one u hx) (by omega)
 have e1:i+(n - j)=m:=by omega
 have e2:Zat (L.take i)++Zat (L.drop j)=Zat (L.eraseIdx i):=by rw [Zdz,Zep,hj]
 rw [e1] at hrun ho6
 rw [e2] at ho6
 have HRUN:=jd hrun
 have hb6:w.grownBy w6 (some g):=⟨hg6.os,hg6.tape,hg6.output,hg6.size,hg6.block⟩
 have HG6:=jd hb6
 have HO6:=jd ho6
 have HIJ:=jd hij
 have HVX:=jd hvx
 have HJ:=jd hj
 have HM:=jd hm
 have hjn:(j:Int)≤(n:Int):=by omega
 have hin:(i:Int)≤(j:Int):=by omega
 have hn1:(n:Int)≤1000:=by omega
 have hmc:m < cap:=by omega
 have hic:i≤cap:=by omega
 clear hown hok hrow hml ha5 ha6 hvx hnews hdl hrun ho6 hg6 hb6 e1 e2 hij hj hi hi0 hz0 hz1 hz2 hm hLn
 have hvx:=uh HVX
 have hij:=uh HIJ
 go_enter Tryz.func90,Tryz.ntmps90
 go_upto_region 5 with fail
 clear hvx hij
 have hB0:Below w.heap.size w w.drew:=(Below.refl _ _).drew
 have hS0:(fun _=>True) w.drew:=trivial
 refine wp_region_noPanic (wp_region_held_drew (S:=fun _=>True) (by kernel_rfl) hS0 (fun _=>?_))
 refine tq 0 rfl hS0 ?_
 refine tq 1 rfl hS0 ?_
 refine tJz (v:=.slice (some ⟨g,0,none⟩) i cap) 2 rfl (Or.inl ⟨by rfl,fun wz hSw=>?_⟩) hS0 ?_
 ·have hq:=uh HSB wz
  have hb:(i:Int)≤(cap:Int):=by omega
  have hb0:(0:Int)≤(i:Int):=by omega
  go_simp
 refine tq 3 rfl hS0 ?_
 refine tq 4 rfl hS0 ?_
 refine tJz (v:=.slice (some a5) (n - j) (cap - j)) 5 rfl (Or.inl ⟨by rfl,fun wz hSw=>?_⟩) hS0 ?_
 ·have hq:=uh HSR wz
  go_simp
 refine tOz 6 rfl fun K hK=>?_
 refine ZdC (by rfl) (.tmp 22) (.tmp 25) 26 rfl _ _ _ rfl rfl (uh HRUN) ?_
 refine hK.out _ _ trivial (fun _=>?_)
 clear hK K
 try simp only [Act.put]
 refine tq 7 rfl hS0 ?_
 refine tDz ?_
 clear hS0 hB0 HSB HSR HRUN HIJ HVX
 obtain ⟨cur6,hb6,hs6,ht6,hc6⟩ :∃cur6,Blk w6 g 50 cur6∧cur6.size=cap*26∧cur6.toList.take (m*26)=Zat (L.eraseIdx i)∧cap≤maxLen:=by
  rcases (uh HO6).2 with ⟨h,_⟩ | ⟨g',cap',cur',h1,_,h3,_,h4,h5,h6⟩
  · cases h
  ·injection h1 with h1 _ h2
   injection h1 with h1
   injection h1 with h1 _ _
   subst h1 h2
   exact ⟨cur',h3,h5,h6,h4⟩
 have HB6:=jd hb6
 have HS6:=jd hs6
 have HT6:=jd ht6
 have hmn:(m:Int)≤(n:Int):=by have:=uh HM; omega
 have SC:∀ W,(Instr.sliceAt 26 (.slice (some ⟨g,0,none⟩) m cap) (some (.int .i64 (m:Int))) (some (.int .i64 (n:Int))) none).run Tryz.prog W=.ok (.slice (some ⟨g,m*26,none⟩) 1 (cap - m)) W:=fun W=>by
  have e:=uh HM
  subst e
  exact sls_lh W g m cap (by omega)
 have hfit:m*26+1*(Value.agg Za7.cs.toArray).cells.size≤cur6.size:=by rw [ZcU,hs6]; have:=uh HM; omega
 clear hb6 hs6 ht6
 go_wp2_with (first
  |(refine Zdi rfl (.tmp 31) 26 rfl 50 (.agg Za7.cs.toArray) Tryz.underlying26 zero_s zs_one g (m*26) 1 (cap - m) 50 cur6 (by omega) rfl (uh HB6) hfit ?_
    intro w7 vs hvs hb7 hg7
    have Z7:=jd hb7
    have VS:=jd hvs
    have B7:Hid (w.grownBy w7 (some g)):=jd (Zc1 (uh HG6) hg7 (fun j e=>by injection e with e; omega))
    clear hb7 hg7 hvs)
  | fail)
 go_ret
 have hz:=uh Z7
 have hv:=uh VS
 rw [ZcU] at hz hv
 have hcurl:cur6.toList.length=cap*26:=by rw [Array.length_toList]; exact uh HS6
 refine ⟨_,rfl,⟨(uh HO6).1,.inr ⟨g,cap,_,rfl,hgb,hz,by omega,hc6,?_,?_⟩⟩,uh B7⟩
 ·rw [List.size_toArray,List.length_append,List.length_append,List.length_take,List.length_drop,hv,hcurl]
  omega
 ·rw [← uh HT6]
  simp only [List.append_assoc]
  exact List.take_left' (by rw [List.length_take,hcurl]; omega)
set_option maxRecDepth 100000 in
set_option maxHeartbeats 16000000 in
theorem close_sx (w:World) (A:Option Addr) (n c:Nat) (L:List Sess) (nx:Nat) (hS:ZaA w w.heap.size A n L) (hn:n≤1000) (hnx:nx < 4294967296) (id:Nat) (r:SRes) (hr:ZdQ L nx id=r) :
  Calls Tryz.prog 35 #[.agg #[.slice A n c,.int .u32 (nx:Int)],.int .u32 (id:Int)] w (Zco w r):=by
 obtain ⟨W1,hW1⟩ :∃W1,(w.alloc (.cells #[.slice A n c,.int .u32 (nx:Int)] 29)).alloc (.cells #[.slice none 0 0,.int .u32 0] 29)=W1:=⟨_,rfl⟩
 have K0:Hid (Blk W1 w.heap.size 29 #[.slice A n c,.int .u32 (nx:Int)]):=jd (hW1 ▸ ((Blk.new w _ _).alloc _))
 have K2:Hid (Blk W1 (w.heap.size+1) 29 #[.slice none 0 0,.int .u32 0]):=jd (hW1 ▸ (Blk.new' (by simp)))
 have B1:Hid (Below w.heap.size w W1):=jd (hW1 ▸ ((Below.refl _ _).alloc (Nat.le_refl _) _).alloc (by rw [Zae]; omega) _)
 have HS:=jd hS
 have HR:=jd hr
 obtain ⟨t1,ht1⟩ :∃t,ZaS L nx=t:=⟨_,rfl⟩
 have HT1:=jd ht1
 clear hS hr ht1
 go_enter Tryz.func35,Tryz.ntmps35
 go_wp2_with (first
  | (refine wpList_load_row rfl 29 _ rfl w.heap.size rfl 29 _ _ _ (uh K0) Tryz.underlying29 rfl (by kernel_rfl) ?_)
  | fail)
 have hw1:w.heap.size+1 < W1.heap.size:=(uh K2).lt
 refine (Zdb W1 A n c L nx (((uh HS).below (uh B1)).more (uh B1).size) (by unfold maxLen; omega) hnx t1 (uh HT1)).mono ?_
 rintro e w2 ⟨rfl,hb2⟩
 have J0:=jd ((uh K0).below hb2 (uh K0).lt)
 have J2:=jd ((uh K2).below hb2 (uh K2).lt)
 have X2:=jd ((uh B1).trans (hb2.mono (uh B1).size))
 have hs2:w.heap.size+1 < w2.heap.size:=(uh J2).lt
 clear hb2
 cases t1
 case false =>
  have hrr:=uh HR
  unfold ZdQ at hrr
  rw [if_pos (uh HT1)] at hrr
  subst hrr
  clear HR
  go_wp2_with (first
   | (refine Zab rfl 29 _ rfl [] rfl _ Zan ?_)
   |(refine Zaa rfl 29 (.tmp 4) (.tmp 10) rfl (w.heap.size+1) 29 _ #[.slice none 0 0,.int .u32 0] rfl rfl (uh J2) rfl (by kernel_rfl) (oZz rfl rfl) ?_
     intro w9 hb9 hg9
     have Z9:=jd hb9
     have E9:=jd (gWz (uh X2) hg9)
     clear hb9 hg9)
   | fail)
  exact bodyPost_ret (v:=.tuple #[.agg #[.slice none 0 0,.int .u32 0],.int .i64 1]) (res2 rfl _ (w.heap.size+1) 29 _ _ _ rfl rfl (uh Z9) Tryz.underlying29 rfl (by kernel_rfl)) rfl (Zco.bad rfl (uh E9))
 have hrr:=uh HR
 unfold ZdQ at hrr
 rw [if_neg (by rw [uh HT1]; simp)] at hrr
 have HR2:=jd hrr
 clear hrr HR
 obtain ⟨fi,hfi⟩ :∃i,Zbl (idP id) L 0=i:=⟨_,rfl⟩
 have HFI:=jd hfi
 clear hfi
 go_wp2_with (first
  | (refine wpList_load_row rfl 29 _ rfl w.heap.size rfl 29 _ _ _ (uh J0) Tryz.underlying29 rfl (by kernel_rfl) ?_)
  | fail)
 refine (Zfq w2 A n c L _ (((uh HS).below (uh X2)).more (uh X2).size) (by unfold maxLen; omega) id).mono ?_
 rintro e w3 ⟨rfl,hb3⟩
 rw [uh HFI]
 have M0:=jd ((uh J0).below hb3 (uh J0).lt)
 have M2:=jd ((uh J2).below hb3 (uh J2).lt)
 have X3:=jd ((uh X2).trans (hb3.mono (uh X2).size))
 have hs3:w2.heap.size≤w3.heap.size:=hb3.size
 clear hb3
 rcases Za8 (idP id) L 0 with ⟨e1,f1⟩ | ⟨i,x,e1,f1,hx,hpx⟩
 ·obtain rfl:fi=-1:=by rw [← uh HFI,e1]
  have hf1:=jd f1
  clear e1 f1
  have hrr:=uh HR2
  rw [uh hf1] at hrr
  dsimp only at hrr
  subst hrr
  clear HR2
  go_wp2_with (first
   | (refine Zab rfl 29 _ rfl [] rfl _ Zan ?_)
   |(refine Zaa rfl 29 (.tmp 4) (.tmp 16) rfl (w.heap.size+1) 29 _ #[.slice none 0 0,.int .u32 0] rfl rfl (uh M2) rfl (by kernel_rfl) (oZz rfl rfl) ?_
     intro w9 hb9 hg9
     have Z9:=jd hb9
     have E9:=jd (gWz (uh X3) hg9)
     clear hb9 hg9)
   | fail)
  exact bodyPost_ret (v:=.tuple #[.agg #[.slice none 0 0,.int .u32 0],.int .i64 44]) (res2 rfl _ (w.heap.size+1) 29 _ _ _ rfl rfl (uh Z9) Tryz.underlying29 rfl (by kernel_rfl)) rfl (Zco.bad rfl (uh E9))
 rw [Nat.zero_add] at e1 f1
 obtain rfl:fi=(i:Int):=by rw [← uh HFI,e1]
 have hrr:=uh HR2
 rw [f1] at hrr
 dsimp only at hrr
 have HR4:=jd hrr
 have hLn:L.length=n:=(uh HS).len
 have hin:i < n:=by have:=(List.getElem?_eq_some_iff.1 hx).1; omega
 have hi0:((i:Int) < 0)=False:=by simp
 obtain ⟨m,hm⟩ :∃m,n=m+1:=⟨n - 1,by omega⟩
 obtain ⟨j,hj⟩ :∃j,j=i+1:=⟨_,rfl⟩
 have hwj:IntKind.i64.wrap ((i:Int)+1)=(j:Int):=by rw [hj]; exact IntWalk.i64_in _ (by omega)
 have HWJ:=jd hwj
 have HJ:=jd hj
 have HM:=jd hm
 have HLN:=jd hLn
 clear hrr HR2 e1 f1 hx hpx hwj hj hm hLn HFI
 go_upto_region 6 with fail
 have HS3:=jd (((uh HS).below (uh X3)).more (uh X3).size)
 have hB0:Below w3.heap.size w3 w3.drew:=(Below.refl _ _).drew
 have hS0:(fun wz=>Blk wz w.heap.size 29 #[.slice A n c,.int .u32 (nx:Int)]∧Below w.heap.size w wz) w3.drew:=⟨(uh M0).drew,(uh X3).drew⟩
 refine wp_region_noPanic (wp_region_held_drew (S:=fun wz=>Blk wz w.heap.size 29 #[.slice A n c,.int .u32 (nx:Int)]∧Below w.heap.size w wz) (by kernel_rfl) hS0 (fun _=>?_))
 clear hB0
 refine tq 0 rfl hS0 ?_
 refine tJz (v:=.slice A n c) 1 rfl (Or.inl ⟨by rfl,fun wz hSw=>?_⟩) hS0 ?_
 ·have hq:=hSw.1.cell 0
  simp only [List.getElem?_toArray,List.getElem?_cons_zero] at hq
  go_simp
 refine tq 3 rfl hS0 ?_
 refine tq 4 rfl hS0 ?_
 refine tJz (v:=.int .i64 (j:Int)) 5 rfl (Or.inl ⟨by rfl,fun wz hSw=>?_⟩) hS0 ?_
 ·have hq:=uh HWJ
  go_simp
 refine tq 7 rfl hS0 ?_
 refine tJz (v:=.int .u32 (nx:Int)) 8 rfl (Or.inl ⟨by rfl,fun wz hSw=>?_⟩) hS0 ?_
 ·have hq:=hSw.1.cell 1
  simp only [List.getElem?_toArray,List.getElem?_cons_succ,List.getElem?_cons_zero] at hq
  go_simp
 refine tCz 2 rfl fun K hK=>?_
 go_simp
 refine (clone_s w3.drew A n c L (((uh HS3).below (Below.refl _ _).drew).more (Nat.le_refl _)) hn).mono ?_
 rintro e w4 ⟨v4,rfl,ho4,hb4⟩
 have h4:Below w3.heap.size w3 w4:=(Below.refl _ _).drew.trans hb4
 have HO4:Hid (w4.ownsRow w3.heap.size 50 26 v4 n (Zat L)):=jd ho4
 have H4:=jd h4
 have M4:=jd ((uh M0).below h4 (uh M0).lt)
 have N4:=jd ((uh M2).below h4 (uh M2).lt)
 have X4:=jd ((uh X3).trans (h4.mono (uh X3).size))
 clear ho4 hb4 h4
 refine hK.out _ _ ⟨uh M4,uh X4⟩ (fun _=>?_)
 clear hK K
 try simp only [Act.put,zA,zB,zC]
 refine tCz 6 rfl fun K hK=>?_
 go_simp
 refine (delete_s w4 w3.heap.size v4 n L (uh HO4) (uh HS).ok hn i j m hin (uh HJ) (uh HM)).mono ?_
 rintro e w5 ⟨v5,rfl,ho5,hg5⟩
 have hgr:∀ b t cs,Blk w4 b t cs→b < w3.heap.size→Blk w5 b t cs:=fun b t cs hb hl=>hb.grown hg5 (fun e=>by have:=Zaw (uh HO4) b e.symm; omega)
 have hlt0:=(uh M0).lt
 have hlt2:=(uh M2).lt
 have M5:=jd (hgr _ _ _ (uh M4) hlt0)
 have N5:=jd (hgr _ _ _ (uh N4) hlt2)
 have X5:Hid (Below w.heap.size w w5):=jd ((uh X4).grown hg5 (uh X4).size (fun j hj=>by have:=Zaw (uh HO4) j hj; omega))
 obtain ⟨A5,c5,hv5,_,_⟩:=Zac ho5
 subst hv5
 have HO5:=jd ho5
 clear ho5 hg5 hgr
 have hS5:Blk w5 w.heap.size 29 #[.slice A n c,.int .u32 (nx:Int)]∧Below w.heap.size w w5:=⟨uh M5,uh X5⟩
 refine hK.out _ _ hS5 (fun _=>?_)
 clear hK K
 try simp only [Act.put,zA,zB,zC]
 refine tJz (v:=.agg #[.slice A5 m c5,.int .u32 (nx:Int)]) 9 rfl (Or.inl ⟨by rfl,fun wz hSw=>?_⟩) hS5 ?_
 ·have hq:=bld_sl wz A5 m c5 (nx:Int)
  go_simp
 refine tOz 10 rfl fun K hK=>?_
 refine Zaf (by rfl) 29 (.tmp 4) (.tmp 26) rfl (w.heap.size+1) 29 _ #[.slice A5 m c5,.int .u32 (nx:Int)] rfl rfl (uh N5) rfl (by kernel_rfl) (oZz rfl rfl) ?_
 intro w8 hb8 hg8
 have X8:=jd (gWz (uh X5) hg8)
 have HO8:=jd ((uh HO5).kept hg8 (.inr (Zad (uh HO5) (uh N5) (by decide))))
 have R8:=jd hb8
 have M8:=jd ((uh M5).gb hg8)
 refine hK.out _ _ ⟨uh M8,uh X8⟩ (fun hS8=>?_)
 clear hK K hb8 hg8
 try simp only [Act.put]
 refine tq 11 rfl hS8 ?_
 refine tDz ?_
 clear hS8 hS0
 have hrr:=uh HR4
 subst hrr
 have hel:(L.eraseIdx i).length=m:=by have:=uh HLN; have:=uh HM; rw [List.length_eraseIdx,if_pos (by omega)]; omega
 have HEL:=jd hel
 clear hel
 go_wp2_with fail
 refine bodyPost_ret (v:=.tuple #[.agg #[.slice A5 m c5,.int .u32 (nx:Int)],.int .i64 0]) (res2 rfl _ (w.heap.size+1) 29 _ _ _ rfl rfl (uh R8) Tryz.underlying29 rfl (by kernel_rfl)) rfl ?_
 show Zco w _ _ _
 unfold Zco
 dsimp only
 rw [uh HEL]
 exact ⟨A5,c5,rfl,ZaA.of_own (uh HO8) ((uh HS).ok.erase i),uh X8⟩
end Go.Proofs.YtfbkkmnkpjgciaaGreat
