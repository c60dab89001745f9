/- Joined of GRecv. No condition. -/
import Derived.Test.YtfbkkmnkpjgciaaGreatPG21
import Derived.Test.YtfbkkmnkpjgciaaGreatPG22
import Derived.Test.YtfbkkmnkpjgciaaGreatPG26
import Derived.Test.YtfbkkmnkpjgciaaGreatPG09
namespace Go.Proofs.YtfbkkmnkpjgciaaGreat
open Go.RowKit
def Zbm (w:World) (r:RRes) (e:Ending) (w':World):Prop :=
 if r.e=0 then∃vS A m c,e=.returned (.tuple #[.agg #[vS,.int .u32 (r.nx:Int)],.int .u32 (r.id:Int),.int .i64 (r.kind:Int),.slice A m c,.int .i64 0])∧w'.ownsRow w.heap.size 50 26 vS r.L.length (Zat r.L)∧Zaj w' w'.heap.size 1 A m (bsV r.d)∧m≤c∧c≤maxLen∧Below w.heap.size w w'
 else e=.returned (.tuple #[.agg #[.slice none 0 0,.int .u32 0],.int .u32 0,.int .i64 0,.slice none 0 0,.int .i64 r.e])∧Below w.heap.size w w'
theorem Zbm.bad {w w':World} {c:Int} {e:Ending} (hc:c≠0) (he:e=.returned (.tuple #[.agg #[.slice none 0 0,.int .u32 0],.int .u32 0,.int .i64 0,.slice none 0 0,.int .i64 c])) (hb:Below w.heap.size w w'):Zbm w (badR c) e w':=by
 unfold Zbm badR
 dsimp only
 rw [if_neg hc]
 exact ⟨he,hb⟩
theorem rRRz {w w9:World} {fn:Func} {p u x y z:Tmp} {a:Act} {g:Nat} {c:Int} (h:fn.results=#[.cell p 29,.tmp u,.tmp x,.tmp y,.tmp z]) (hp:a.tmps.getD p undef=.pointer (some ⟨g,0,none⟩)) (hu:a.tmps.getD u undef=.int .u32 0) (hx:a.tmps.getD x undef=.int .i64 0) (hy:a.tmps.getD y undef=.slice none 0 0) (hz:a.tmps.getD z undef=.int .i64 c) (hZ:Blk w9 g 29 #[.slice none 0 0,.int .u32 0]) (hE:Below w.heap.size w w9) (hd:a.defers=[]:=by rfl) (hc:c≠0:=by omega):bodyPost Tryz.prog fn (Zbm w (badR c)) .ret a w9 :=
 bodyPost_ret (v:=.tuple #[.agg #[.slice none 0 0,.int .u32 0],.int .u32 0,.int .i64 0,.slice none 0 0,.int .i64 c]) (Zb7 h _ g 29 _ _ _ _ _ _ hp hu hx hy hz hZ Tryz.underlying29 rfl (by kernel_rfl)) hd (Zbm.bad hc rfl hE)
theorem recvS_st {L:List Sess} {nx:Nat} {b:List UInt8} {now:Int} (h:stC L nx now≠0):Zcj L nx b now=badR (stC L nx now):=by
 unfold stC at h ⊢
 unfold Zcj
 split
 · rfl
 ·split
  · rfl
  ·rename_i h1 h2
   rw [if_neg h1,if_neg h2] at h
   exact absurd rfl h
theorem gen_ok {ks l:List UInt8} {mo:Nat} (h:l.length=mo+8):decide ((leW (l.drop mo):Int)=sumF ks (l.take mo))=genF ks l:=by
 unfold genF
 rw [show l.length - 8=mo by omega]
 obtain ⟨r0,r1⟩:=ZeD ks (l.take mo)
 by_cases hq:l.drop mo=leB (sumF ks (l.take mo)) 8
 · rw [decide_eq_true (by rw [hq]; exact Ze0 _ r0 r1),decide_eq_true hq]
 · rw [decide_eq_false (fun he=>hq (leW_inj _ _ (by rw [List.length_drop,Zbr]; omega) (by have:=he.trans (Ze0 _ r0 r1).symm; omega))),decide_eq_false hq]
set_option maxRecDepth 100000 in
set_option maxHeartbeats 16000000 in
theorem ZeN (w:World) (A:Option Addr) (n c:Nat) (L:List Sess) (nx:Nat) (hS:ZaA w w.heap.size A n L) (hn:n≤1000) (hnx:nx < 4294967296)
  (Ab:Option Addr) (nb cb:Nat) (b:List UInt8) (hb:Zaj w w.heap.size 1 Ab nb (bsV b)) (hbc:nb≤cb) (hbm:cb≤maxLen) (now:Int) (r:RRes) (hr:Zcj L nx b now=r) :
  Calls Tryz.prog 32 #[.agg #[.slice A n c,.int .u32 (nx:Int)],.slice Ab nb cb,.int .i64 now] w (Zbm w r):=by
 obtain ⟨W1,hW1⟩ :∃W1,(w.alloc (.cells #[.slice A n c,.int .u32 (nx:Int)] 29)).alloc (.cells #[.slice none 0 0,.int .u32 0] 29)=W1:=⟨_,rfl⟩
 have K0:Hid (Blk W1 w.heap.size 29 #[.slice A n c,.int .u32 (nx:Int)]):=jd (hW1 ▸ ((Blk.new w _ _).alloc _))
 have K2:Hid (Blk W1 (w.heap.size+1) 29 #[.slice none 0 0,.int .u32 0]):=jd (hW1 ▸ (Blk.new' (by simp)))
 have B1:Hid (Below w.heap.size w W1):=jd (hW1 ▸ ((Below.refl _ _).alloc (Nat.le_refl _) _).alloc (by rw [Zae]; omega) _)
 have HS:=jd hS
 have HBB:=jd hb
 have HR:=jd hr
 have hlb:b.length=nb:=by have:=hb.1; simpa [bsV] using this
 have HLB:=jd hlb
 have HBC:=jd hbc
 have HBM:=jd hbm
 have hnb:(nb:Int)≤9223372036854775807:=by unfold maxLen at hbm; omega
 have S1:=jd ((hS.below (uh B1)).more (uh B1).size)
 clear hS hb hr hlb hbc hbm
 go_enter Tryz.func32,Tryz.ntmps32
 go_wp2_with (first
  | (refine wpList_load_row rfl 29 _ rfl w.heap.size rfl 29 _ _ _ (uh K0) Tryz.underlying29 rfl (by kernel_rfl) ?_)
  | fail)
 refine (start_sx W1 A n c L nx (uh S1) hn hnx now).mono ?_
 rintro e w4 hst
 unfold ZcS at hst
 have hw1:w.heap.size+1 < W1.heap.size:=(uh K2).lt
 by_cases hsc:stC L nx now=0
 case neg =>
  rw [if_neg hsc] at hst
  obtain ⟨rfl,hb4⟩:=hst
  have hrr:=uh HR
  rw [recvS_st hsc] at hrr
  obtain ⟨cd,hcd⟩ :∃cd,stC L nx now=cd:=⟨_,rfl⟩
  rw [hcd] at hsc hrr ⊢
  subst hrr
  have hne:(cd != 0)=true:=by simpa using hsc
  have HSC:=jd hsc
  have M2:=jd (((uh K2).below hb4 (uh K2).lt).alloc (.cells #[.slice none 0 0,.int .u32 0] 29))
  have M3:=jd (Blk.new w4 29 #[.slice none 0 0,.int .u32 0])
  have hs4:W1.heap.size≤w4.heap.size:=hb4.size
  have X4:=jd (((uh B1).trans (hb4.mono (uh B1).size)).alloc (by have:=(uh B1).size; omega) (.cells #[.slice none 0 0,.int .u32 0] 29))
  have O4:=jd (World.ownsRow_nil (w4.alloc (.cells #[.slice none 0 0,.int .u32 0] 29)) 0 50 26)
  clear hb4 hcd hsc HR
  go_upto_region 2 with (first
   | (refine Zag rfl 29 rfl _ w4.heap.size rfl (ZaB _) ?_)
   | (refine Zaa rfl 29 (.tmp 11) (.tmp 20) rfl w4.heap.size 29 _ #[.slice none 0 0,.int .u32 0] rfl rfl (uh M3) rfl (by kernel_rfl) (oZz rfl rfl) ?_
      intro w5 hb5 hg5
      have N3:=jd hb5
      have N2:=jd ((uh M2).gb hg5)
      have O5:=jd (World.ownsRow.kept (uh O4) hg5 (.inr (Zad (uh O4) (uh M3) (by decide))))
      have X5:=jd (gWz (uh X4) hg5)
      have hs5:w4.heap.size < w5.heap.size:=hb5.lt
      clear hb5 hg5)
   | fail)
  go_wp2_with (first
   | (refine Zab rfl 29 _ rfl [] rfl _ Zan ?_)
   | (refine Zaa rfl 29 (.tmp 6) (.tmp 24) rfl (w.heap.size+1) 29 _ #[.slice none 0 0,.int .u32 0] rfl rfl (uh N2) rfl (by kernel_rfl) (oZz rfl rfl) ?_
      intro w9 hb9 hg9
      have Z9:=jd hb9
      have E9:=jd (gWz (uh X5) hg9)
      clear hb9 hg9)
   | fail)
  exact bodyPost_ret (v:=.tuple #[.agg #[.slice none 0 0,.int .u32 0],.int .u32 0,.int .i64 0,.slice none 0 0,.int .i64 cd]) (Zb7 rfl _ (w.heap.size+1) 29 _ _ _ _ _ _ rfl rfl rfl rfl rfl (uh Z9) Tryz.underlying29 rfl (by kernel_rfl)) rfl (Zbm.bad (uh HSC) rfl (uh E9))
 rw [if_pos hsc] at hst
 obtain ⟨v4,rfl,ho4,hb4⟩:=hst
 obtain ⟨HT1,HT2⟩:=stC_zero hsc
 obtain ⟨E,hE⟩ :∃E,expF L nx now=E:=⟨_,rfl⟩
 have hEok:ZaE E:=by rw [← hE]; exact ZcP (uh HS).ok
 have hEl:E.length≤n:=by rw [← hE,← (uh HS).len]; exact Zd2 _ _ _
 have hr3:=uh HR
 unfold Zcj at hr3
 rw [if_neg (by rw [HT1]; simp),if_neg (by rw [HT2]; simp)] at hr3
 rw [hE] at ho4 hr3
 have HR2:=jd hr3
 obtain ⟨m,hm⟩ :∃m,E.length=m:=⟨_,rfl⟩
 rw [hm] at ho4 hEl
 obtain ⟨A4,c4,hv4,hmc4,hcm4⟩:=Zac ho4
 subst hv4
 have M2:=jd (((uh K2).below hb4 (uh K2).lt).alloc (.cells #[.slice none 0 0,.int .u32 0] 29))
 have M3:=jd (Blk.new w4 29 #[.slice none 0 0,.int .u32 0])
 have hs4:W1.heap.size≤w4.heap.size:=hb4.size
 have X4:=jd (((uh B1).trans (hb4.mono (uh B1).size)).alloc (by have:=(uh B1).size; omega) (.cells #[.slice none 0 0,.int .u32 0] 29))
 have O4:=jd (ho4.alloc (.cells #[.slice none 0 0,.int .u32 0] 29))
 have HEOK:=jd hEok
 have HM:=jd hm
 clear ho4 hb4 hE hEok hm hr3 HR hsc HT1 HT2
 go_upto_region 2 with (first
  | (refine Zag rfl 29 rfl _ w4.heap.size rfl (ZaB _) ?_)
  |(refine Zaa rfl 29 (.tmp 11) (.tmp 20) rfl w4.heap.size 29 _ #[.slice A4 m c4,.int .u32 (nx:Int)] rfl rfl (uh M3) rfl (by kernel_rfl) (oZz rfl rfl) ?_
    intro w5 hb5 hg5
    have N3:=jd hb5
    have N2:=jd ((uh M2).gb hg5)
    have O5:=jd (World.ownsRow.kept (uh O4) hg5 (.inr (Zad (uh O4) (uh M3) (by decide))))
    have X5:=jd (gWz (uh X4) hg5)
    have hs5:w4.heap.size < w5.heap.size:=hb5.lt
    clear hb5 hg5)
  | fail)
 obtain ⟨tf,htf⟩ :∃t,(Zcv 5 b && Zb6 (b.getD 9 0))=t:=⟨_,rfl⟩
 have HTF:=jd htf
 clear htf
 go_wp2_with fail
 refine (rform_sx w5 Ab nb cb b 5 (((uh HBB).below (uh X5)).more (uh X5).size) tf (uh HTF)).mono ?_
 rintro e w5b ⟨rfl,rfl⟩
 cases tf
 case false =>
  have hrr:=uh HR2
  have hbad:badR 6=r:=by
   rw [← hrr]
   cases hf:Zcv 5 b
   · rw [if_pos rfl]
   · have hk:=uh HTF
     rw [hf,Bool.true_and] at hk
     rw [if_neg (by simp),if_pos (show Zb6 (Zay b).kb=false from hk)]
  subst hbad
  clear hrr HR2
  go_wp2_with (first
   | (refine Zab rfl 29 _ rfl [] rfl _ Zan ?_)
   | (refine Zaa rfl 29 (.tmp 6) (.tmp 29) rfl (w.heap.size+1) 29 _ #[.slice none 0 0,.int .u32 0] rfl rfl (uh N2) rfl (by kernel_rfl) (oZz rfl rfl) ?_
      intro w9 hb9 hg9
      have Z9:=jd hb9
      have E9:=jd (gWz (uh X5) hg9)
      clear hb9 hg9)
   | fail)
  exact rRRz rfl rfl rfl rfl rfl rfl (uh Z9) (uh E9)
 have hff:Zcv 5 b=true∧Zb6 (Zay b).kb=true:=by
  have:=uh HTF
  rw [Bool.and_eq_true] at this
  exact this
 have hrr:=uh HR2
 rw [if_neg (by rw [hff.1]; simp),if_neg (by rw [hff.2]; simp)] at hrr
 have hlen:18≤nb∧nb≤274:=by
  have h1:=hff.1
  unfold Zcv at h1
  rw [uh HLB] at h1
  simp only [Bool.and_eq_true,decide_eq_true_eq] at h1
  exact ⟨h1.1,h1.2.1⟩
 have hl18:=hlen.1
 have hl274:=hlen.2
 obtain ⟨id,hid⟩ :∃x,leW ((b.drop 1).take 4)=x:=⟨_,rfl⟩
 have hidl:id < 4294967296:=by rw [← hid]; exact leW4 _ _
 have hpid:(Zay b).id=id:=hid
 rw [hpid] at hrr
 have HR5:=jd hrr
 have HID:=jd hid
 have HPID:=jd hpid
 obtain ⟨fi,hfi⟩ :∃i,Zbl (idP id) E 0=i:=⟨_,rfl⟩
 have HFI:=jd hfi
 clear hrr HR2 hid hfi hff hlen hpid
 go_upto_region 6 with fail
 have hS0:Below w5.heap.size w5 w5.drew:=(Below.refl _ _).drew
 refine wp_region_noPanic (wp_region_held_drew (S:=fun wz=>Below w5.heap.size w5 wz) (by kernel_rfl) hS0 (fun _=>?_))
 refine tJz 0 rfl (Zar 29 (.tmp 11) (by rfl) rfl w4.heap.size rfl 29 #[.slice A4 m c4,.int .u32 (nx:Int)] _ (fun _ h=>(uh N3).below h (uh N3).lt) Tryz.underlying29 rfl (by kernel_rfl)) hS0 ?_
 refine tq 1 rfl hS0 ?_
 refine tCz 2 rfl fun K hK=>?_
 go_simp
 refine (rid_sx _ nb cb b w5.drew w.heap.size ((uh HBB).below (uh X5)).drew (by omega) (uh HBC) (uh HBM)).mono ?_
 rintro e w6 ⟨rfl,rfl⟩
 rw [uh HID]
 refine hK.out _ _ hS0 (fun _=>?_)
 clear hK K
 try simp only [Act.put,zA,zB,zC]
 refine tCz 3 rfl fun K hK=>?_
 go_simp
 refine (Zer w5.drew A4 m c4 E _ (ZaA.of_own (uh O5) (uh HEOK)) (by unfold maxLen; omega) id).mono ?_
 rintro e ww ⟨rfl,hb6⟩
 rw [uh HFI]
 have hBw:Below w5.heap.size w5 ww:=hS0.trans (hb6.mono hS0.size)
 refine hK.out _ _ hBw (fun _=>?_)
 clear hK K
 try simp only [Act.put,zA,zB,zC]
 refine tq 4 rfl hBw ?_
 refine tDz ?_
 have N36:=jd ((uh N3).below hBw hs5)
 have N26:=jd ((uh N2).below hBw (uh N2).lt)
 have O6:=jd (Zam (uh O5) hBw)
 have X6:=jd ((uh X5).trans (hBw.mono (uh X5).size))
 have hs6:w5.heap.size≤ww.heap.size:=hBw.size
 clear hBw hS0 hb6
 have d0:ww.cell? ⟨w4.heap.size,0,none⟩=some (.slice A4 m c4):=(uh N36).cell 0
 rcases Za8 (idP id) E 0 with ⟨e1,f1⟩ | ⟨i,x,e1,f1,hx,hpx⟩
 ·obtain rfl:fi=-1:=by rw [← uh HFI,e1]
  have hrr:=uh HR5
  rw [f1] at hrr
  dsimp only at hrr
  subst hrr
  clear HR5 e1 f1
  go_wp2_with (first
   | (refine Zab rfl 29 _ rfl [] rfl _ Zan ?_)
   | (refine Zaa rfl 29 (.tmp 6) (.tmp 45) rfl (w.heap.size+1) 29 _ #[.slice none 0 0,.int .u32 0] rfl rfl (uh N26) rfl (by kernel_rfl) (oZz rfl rfl) ?_
      intro w9 hb9 hg9
      have Z9:=jd hb9
      have E9:=jd (gWz (uh X6) hg9)
      clear hb9 hg9)
   | fail)
  exact rRRz rfl rfl rfl rfl rfl rfl (uh Z9) (uh E9)
 rw [Nat.zero_add] at e1 f1
 obtain rfl:fi=(i:Int):=by rw [← uh HFI,e1]
 have hrr:=uh HR5
 rw [f1] at hrr
 dsimp only at hrr
 have HR6:=jd hrr
 have him:i < m:=by have:=(List.getElem?_eq_some_iff.1 hx).1; have:=uh HM; omega
 have hxo:x.Ok:=(uh HEOK) x (List.mem_of_getElem? hx)
 obtain ⟨gr,cap,cur,hv6,hgb,hrow,hml⟩:=RowM.of_own (uh O6) (uh HEOK) (by omega)
 injection hv6 with hA4 _ hc4
 subst hA4 hc4
 have hat:=Sess.range hxo (hrow.range (uh HEOK) hx)
 have hi0:((i:Int) < 0)=False:=by simp
 have hi0b:(0:Int)≤(i:Int):=by omega
 have hiz:(i:Int) < (m:Int):=by omega
 have c21:=hat.opn
 have hxid:x.id=id:=by simpa [idP] using hpx
 have HX:=jd hx
 have HXO:=jd hxo
 have HXID:=jd hxid
 have HROW:=jd hrow
 clear hrr HR5 e1 f1 hx hxo hrow hat hpx hxid
 obtain ⟨t3,ht3⟩ :∃t,x.opn=t:=⟨_,rfl⟩
 rw [ht3] at c21
 have HT3:=jd ht3
 clear ht3
 cases t3
 case false =>
  have hrr:=uh HR6
  rw [if_pos (uh HT3)] at hrr
  subst hrr
  clear HR6
  go_wp2_with (first
   | (refine Zab rfl 29 _ rfl [] rfl _ Zan ?_)
   | (refine Zaa rfl 29 (.tmp 6) (.tmp 45) rfl (w.heap.size+1) 29 _ #[.slice none 0 0,.int .u32 0] rfl rfl (uh N26) rfl (by kernel_rfl) (oZz rfl rfl) ?_
      intro w9 hb9 hg9
      have Z9:=jd hb9
      have E9:=jd (gWz (uh X6) hg9)
      clear hb9 hg9)
   | fail)
  exact rRRz rfl rfl rfl rfl rfl rfl (uh Z9) (uh E9)
 have hrr:=uh HR6
 rw [if_neg (by rw [uh HT3]; simp)] at hrr
 have HR7:=jd hrr
 clear hrr HR6
 have hgrw:=(uh HROW).blk.lt
 have HRG:=jd ((uh HROW).range (uh HEOK) (uh HX))
 obtain ⟨dk,hdk,hdr⟩:=Za5
 have HDK:=jd hdk
 have HDR:=jd hdr
 have HKI:=jd (ZaV x.key (uh HXO).key)
 have HKR:Hid (ww.rangeAt gr (i*26+5) (bsV x.key)):=jd fun j v hv=>by rw [Nat.add_assoc]; exact (Sess.range (uh HXO) (uh HRG)).key j v hv
 clear hdk hdr
 go_wp2_with (first
  | (refine wpList_load_mid rfl 46 (.tmp 51) rfl gr (i*26+5) rfl (bsV x.key) dk (uh HKR) (uh HDK) (uh HDR) (uh HKI) ?_)
  | fail)
 obtain ⟨mo,hmo⟩ :∃mo,nb=mo+8:=⟨nb - 8,by omega⟩
 obtain ⟨t4,ht4⟩ :∃t,genF x.key b=t:=⟨_,rfl⟩
 have HT4:=jd ht4
 have hop:=Zc7 x.key b (uh HXO).key Ab mo cb ww (by rw [← hmo]; exact ((uh HBB).below (uh X6)).more (uh X6).size) (by rw [← hmo]; exact uh HBC) (uh HBM) (by omega) t4 (by rw [gen_ok (by rw [uh HLB]; exact hmo),ht4])
 rw [← hmo] at hop
 have HMO:=jd hmo
 have hmo1:10≤mo:=by omega
 have hmo2:mo≤266:=by omega
 clear hmo ht4
 refine hop.mono ?_
 clear hop
 rintro e w7 ⟨hb7,hpost⟩
 have N37:=jd ((uh N36).below hb7 (uh N36).lt)
 have N27:=jd ((uh N26).below hb7 (uh N26).lt)
 have X7:=jd ((uh X6).trans (hb7.mono (uh X6).size))
 have ROW7:=jd ((uh HROW).below hb7)
 have hs7:ww.heap.size≤w7.heap.size:=hb7.size
 clear hb7 c21 d0
 cases t4
 case false =>
  obtain rfl:=hpost
  have hrr:=uh HR7
  rw [if_pos (uh HT4)] at hrr
  subst hrr
  clear HR7
  go_wp2_with (first
   | (refine Zab rfl 29 _ rfl [] rfl _ Zan ?_)
   | (refine Zaa rfl 29 (.tmp 6) (.tmp 59) rfl (w.heap.size+1) 29 _ #[.slice none 0 0,.int .u32 0] rfl rfl (uh N27) rfl (by kernel_rfl) (oZz rfl rfl) ?_
      intro w9 hb9 hg9
      have Z9:=jd hb9
      have E9:=jd (gWz (uh X7) hg9)
      clear hb9 hg9)
   | fail)
  exact rRRz rfl rfl rfl rfl rfl rfl (uh Z9) (uh E9)
 obtain ⟨vo,rfl,hro⟩:=hpost
 obtain ⟨Ao,co,rfl,hno,hco⟩:=Zac hro
 have HRO:=jd hro
 have hrr:=uh HR7
 rw [if_neg (by rw [uh HT4]; simp)] at hrr
 have HR8:=jd hrr
 clear hrr HR7 hro
 go_upto_region 12 with fail
 obtain ⟨sn,hsn⟩ :∃v,leW ((b.drop 5).take 4)=v:=⟨_,rfl⟩
 have hsnl:sn < 4294967296:=by rw [← hsn]; exact leW4 _ _
 obtain ⟨⟨h1,s1,q1⟩,hsh⟩ :∃p,ZbS x.hi x.se sn=p:=⟨_,rfl⟩
 have hpn:(Zay b).n=sn:=hsn
 have hrr:=uh HR8
 rw [hpn,hsh] at hrr
 dsimp only at hrr
 have HR9:=jd hrr
 have hlt:=Zdr x.hi x.se sn (uh HXO).hi (uh HXO).se hsnl
 rw [hsh] at hlt
 have HLT:=jd hlt
 have HSN:=jd hsn
 have HSH:=jd hsh
 have HPN:=jd hpn
 have HSL:=jd (fun W=>sl_lh W Ab nb cb 5 9 5 9 rfl rfl (by omega) (by have:=uh HBC; omega))
 have HRG7:=jd ((uh ROW7).range (uh HEOK) (uh HX))
 have hgr7:=(uh ROW7).blk.lt
 have HWR:Hid (∀ wz,Below w7.heap.size w7 wz→wz.rangeAt gr (i*26+22) [.int .u32 (x.hi:Int),.int .u32 (x.se:Int)]):=jd fun wz hz j v hv=>by
  rw [Nat.add_assoc]
  exact (hz.cell (p:=⟨gr,i*26+(22+j),none⟩) hgr7).trans ((Sess.range (uh HXO) (uh HRG7)).win j v hv)
 have HD0:Hid (∀ wz,Below w7.heap.size w7 wz→wz.cell? ⟨w4.heap.size,0,none⟩=some (.slice (some ⟨gr,0,none⟩) m c4)):=jd fun wz hz=>((uh N37).below hz (uh N37).lt).cell 0
 obtain ⟨dw,hdw,hdwr⟩:=Zfm
 have HDW:=jd hdw
 have HDWR:=jd hdwr
 clear hrr HR8 hsn hsh hpn hlt hdw hdwr
 go_cut [12,15] from 61 to 74 (fun e p W=>∃ g15,p=.pointer (some ⟨g15,0,none⟩)∧e=.int .i64 q1∧Blk W g15 48 #[.int .u32 (h1:Int),.int .u32 (s1:Int)]∧w7.heap.size≤g15∧Below w7.heap.size w7 W)
 case first =>
  have hS0:Below w7.heap.size w7 w7.drew:=(Below.refl _ _).drew
  refine wp_region_noPanic (wp_region_held_drew (S:=fun wz=>Below w7.heap.size w7 wz) (by kernel_rfl) hS0 (fun _=>?_))
  refine tq 0 rfl hS0 ?_
  refine tJz (v:=(.slice (some ⟨gr,0,none⟩) m c4)) 1 rfl (Or.inl ⟨by rfl,fun wz hSw=>?_⟩) hS0 ?_
  ·have hq:=uh HD0 wz hSw
   go_simp
  refine tq 2 rfl hS0 ?_
  refine tq 3 rfl hS0 ?_
  refine tq 4 rfl hS0 ?_
  refine tJz (v:=.agg #[.int .u32 (x.hi:Int),.int .u32 (x.se:Int)]) 5 rfl (yieldsIf_load_mid (by rfl) 48 (.tmp 66) rfl gr (i*26+22) rfl [.int .u32 (x.hi:Int),.int .u32 (x.se:Int)] dw (uh HWR) (uh HDW) (uh HDWR) (by kernel_rfl)) hS0 ?_
  refine tq 6 rfl hS0 ?_
  refine tJz (v:=(.slice (subA Ab 5 cb) (9 - 5) (cb - 5))) 7 rfl (Or.inl ⟨by rfl,fun wz hSw=>?_⟩) hS0 ?_
  ·have hq:=uh HSL wz
   go_simp
  refine Zbk (i:=8) (j:=14) rfl rfl (by kernel_rfl) (fun K hK=>?_) (fun K hK=>?_)
  ·skip
   rw [if_pos (by rfl)]
   go_simp
   refine (Zcl (subA Ab 5 cb) 4 (cb - 5) ((b.drop 5).take 4) w7.drew w.heap.size (((uh HBB).below ((uh X7).trans (hS0.mono (uh X7).size))).part (i:=5) (j:=9) (c:=cb) (by omega) (by omega) (uh HBC)) (by decide)).mono ?_
   rintro e wv ⟨rfl,rfl⟩
   rw [uh HSN]
   refine hK.out _ _ hS0 (fun _=>?_)
   clear hK K
   try simp only [Act.put,zA,zB,zC]
   refine tJz (v:=(.int .u32 (sn:Int))) 9 rfl (Or.inl ⟨by rfl,fun wz hSw=>?_⟩) hS0 ?_
   · have hw:IntKind.u32.wrap (sn:Int)=(sn:Int):=by rw [IntKind.wrap_u32]; omega
     go_simp
   refine Zbk (i:=10) (j:=14) rfl rfl (by kernel_rfl) (fun K hK=>?_) (fun K hK=>?_)
   · skip
     rw [if_pos (by rfl)]
     go_simp
     refine (Zc0 w7.drew x.hi x.se sn (uh HXO).hi (uh HXO).se hsnl).mono ?_
     rintro e wf ⟨he,hbn⟩
     rw [uh HSH] at he
     obtain rfl:e=.returned (.tuple #[.agg #[.int .u32 (h1:Int),.int .u32 (s1:Int)],.int .i64 q1]):=he
     have hwf:Below w7.heap.size w7 wf:=hS0.trans (hbn.mono hS0.size)
     refine hK.out _ _ hwf (fun _=>?_)
     clear hK K
     try simp only [Act.put,zA,zB,zC]
     refine tq 11 rfl hwf ?_
     refine tq 12 rfl hwf ?_
     refine tq 13 rfl hwf ?_
     refine tCz 14 rfl fun K hK=>?_
     obtain ⟨g15,hg15⟩ :∃k,(wf).heap.size=k:=⟨_,rfl⟩
     have hz5:Blk (wf.alloc (.cells #[.int .u32 0,.int .u32 0] 48)) g15 48 #[.int .u32 0,.int .u32 0]:=by rw [← hg15]; exact Blk.new wf _ _
     have h5g:w7.heap.size≤g15:=by rw [← hg15]; exact hwf.size
     refine ZaT 48 rfl (Zch _) ?_
     have ha:Below w7.heap.size w7 (wf.alloc (.cells #[.int .u32 0,.int .u32 0] 48)):=hwf.alloc hwf.size _
     refine hK.out _ _ ha (fun _=>?_)
     clear hK K
     try simp only [Act.put,zA,zB,zC]
     rw [hg15]
     clear hg15
     refine tOz 15 rfl fun K hK=>?_
     refine Zaf (by rfl) 48 (.tmp 15) (.tmp 73) rfl g15 48 _ #[.int .u32 (h1:Int),.int .u32 (s1:Int)] rfl rfl hz5 rfl (by kernel_rfl) (oZz rfl rfl) ?_
     intro w9 hb9 hg9
     have h9:Below w7.heap.size w7 w9:=ha.grown hg9 ha.size (fun j e=>by injection e with e; omega)
     refine hK.out _ _ h9 (fun _=>?_)
     clear hK K
     try simp only [Act.put]
     refine tq 16 rfl h9 ?_
     refine tDz ?_
     go_wp2_with fail
     go_meet
     exact ⟨g15,rfl,rfl,hb9,h5g,h9⟩
   · skip
     rw [if_pos (by rfl)]
     obtain ⟨g15,hg15⟩ :∃k,(w7.drew).heap.size=k:=⟨_,rfl⟩
     have hz5:Blk (w7.drew.alloc (.cells #[.int .u32 0,.int .u32 0] 48)) g15 48 #[.int .u32 0,.int .u32 0]:=by rw [← hg15]; exact Blk.new w7.drew _ _
     have h5g:w7.heap.size≤g15:=by rw [← hg15]; exact hS0.size
     refine ZaT 48 rfl (Zch _) ?_
     have ha:Below w7.heap.size w7 (w7.drew.alloc (.cells #[.int .u32 0,.int .u32 0] 48)):=hS0.alloc hS0.size _
     refine hK.out _ _ ha (fun _=>?_)
     clear hK K
     try simp only [Act.put,zA,zB,zC]
     rw [hg15]
     clear hg15
     refine tCz 10 rfl fun K hK=>?_
     go_simp
     refine (Zc0 (w7.drew.alloc (.cells #[.int .u32 0,.int .u32 0] 48)) x.hi x.se sn (uh HXO).hi (uh HXO).se hsnl).mono ?_
     rintro e wf ⟨he,hbn⟩
     rw [uh HSH] at he
     obtain rfl:e=.returned (.tuple #[.agg #[.int .u32 (h1:Int),.int .u32 (s1:Int)],.int .i64 q1]):=he
     have hwf:Below w7.heap.size w7 wf:=ha.trans (hbn.mono ha.size)
     have hz5:=hz5.below hbn hz5.lt
     refine hK.out _ _ hwf (fun _=>?_)
     clear hK K
     try simp only [Act.put,zA,zB,zC]
     refine tq 11 rfl hwf ?_
     refine tq 12 rfl hwf ?_
     refine tq 13 rfl hwf ?_
     refine tOz 15 rfl fun K hK=>?_
     refine Zaf (by rfl) 48 (.tmp 15) (.tmp 73) rfl g15 48 _ #[.int .u32 (h1:Int),.int .u32 (s1:Int)] rfl rfl hz5 rfl (by kernel_rfl) (oZz rfl rfl) ?_
     intro w9 hb9 hg9
     have h9:Below w7.heap.size w7 w9:=hwf.grown hg9 hwf.size (fun j e=>by injection e with e; omega)
     refine hK.out _ _ h9 (fun _=>?_)
     clear hK K
     try simp only [Act.put]
     refine tq 16 rfl h9 ?_
     refine tDz ?_
     go_wp2_with fail
     go_meet
     exact ⟨g15,rfl,rfl,hb9,h5g,h9⟩
  ·skip
   rw [if_pos (by rfl)]
   obtain ⟨g15,hg15⟩ :∃k,(w7.drew).heap.size=k:=⟨_,rfl⟩
   have hz5:Blk (w7.drew.alloc (.cells #[.int .u32 0,.int .u32 0] 48)) g15 48 #[.int .u32 0,.int .u32 0]:=by rw [← hg15]; exact Blk.new w7.drew _ _
   have h5g:w7.heap.size≤g15:=by rw [← hg15]; exact hS0.size
   refine ZaT 48 rfl (Zch _) ?_
   have ha:Below w7.heap.size w7 (w7.drew.alloc (.cells #[.int .u32 0,.int .u32 0] 48)):=hS0.alloc hS0.size _
   refine hK.out _ _ ha (fun _=>?_)
   clear hK K
   try simp only [Act.put,zA,zB,zC]
   rw [hg15]
   clear hg15
   refine tCz 8 rfl fun K hK=>?_
   go_simp
   refine (Zcl (subA Ab 5 cb) 4 (cb - 5) ((b.drop 5).take 4) (w7.drew.alloc (.cells #[.int .u32 0,.int .u32 0] 48)) w.heap.size (((uh HBB).below ((uh X7).trans (ha.mono (uh X7).size))).part (i:=5) (j:=9) (c:=cb) (by omega) (by omega) (uh HBC)) (by decide)).mono ?_
   rintro e wv ⟨rfl,rfl⟩
   rw [uh HSN]
   refine hK.out _ _ ha (fun _=>?_)
   clear hK K
   try simp only [Act.put,zA,zB,zC]
   refine tJz (v:=(.int .u32 (sn:Int))) 9 rfl (Or.inl ⟨by rfl,fun wz hSw=>?_⟩) ha ?_
   · have hw:IntKind.u32.wrap (sn:Int)=(sn:Int):=by rw [IntKind.wrap_u32]; omega
     go_simp
   refine tCz 10 rfl fun K hK=>?_
   go_simp
   refine (Zc0 (w7.drew.alloc (.cells #[.int .u32 0,.int .u32 0] 48)) x.hi x.se sn (uh HXO).hi (uh HXO).se hsnl).mono ?_
   rintro e wf ⟨he,hbn⟩
   rw [uh HSH] at he
   obtain rfl:e=.returned (.tuple #[.agg #[.int .u32 (h1:Int),.int .u32 (s1:Int)],.int .i64 q1]):=he
   have hwf:Below w7.heap.size w7 wf:=ha.trans (hbn.mono ha.size)
   have hz5:=hz5.below hbn hz5.lt
   refine hK.out _ _ hwf (fun _=>?_)
   clear hK K
   try simp only [Act.put,zA,zB,zC]
   refine tq 11 rfl hwf ?_
   refine tq 12 rfl hwf ?_
   refine tq 13 rfl hwf ?_
   refine tOz 15 rfl fun K hK=>?_
   refine Zaf (by rfl) 48 (.tmp 15) (.tmp 73) rfl g15 48 _ #[.int .u32 (h1:Int),.int .u32 (s1:Int)] rfl rfl hz5 rfl (by kernel_rfl) (oZz rfl rfl) ?_
   intro w9 hb9 hg9
   have h9:Below w7.heap.size w7 w9:=hwf.grown hg9 hwf.size (fun j e=>by injection e with e; omega)
   refine hK.out _ _ h9 (fun _=>?_)
   clear hK K
   try simp only [Act.put]
   refine tq 16 rfl h9 ?_
   refine tDz ?_
   go_wp2_with fail
   go_meet
   exact ⟨g15,rfl,rfl,hb9,h5g,h9⟩
 case rest =>
 obtain ⟨g15,rfl,rfl,hb15,hg15,h15⟩:=hcut
 have G15:=jd hb15
 have N38:=jd ((uh N37).below h15 (uh N37).lt)
 have N28:=jd ((uh N27).below h15 (uh N27).lt)
 have X8:=jd ((uh X7).trans (h15.mono (uh X7).size))
 have ROW8:=jd ((uh ROW7).below h15)
 have HRO8:=jd (Zam (uh HRO) h15)
 have hs8:w7.heap.size≤wc.heap.size:=h15.size
 clear hb15 h15 HWR HD0 HRG7 HSL HSN
 by_cases hq0:q1=0
 case neg =>
  have hrr:=uh HR9
  rw [if_pos hq0] at hrr
  subst hrr
  have hne:(q1 != 0)=true:=by simpa using hq0
  have HQ:=jd hq0
  clear HR9 hq0
  go_wp2_with (first
   | (refine Zab rfl 29 _ rfl [] rfl _ Zan ?_)
   | (refine Zaa rfl 29 (.tmp 6) (.tmp 77) rfl (w.heap.size+1) 29 _ #[.slice none 0 0,.int .u32 0] rfl rfl (uh N28) rfl (by kernel_rfl) (oZz rfl rfl) ?_
      intro w9 hb9 hg9
      have Z9:=jd hb9
      have E9:=jd (gWz (uh X8) hg9)
      clear hb9 hg9)
   | fail)
  exact bodyPost_ret (v:=.tuple #[.agg #[.slice none 0 0,.int .u32 0],.int .u32 0,.int .i64 0,.slice none 0 0,.int .i64 q1]) (Zb7 rfl _ (w.heap.size+1) 29 _ _ _ _ _ _ rfl rfl rfl rfl rfl (uh Z9) Tryz.underlying29 rfl (by kernel_rfl)) rfl (Zbm.bad (uh HQ) rfl (uh E9))
 subst hq0
 have hrr:=uh HR9
 rw [if_neg (by simp)] at hrr
 have HR10:=jd hrr
 clear hrr HR9
 have ok1:({ x with hi:=h1,se:=s1 }:Sess).Ok:=⟨(uh HXO).id,(uh HXO).user,(uh HXO).client,(uh HXO).server,(uh HXO).key,(uh HLT).1,(uh HLT).2,(uh HXO).out⟩
 obtain ⟨x1,hx1⟩ :∃y,({ x with hi:=h1,se:=s1 }:Sess)=y:=⟨_,rfl⟩
 have hset1:=Sess.set_win (uh HXO) h1 s1
 rw [hx1] at ok1 hset1
 have ok2:({ x1 with last:=now }:Sess).Ok:=⟨ok1.id,ok1.user,ok1.client,ok1.server,ok1.key,ok1.hi,ok1.se,ok1.out⟩
 obtain ⟨x2,hx2⟩ :∃y,({ x1 with last:=now }:Sess)=y:=⟨_,rfl⟩
 have hset2:=Sess.set_last ok1 now
 rw [hx2] at ok2 hset2
 have htk:took x sn now=x2:=by rw [← hx2,← hx1]; unfold took; rw [uh HSH]
 have hid2:x2.id=id:=by rw [← hx2,← hx1]; exact uh HXID
 have HOK1:=jd ok1
 have HOK2:=jd ok2
 have HSET1:=jd hset1
 have HSET2:=jd hset2
 have HTK:=jd htk
 have HID2:=jd hid2
 have hcs:cur.size=c4*26:=(uh ROW8).size
 have hlec:m≤c4:=hmc4
 have HCS:=jd hcs
 clear ok1 hx1 hset1 ok2 hx2 hset2 htk hid2 hcs
 go_upto_region 15 with fail
 have hB0:Below wc.heap.size wc wc.drew:=(Below.refl _ _).drew
 have hS0:(fun wz=>Blk wz w4.heap.size 29 #[.slice (some ⟨gr,0,none⟩) m c4,.int .u32 (nx:Int)]∧Blk wz g15 48 #[.int .u32 (h1:Int),.int .u32 (s1:Int)]) wc.drew:=⟨(uh N38).drew,(uh G15).drew⟩
 refine wp_region_noPanic (wp_region_held_drew (S:=fun wz=>Blk wz w4.heap.size 29 #[.slice (some ⟨gr,0,none⟩) m c4,.int .u32 (nx:Int)]∧Blk wz g15 48 #[.int .u32 (h1:Int),.int .u32 (s1:Int)]) (by kernel_rfl) hS0 (fun _=>?_))
 clear hB0
 refine tq 0 rfl hS0 ?_
 refine tJz (v:=(.slice (some ⟨gr,0,none⟩) m c4)) 1 rfl (Or.inl ⟨by rfl,fun wz hSw=>?_⟩) hS0 ?_
 ·have hq:=hSw.1.cell 0
  simp only [List.getElem?_toArray,List.getElem?_cons_zero] at hq
  go_simp
 refine tq 2 rfl hS0 ?_
 refine tq 3 rfl hS0 ?_
 refine tJz (v:=(.slice (some ⟨gr,0,none⟩) m c4)) 4 rfl (Or.inl ⟨by rfl,fun wz hSw=>?_⟩) hS0 ?_
 ·have hq:=hSw.1.cell 0
  simp only [List.getElem?_toArray,List.getElem?_cons_zero] at hq
  go_simp
 refine tq 5 rfl hS0 ?_
 refine tJz 6 rfl (Zar 48 (.tmp 15) (by rfl) rfl g15 rfl 48 #[.int .u32 (h1:Int),.int .u32 (s1:Int)] _ (fun _ h=>h.2) Tryz.underlying48 rfl (by kernel_rfl)) hS0 ?_
 refine tq 7 rfl hS0 ?_
 refine tq 8 rfl hS0 ?_
 refine tq 9 rfl hS0 ?_
 refine tOz 10 rfl fun K hK=>?_
 refine Zao (by rfl) 48 (.tmp 88) (.tmp 85) rfl gr (i*26+22) 50 cur (.agg #[.int .u32 (h1:Int),.int .u32 (s1:Int)]) [.int .u32 (h1:Int),.int .u32 (s1:Int)] _ rfl rfl (uh ROW8).blk.drew rfl (by rw [uh HCS]; simp; omega) (by kernel_rfl) (by intro u hu; simp at hu; rcases hu with rfl | rfl<;>rfl) rfl ?_
 intro wa hb hg
 have ROWA:=jd (RowM.part (w:=wc.drew) (i:=i) (j:=22) ⟨(uh ROW8).blk.drew,(uh ROW8).size,(uh ROW8).le,(uh ROW8).cap,(uh ROW8).take⟩ (uh HEOK) (uh HX) (uh HOK1) (uh HSET1) (by simp) hb)
 have SA:Blk wa w4.heap.size 29 #[.slice (some ⟨gr,0,none⟩) m c4,.int .u32 (nx:Int)]∧Blk wa g15 48 #[.int .u32 (h1:Int),.int .u32 (s1:Int)]:=⟨hS0.1.grown hg (fun e=>hS0.1.ne_ (uh ROW8).blk.drew (by decide) (by injection e)),hS0.2.grown hg (fun e=>hS0.2.ne_ (uh ROW8).blk.drew (by decide) (by injection e))⟩
 have N2A:=jd ((uh N28).drew.grown hg (fun e=>by injection e with e; omega))
 have ROA:=jd (World.ownsRow.kept (w:=wc.drew) (uh HRO8) hg (.inr (Zad (w:=wc.drew) (uh HRO8) (uh ROW8).blk.drew (by decide))))
 have XA:=jd ((uh X8).drew.grown hg (uh X8).size (fun j e=>by injection e with e; omega))
 clear hb hg
 refine hK.out _ _ SA (fun _=>?_)
 clear hK K
 try simp only [Act.put]
 refine tq 11 rfl SA ?_
 refine tq 12 rfl SA ?_
 refine tOz 13 rfl fun K hK=>?_
 refine Zao (by rfl) 2 (.tmp 90) (.tmp 86) rfl gr (i*26+25) 50 _ (.int .i64 now) [.int .i64 now] _ rfl rfl (uh ROWA).blk rfl (by rw [(uh ROWA).size]; simp; omega) (by kernel_rfl) (by intro u hu; simp at hu; subst hu; rfl) rfl ?_
 intro wb hb hg
 have ROWB:=jd (RowM.part (i:=i) (j:=25) (uh ROWA) (ZaE.set (uh HEOK) (uh HOK1)) (by rw [List.getElem?_set_self (by rw [uh HM]; exact him)]) (uh HOK2) (uh HSET2) (by simp) hb)
 have SB:Blk wb w4.heap.size 29 #[.slice (some ⟨gr,0,none⟩) m c4,.int .u32 (nx:Int)]∧Blk wb g15 48 #[.int .u32 (h1:Int),.int .u32 (s1:Int)]:=⟨SA.1.grown hg (fun e=>SA.1.ne_ (uh ROWA).blk (by decide) (by injection e)),SA.2.grown hg (fun e=>SA.2.ne_ (uh ROWA).blk (by decide) (by injection e))⟩
 have N2B:=jd ((uh N2A).gb hg)
 have ROB:=jd (World.ownsRow.kept (uh ROA) hg (.inr (Zad (uh ROA) (uh ROWA).blk (by decide))))
 have XB:=jd (gWz (uh XA) hg)
 clear hb hg
 refine hK.out _ _ SB (fun _=>?_)
 clear hK K
 try simp only [Act.put]
 refine tDz ?_
 have N3B:=jd SB.1
 clear SA SB hS0
 obtain ⟨cur2,ROWC⟩ :∃cur2,Hid (RowM wb gr c4 (E.set i x2) cur2):=⟨_,jd (by have:=uh ROWB; rwa [List.set_set] at this)⟩
 have hokC:ZaE (E.set i x2):=ZaE.set (uh HEOK) (uh HOK2)
 have HOKC:=jd hokC
 have HXC:Hid ((E.set i x2)[i]?=some x2):=jd (List.getElem?_set_self (by rw [uh HM]; exact him))
 obtain ⟨g,oo,hAb,hgl,hcell⟩:=Zcr (uh HBB) (by omega)
 obtain ⟨b9,hb9⟩ :∃x,b[9]?=some x:=⟨b[9]'(by rw [uh HLB]; omega),List.getElem?_eq_getElem _⟩
 have hkb:(Zay b).kb=b9:=by show b.getD 9 0=b9; simp [List.getD,hb9]
 have HKB:=jd hkb
 have HC9:=jd (fun (W:World) (hW:Below w.heap.size w W)=>(hW.cell (p:=⟨g,oo+9,none⟩) hgl).trans (hcell 9 b9 hb9))
 have HSA:=jd (fun W=>sl_l W Ao mo co 10 10 rfl hmo1)
 have hb9l:=b9.toNat_lt
 have hnb9:(9:Int) < (nb:Int):=by omega
 subst hAb
 clear hokC hcell hb9 hkb ROWB
 go_upto_region 16 with fail
 have hB0:Below wb.heap.size wb wb.drew:=(Below.refl _ _).drew
 have hS0:(fun wz=>Blk wz w4.heap.size 29 #[.slice (some ⟨gr,0,none⟩) m c4,.int .u32 (nx:Int)]∧Blk wz gr 50 cur2∧Below w.heap.size w wz) wb.drew:=⟨(uh N3B).drew,(uh ROWC).blk.drew,(uh XB).drew⟩
 refine wp_region_noPanic (wp_region_held_drew (S:=fun wz=>Blk wz w4.heap.size 29 #[.slice (some ⟨gr,0,none⟩) m c4,.int .u32 (nx:Int)]∧Blk wz gr 50 cur2∧Below w.heap.size w wz) (by kernel_rfl) hS0 (fun _=>?_))
 clear hB0
 refine tJz 0 rfl (Zar 29 (.tmp 11) (by rfl) rfl w4.heap.size rfl 29 #[.slice (some ⟨gr,0,none⟩) m c4,.int .u32 (nx:Int)] _ (fun _ h=>h.1) Tryz.underlying29 rfl (by kernel_rfl)) hS0 ?_
 refine tq 1 rfl hS0 ?_
 refine tJz (v:=(.slice (some ⟨gr,0,none⟩) m c4)) 2 rfl (Or.inl ⟨by rfl,fun wz hSw=>?_⟩) hS0 ?_
 ·have hq:=hSw.1.cell 0
  simp only [List.getElem?_toArray,List.getElem?_cons_zero] at hq
  go_simp
 refine tq 3 rfl hS0 ?_
 refine tq 4 rfl hS0 ?_
 refine tq 5 rfl hS0 ?_
 refine tJz (v:=(.int .u32 (id:Int))) 6 rfl (Or.inl ⟨by rfl,fun wz hSw=>?_⟩) hS0 ?_
 ·have hq:wz.cell? ⟨gr,i*26,none⟩=some (.int .u32 (id:Int)):=by rw [← uh HID2]; exact (Sess.range (uh HOK2) (RowM.range ⟨hSw.2.1,(uh ROWC).size,(uh ROWC).le,(uh ROWC).cap,(uh ROWC).take⟩ (uh HOKC) (uh HXC))).id
  go_simp
 refine tq 7 rfl hS0 ?_
 refine tq 8 rfl hS0 ?_
 refine tJz (v:=(.int .u8 (b9.toNat:Int))) 9 rfl (Or.inl ⟨by rfl,fun wz hSw=>?_⟩) hS0 ?_
 ·have hq:=uh HC9 wz hSw.2.2
  go_simp
 refine tJz (v:=(.int .i64 (b9.toNat:Int))) 10 rfl (Or.inl ⟨by rfl,fun wz hSw=>?_⟩) hS0 ?_
 ·have hw:IntKind.i64.wrap (b9.toNat:Int)=(b9.toNat:Int):=IntWalk.i64_in _ (by omega)
  go_simp
 refine tq 11 rfl hS0 ?_
 refine tJz (v:=(.slice (subA Ao 10 co) (mo - 10) (co - 10))) 12 rfl (Or.inl ⟨by rfl,fun wz hSw=>?_⟩) hS0 ?_
 ·have hq:=uh HSA wz
  go_simp
 refine tOz 13 rfl fun K hK=>?_
 refine Zaf (by rfl) 29 (.tmp 6) (.tmp 91) rfl (w.heap.size+1) 29 _ #[.slice (some ⟨gr,0,none⟩) m c4,.int .u32 (nx:Int)] rfl rfl (uh N2B).drew rfl (by kernel_rfl) (oZz rfl rfl) ?_
 intro wd hbd hgd
 have SD:Blk wd w4.heap.size 29 #[.slice (some ⟨gr,0,none⟩) m c4,.int .u32 (nx:Int)]∧Blk wd gr 50 cur2∧Below w.heap.size w wd:=⟨hS0.1.grown hgd (fun e=>by injection e with e; omega),hS0.2.1.grown hgd (fun e=>hS0.2.1.ne_ (uh N2B).drew (by decide) (by injection e)),hS0.2.2.grown hgd (uh XB).size (fun j e=>by injection e with e; omega)⟩
 have ROD:=jd (World.ownsRow.kept (w:=wb.drew) (uh ROB) hgd (.inr (Zad (w:=wb.drew) (uh ROB) (uh N2B).drew (by decide))))
 have RD:=jd hbd
 clear hbd hgd
 refine hK.out _ _ SD (fun _=>?_)
 clear hK K
 try simp only [Act.put]
 refine tq 14 rfl SD ?_
 refine tq 15 rfl SD ?_
 refine tq 16 rfl SD ?_
 refine tq 17 rfl SD ?_
 refine tDz ?_
 have ROWW:=jd (RowM.whole (base:=w.heap.size) (n:=m) ⟨SD.2.1,(uh ROWC).size,(uh ROWC).le,(uh ROWC).cap,(uh ROWC).take⟩ (uh HOKC) (by omega) (by rw [List.length_set,uh HM]))
 have XD:=jd SD.2.2
 clear SD hS0
 have hrr:=uh HR10
 rw [uh HTK,uh HKB] at hrr
 subst hrr
 go_wp2_with fail
 refine bodyPost_ret (v:=.tuple #[.agg #[.slice (some ⟨gr,0,none⟩) m c4,.int .u32 (nx:Int)],.int .u32 (id:Int),.int .i64 (b9.toNat:Int),.slice (subA Ao 10 co) (mo - 10) (co - 10),.int .i64 0]) (Zb7 rfl _ (w.heap.size+1) 29 _ _ _ _ _ _ rfl rfl rfl rfl rfl (uh RD) Tryz.underlying29 rfl (by kernel_rfl)) rfl ?_
 show Zbm w _ _ _
 unfold Zbm
 rw [if_pos rfl]
 refine ⟨_,subA Ao 10 co,mo - 10,co - 10,rfl,?_,?_,by omega,by omega,uh XD⟩
 · rw [List.length_set,uh HM]; exact uh ROWW
 ·have h:=(Zaj.of_own (uh ROD)).rest (i:=10) (c:=co) (by omega) hno
  have e:(b.take mo).drop 10=(Zay b).data:=by
   show _=(b.drop 10).take (b.length - 18)
   rw [List.drop_take,uh HLB,show nb - 18=mo - 10 by have:=uh HMO; omega]
  rw [e] at h
  exact h
end Go.Proofs.YtfbkkmnkpjgciaaGreat
