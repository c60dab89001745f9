/- Joined of GProof. No condition. -/
import Derived.Test.YtfbkkmnkpjgciaaGreatPG20
namespace Go.Proofs.YtfbkkmnkpjgciaaGreat
open Go.RowKit
section
variable {P:Program} {l:List Oper} {S:World→Prop} {a:Act} {o:Oper}
theorem y_neqs (t u:TypeId) (x y:Operand) (s s':List UInt8) (b:Bool) (hw:Region.wanted o (yielded l.toArray a.tmps)=true) (ho:o.op=.binOp .neq t x y u) (hx:a.eval x=.string ⟨s.toArray⟩) (hy:a.eval y=.string ⟨s'.toArray⟩) (hb:decide (s'=s)=b):YieldsIf P l.toArray S o (.bool (!b)) a :=
 .inl ⟨hw,fun w _=>by
  have e:(s==s')=b:=by
   rw [← hb]
   by_cases h:s'=s
   · subst h; simp
   ·have h2:¬ s=s':=fun e=>h e.symm
    simp [h,h2]
  unfold execOp
  simp [ho,hx,hy,binOp_string_neq,eqGuard,ByteArray.toList_eq,e]⟩
end
theorem proofS_st {L:List Sess} {nx:Nat} {b:List UInt8} {now:Int} (h:stC L nx now≠0):ZbN L nx b now=badS (stC L nx now):=by
 unfold stC at h ⊢
 unfold ZbN
 split
 · rfl
 ·split
  · rfl
  ·rename_i h1 h2
   rw [if_neg h1,if_neg h2] at h
   exact absurd rfl h
theorem stC_zero {L:List Sess} {nx:Nat} {now:Int} (h:stC L nx now=0):ZaS L nx=true∧ZcR now=true:=by
 unfold stC at h
 cases h1:ZaS L nx
 · rw [h1,if_pos rfl] at h; cases h
 ·cases h2:ZcR now
  · rw [h1,h2,if_neg (by simp),if_pos rfl] at h; cases h
  · exact ⟨rfl,rfl⟩
set_option maxRecDepth 100000 in
set_option maxHeartbeats 16000000 in
theorem Zd5 (w:World) (A:Option Addr) (n c:Nat) (L:List Sess) (nx:Nat) (hS:ZaA w w.heap.size A n L) (hn:n≤1000) (hnx:nx < 4294967296)
  (Ab:Option Addr) (nb cb:Nat) (b:List UInt8) (hb:Zaj w w.heap.size 1 Ab nb (bsV b)) (hbc:nb≤cb) (hbm:cb≤maxLen) (now:Int) (r:SRes) (hr:ZbN L nx b now=r) :
  Calls Tryz.prog 30 #[.agg #[.slice A n c,.int .u32 (nx:Int)],.slice Ab nb cb,.int .i64 now] w (ZaH w r):=by
 obtain ⟨W1,hW1⟩ :∃W1,(w.alloc (.cells #[.slice A n c,.int .u32 (nx:Int)] 29)).alloc (.cells #[.slice none 0 0,.int .u32 0] 29)=W1:=⟨_,rfl⟩
 have K0:Hid (Blk W1 w.heap.size 29 #[.slice A n c,.int .u32 (nx:Int)]):=jd (hW1 ▸ ((Blk.new w _ _).alloc _))
 have K2:Hid (Blk W1 (w.heap.size+1) 29 #[.slice none 0 0,.int .u32 0]):=jd (hW1 ▸ (Blk.new' (by simp)))
 have B1:Hid (Below w.heap.size w W1):=jd (hW1 ▸ ((Below.refl _ _).alloc (Nat.le_refl _) _).alloc (by rw [Zae]; omega) _)
 have HS:=jd hS
 have HBB:=jd hb
 have HR:=jd hr
 have hlb:b.length=nb:=by have:=hb.1; simpa [bsV] using this
 have HLB:=jd hlb
 have HBC:=jd hbc
 have HBM:=jd hbm
 have hnb:(nb:Int)≤9223372036854775807:=by unfold maxLen at hbm; omega
 have S1:=jd ((hS.below (uh B1)).more (uh B1).size)
 clear hS hb hr hlb hbc hbm
 go_enter Tryz.func30,Tryz.ntmps30
 go_wp2_with (first
  | (refine wpList_load_row rfl 29 _ rfl w.heap.size rfl 29 _ _ _ (uh K0) Tryz.underlying29 rfl (by kernel_rfl) ?_)
  | fail)
 refine (start_sx W1 A n c L nx (uh S1) hn hnx now).mono ?_
 rintro e w4 hst
 unfold ZcS at hst
 have hw1:w.heap.size+1 < W1.heap.size:=(uh K2).lt
 by_cases hsc:stC L nx now=0
 case neg =>
  rw [if_neg hsc] at hst
  obtain ⟨rfl,hb4⟩:=hst
  have hrr:=uh HR
  rw [proofS_st hsc] at hrr
  obtain ⟨cd,hcd⟩ :∃cd,stC L nx now=cd:=⟨_,rfl⟩
  rw [hcd] at hsc hrr ⊢
  subst hrr
  have hne:(cd != 0)=true:=by simpa using hsc
  have HSC:=jd hsc
  have M2:=jd (((uh K2).below hb4 (uh K2).lt).alloc (.cells #[.slice none 0 0,.int .u32 0] 29))
  have M3:=jd (Blk.new w4 29 #[.slice none 0 0,.int .u32 0])
  have hs4:W1.heap.size≤w4.heap.size:=hb4.size
  have X4:=jd (((uh B1).trans (hb4.mono (uh B1).size)).alloc (by have:=(uh B1).size; omega) (.cells #[.slice none 0 0,.int .u32 0] 29))
  have O4:=jd (World.ownsRow_nil (w4.alloc (.cells #[.slice none 0 0,.int .u32 0] 29)) 0 50 26)
  clear hb4 hcd hsc HR
  go_upto_region 2 with (first
   | (refine Zag rfl 29 rfl _ w4.heap.size rfl (ZaB _) ?_)
   |(refine Zaa rfl 29 (.tmp 9) (.tmp 18) rfl w4.heap.size 29 _ #[.slice none 0 0,.int .u32 0] rfl rfl (uh M3) rfl (by kernel_rfl) (oZz rfl rfl) ?_
     intro w5 hb5 hg5
     have N3:=jd hb5
     have N2:=jd ((uh M2).gb hg5)
     have O5:=jd (World.ownsRow.kept (uh O4) hg5 (.inr (Zad (uh O4) (uh M3) (by decide))))
     have X5:=jd (gWz (uh X4) hg5)
     have hs5:w4.heap.size < w5.heap.size:=hb5.lt
     clear hb5 hg5)
   | fail)
  go_wp2_with (first
   | (refine Zab rfl 29 _ rfl [] rfl _ Zan ?_)
   |(refine Zaa rfl 29 (.tmp 6) (.tmp 22) rfl (w.heap.size+1) 29 _ #[.slice none 0 0,.int .u32 0] rfl rfl (uh N2) rfl (by kernel_rfl) (oZz rfl rfl) ?_
     intro w9 hb9 hg9
     have Z9:=jd hb9
     have E9:=jd (gWz (uh X5) hg9)
     clear hb9 hg9)
   | fail)
  exact bodyPost_ret (v:=.tuple #[.agg #[.slice none 0 0,.int .u32 0],.slice none 0 0,.int .i64 cd]) (Za4 rfl _ (w.heap.size+1) 29 _ _ _ _ rfl rfl rfl (uh Z9) Tryz.underlying29 rfl (by kernel_rfl)) rfl (ZaH.bad (uh HSC) rfl (uh E9))
 rw [if_pos hsc] at hst
 obtain ⟨v4,rfl,ho4,hb4⟩:=hst
 obtain ⟨HT1,HT2⟩:=stC_zero hsc
 obtain ⟨E,hE⟩ :∃E,expF L nx now=E:=⟨_,rfl⟩
 have hEok:ZaE E:=by rw [← hE]; exact ZcP (uh HS).ok
 have hEl:E.length≤n:=by rw [← hE,← (uh HS).len]; exact Zd2 _ _ _
 have hlev:∀ x∈E,decide (1≤x.level∧x.level≤3)=true:=by rw [← hE]; exact expF_level HT1
 have hr3:=uh HR
 unfold ZbN at hr3
 rw [if_neg (by rw [HT1]; simp),if_neg (by rw [HT2]; simp)] at hr3
 rw [hE] at ho4 hr3
 have HR2:=jd hr3
 obtain ⟨m,hm⟩ :∃m,E.length=m:=⟨_,rfl⟩
 rw [hm] at ho4 hEl
 obtain ⟨A4,c4,hv4,hmc4,hcm4⟩:=Zac ho4
 subst hv4
 have M2:=jd (((uh K2).below hb4 (uh K2).lt).alloc (.cells #[.slice none 0 0,.int .u32 0] 29))
 have M3:=jd (Blk.new w4 29 #[.slice none 0 0,.int .u32 0])
 have hs4:W1.heap.size≤w4.heap.size:=hb4.size
 have X4:=jd (((uh B1).trans (hb4.mono (uh B1).size)).alloc (by have:=(uh B1).size; omega) (.cells #[.slice none 0 0,.int .u32 0] 29))
 have O4:=jd (ho4.alloc (.cells #[.slice none 0 0,.int .u32 0] 29))
 have HEOK:=jd hEok
 have HM:=jd hm
 have HLEV:=jd hlev
 clear ho4 hb4 hE hEok hm hlev hr3 HR hsc HT1 HT2
 go_upto_region 2 with (first
  | (refine Zag rfl 29 rfl _ w4.heap.size rfl (ZaB _) ?_)
  |(refine Zaa rfl 29 (.tmp 9) (.tmp 18) rfl w4.heap.size 29 _ #[.slice A4 m c4,.int .u32 (nx:Int)] rfl rfl (uh M3) rfl (by kernel_rfl) (oZz rfl rfl) ?_
    intro w5 hb5 hg5
    have N3:=jd hb5
    have N2:=jd ((uh M2).gb hg5)
    have O5:=jd (World.ownsRow.kept (uh O4) hg5 (.inr (Zad (uh O4) (uh M3) (by decide))))
    have X5:=jd (gWz (uh X4) hg5)
    have hs5:w4.heap.size < w5.heap.size:=hb5.lt
    clear hb5 hg5)
  | fail)
 by_cases h13:nb=13
 case neg =>
  have f1:((nb:Int) != 13)=true:=by simp; omega
  have hrr:=uh HR2
  rw [if_pos (fun h=>h13 ((uh HLB).symm.trans h.1))] at hrr
  subst hrr
  clear HR2
  go_wp2_with (first
   | (refine Zab rfl 29 _ rfl [] rfl _ Zan ?_)
   |(refine Zaa rfl 29 (.tmp 6) (.tmp 33) rfl (w.heap.size+1) 29 _ #[.slice none 0 0,.int .u32 0] rfl rfl (uh N2) rfl (by kernel_rfl) (oZz rfl rfl) ?_
     intro w9 hb9 hg9
     have Z9:=jd hb9
     have E9:=jd (gWz (uh X5) hg9)
     clear hb9 hg9)
   | fail)
  exact rSz rfl rfl rfl rfl (uh Z9) (uh E9)
 subst h13
 obtain ⟨g,oo,hAb,hgl,hcell⟩:=Zcr (uh HBB) (by omega)
 obtain ⟨b0,hb0⟩ :∃x,b[0]?=some x:=⟨b[0]'(by rw [uh HLB]; omega),List.getElem?_eq_getElem _⟩
 have c0:w5.cell? ⟨g,oo,none⟩=some (.int .u8 (b0.toNat:Int)):=((uh X5).cell (p:=⟨g,oo,none⟩) hgl).trans (hcell 0 b0 hb0)
 have HB0:=jd hb0
 subst hAb
 clear hcell hb0
 by_cases hz:b0=3
 case neg =>
  have f2:((b0.toNat:Int) != 3)=true:=by
   have:b0.toNat≠3:=fun e=>hz (UInt8.toNat_inj.1 e)
   simp; omega
  have hrr:=uh HR2
  rw [if_pos (fun h=>hz (Option.some.inj ((uh HB0).symm.trans h.2)))] at hrr
  subst hrr
  clear HR2
  go_wp2_with (first
   | (refine Zab rfl 29 _ rfl [] rfl _ Zan ?_)
   |(refine Zaa rfl 29 (.tmp 6) (.tmp 33) rfl (w.heap.size+1) 29 _ #[.slice none 0 0,.int .u32 0] rfl rfl (uh N2) rfl (by kernel_rfl) (oZz rfl rfl) ?_
     intro w9 hb9 hg9
     have Z9:=jd hb9
     have E9:=jd (gWz (uh X5) hg9)
     clear hb9 hg9)
   | fail)
  exact rSz rfl rfl rfl rfl (uh Z9) (uh E9)
 subst hz
 have hc0:w5.cell? ⟨g,oo,none⟩=some (.int .u8 3):=c0
 clear c0
 have hrr:=uh HR2
 rw [if_neg (by rw [uh HLB,uh HB0]; simp)] at hrr
 obtain ⟨id,hid⟩ :∃x,leW ((b.drop 1).take 4)=x:=⟨_,rfl⟩
 have hidl:id < 4294967296:=by rw [← hid]; exact leW4 _ _
 rw [hid] at hrr
 have HR5:=jd hrr
 have HID:=jd hid
 obtain ⟨fi,hfi⟩ :∃i,Zbl (idP id) E 0=i:=⟨_,rfl⟩
 have HFI:=jd hfi
 clear hrr HR2 hid hfi
 go_upto_region 6 with fail
 clear hc0
 have hS0:Below w5.heap.size w5 w5.drew:=(Below.refl _ _).drew
 refine wp_region_noPanic (wp_region_held_drew (S:=fun wz=>Below w5.heap.size w5 wz) (by kernel_rfl) hS0 (fun _=>?_))
 refine tJz 0 rfl (Zar 29 (.tmp 9) (by rfl) rfl w4.heap.size rfl 29 #[.slice A4 m c4,.int .u32 (nx:Int)] _ (fun _ h=>(uh N3).below h (uh N3).lt) Tryz.underlying29 rfl (by kernel_rfl)) hS0 ?_
 refine tq 1 rfl hS0 ?_
 refine tCz 2 rfl fun K hK=>?_
 go_simp
 refine (rid_sx _ 13 cb b w5.drew w.heap.size ((uh HBB).below (uh X5)).drew (by decide) (uh HBC) (uh HBM)).mono ?_
 rintro e w6 ⟨rfl,rfl⟩
 rw [uh HID]
 refine hK.out _ _ hS0 (fun _=>?_)
 clear hK K
 try simp only [Act.put,zA,zB,zC]
 refine tCz 3 rfl fun K hK=>?_
 go_simp
 refine (Zer w5.drew A4 m c4 E _ (ZaA.of_own (uh O5) (uh HEOK)) (by unfold maxLen; omega) id).mono ?_
 rintro e ww ⟨rfl,hb6⟩
 rw [uh HFI]
 have hBw:Below w5.heap.size w5 ww:=hS0.trans (hb6.mono hS0.size)
 refine hK.out _ _ hBw (fun _=>?_)
 clear hK K
 try simp only [Act.put,zA,zB,zC]
 refine tq 4 rfl hBw ?_
 refine tDz ?_
 have N36:=jd ((uh N3).below hBw hs5)
 have N26:=jd ((uh N2).below hBw (uh N2).lt)
 have O6:=jd (Zam (uh O5) hBw)
 have X6:=jd ((uh X5).trans (hBw.mono (uh X5).size))
 have hs6:w5.heap.size≤ww.heap.size:=hBw.size
 clear hBw hS0 hb6
 have d0:ww.cell? ⟨w4.heap.size,0,none⟩=some (.slice A4 m c4):=(uh N36).cell 0
 rcases Za8 (idP id) E 0 with ⟨e1,f1⟩ | ⟨i,x,e1,f1,hx,hpx⟩
 ·obtain rfl:fi=-1:=by rw [← uh HFI,e1]
  have hrr:=uh HR5
  rw [f1] at hrr
  dsimp only at hrr
  subst hrr
  clear HR5 e1 f1
  go_wp2_with (first
   | (refine Zab rfl 29 _ rfl [] rfl _ Zan ?_)
   |(refine Zaa rfl 29 (.tmp 6) (.tmp 48) rfl (w.heap.size+1) 29 _ #[.slice none 0 0,.int .u32 0] rfl rfl (uh N26) rfl (by kernel_rfl) (oZz rfl rfl) ?_
     intro w9 hb9 hg9
     have Z9:=jd hb9
     have E9:=jd (gWz (uh X6) hg9)
     clear hb9 hg9)
   | fail)
  exact rSz rfl rfl rfl rfl (uh Z9) (uh E9)
 rw [Nat.zero_add] at e1 f1
 obtain rfl:fi=(i:Int):=by rw [← uh HFI,e1]
 have hrr:=uh HR5
 rw [f1] at hrr
 dsimp only at hrr
 have HR6:=jd hrr
 have him:i < m:=by have:=(List.getElem?_eq_some_iff.1 hx).1; have:=uh HM; omega
 have hxo:x.Ok:=(uh HEOK) x (List.mem_of_getElem? hx)
 have hlx:=uh HLEV x (List.mem_of_getElem? hx)
 obtain ⟨gr,cap,cur,hv6,hgb,hrow,hml⟩:=RowM.of_own (uh O6) (uh HEOK) (by omega)
 injection hv6 with hA4 _ hc4
 subst hA4 hc4
 have hat:=Sess.range hxo (hrow.range (uh HEOK) hx)
 have hi0:((i:Int) < 0)=False:=by simp
 have hi0b:(0:Int)≤(i:Int):=by omega
 have hiz:(i:Int) < (m:Int):=by omega
 have c21:=hat.opn
 have HX:=jd hx
 have HXO:=jd hxo
 have HROW:=jd hrow
 have HLX:=jd (Zd3 hlx)
 clear hrr HR5 e1 f1 hx hxo hlx hrow hat hpx
 obtain ⟨t3,ht3⟩ :∃t,x.opn=t:=⟨_,rfl⟩
 rw [ht3] at c21
 have HT3:=jd ht3
 clear ht3
 cases t3
 case true =>
  have hrr:=uh HR6
  rw [if_pos (uh HT3)] at hrr
  subst hrr
  clear HR6
  go_wp2_with (first
   | (refine Zab rfl 29 _ rfl [] rfl _ Zan ?_)
   |(refine Zaa rfl 29 (.tmp 6) (.tmp 48) rfl (w.heap.size+1) 29 _ #[.slice none 0 0,.int .u32 0] rfl rfl (uh N26) rfl (by kernel_rfl) (oZz rfl rfl) ?_
     intro w9 hb9 hg9
     have Z9:=jd hb9
     have E9:=jd (gWz (uh X6) hg9)
     clear hb9 hg9)
   | fail)
  exact rSz rfl rfl rfl rfl (uh Z9) (uh E9)
 have hrr:=uh HR6
 rw [if_neg (by rw [uh HT3]; simp)] at hrr
 have HR7:=jd hrr
 clear hrr HR6
 have hgrw:=(uh HROW).blk.lt
 have HRG:=jd ((uh HROW).range (uh HEOK) (uh HX))
 have HN:=jd (Blk.new ww 50 Za7.cs.toArray)
 have Y0:=jd ((Below.refl ww.heap.size ww).alloc (Nat.le_refl _) (.cells Za7.cs.toArray 50))
 go_upto_region 10 with (first
  | (refine wpList_load_mid rfl 50 (.tmp 52) rfl gr (i*26) rfl _ _ (uh HRG) Tryz.underlying50 rfl (Zbf (uh HXO)) ?_)
  | (refine Zag rfl 50 rfl _ ww.heap.size rfl (ZbL _) ?_)
  |(refine Zaa rfl 50 (.tmp 12) (.tmp 53) rfl ww.heap.size 50 _ x.cs.toArray rfl rfl (uh HN) (Sess.size_eq (uh HXO)) (Zbb (uh HXO)) (fun v hv=>Sess.one v (by simpa using hv)) ?_
    intro w7 hb7 hg7
    have X7:=jd hb7
    have Y7:=jd ((uh Y0).grown hg7 (by rw [Zae]; omega) (fun j e=>by injection e with e; omega))
    have hs7:ww.heap.size < w7.heap.size:=hb7.lt
    clear hb7 hg7
    simp only [Act.put,zA,zB,zC])
  | fail)
 clear c21 d0
 have HAT:=jd (Sess.blk (uh HXO) (uh X7))
 have hat:=uh HAT
 have Q7:=jd (((uh HBB).below (uh X6)).below ((uh Y7).mono (by omega)))
 have HKX:=jd (uh HXO).key
 have HKI:=jd (ZaV x.key (uh HXO).key)
 have HKP:Hid (∀ (j:Nat) v,(bsV x.key)[j]?=some v→x.cs.toArray[5+j]?=some v):=jd fun j v hv=>by simpa using ((Sess.at_ (uh HXO)).key j v hv)
 have hidx:=(uh HXO).id
 obtain ⟨dk,hdk,hdr⟩:=Za5
 have HDK:=jd hdk
 have HDR:=jd hdr
 clear hat hdk hdr
 have hS0:Below w7.heap.size w7 w7.drew:=(Below.refl _ _).drew
 refine wp_region_noPanic (wp_region_held_drew (S:=fun wz=>Below w7.heap.size w7 wz) (by kernel_rfl) hS0 (fun _=>?_))
 refine tq 0 rfl hS0 ?_
 refine tJz (v:=(.int .u32 (x.id:Int))) 1 rfl (Or.inl ⟨by rfl,fun wz hSw=>?_⟩) hS0 ?_
 ·have hq:=(Sess.blk (uh HXO) ((uh X7).below hSw (uh X7).lt)).id
  go_simp
 refine tq 2 rfl hS0 ?_
 refine tJz 3 rfl (Zcc 46 (.tmp 56) (by rfl) rfl ww.heap.size 5 rfl 50 x.cs.toArray (bsV x.key) dk (fun wz h=>(uh X7).below h (uh X7).lt) (uh HKP) (uh HDK) (uh HDR) (uh HKI)) hS0 ?_
 refine tq 4 rfl hS0 ?_
 refine tJz (v:=(.int .u64 (x.client:Int))) 5 rfl (Or.inl ⟨by rfl,fun wz hSw=>?_⟩) hS0 ?_
 ·have hq:=(Sess.blk (uh HXO) ((uh X7).below hSw (uh X7).lt)).client
  go_simp
 refine tq 6 rfl hS0 ?_
 refine tJz (v:=(.int .u64 (x.server:Int))) 7 rfl (Or.inl ⟨by rfl,fun wz hSw=>?_⟩) hS0 ?_
 ·have hq:=(Sess.blk (uh HXO) ((uh X7).below hSw (uh X7).lt)).server
  go_simp
 refine tq 8 rfl hS0 ?_
 refine tJz (v:=(.int .i64 ((levB x.level).toNat:Int))) 9 rfl (Or.inl ⟨by rfl,fun wz hSw=>?_⟩) hS0 ?_
 ·have hq:=(Sess.blk (uh HXO) ((uh X7).below hSw (uh X7).lt)).level
  rw [← uh HLX] at hq
  go_simp
 refine tq 12 rfl hS0 ?_
 refine tJz 13 rfl (Zdp 22 9 5 (.tmp 66) (by rfl) rfl (some ⟨g,oo,none⟩) 13 cb rfl w.heap.size b (fun wz h=>(uh Q7).below (h.mono (by omega))) Tryz.underlying22 Tryz.underlying5 Tryz.underlying9) hS0 ?_
 refine tCz 10 rfl fun K hK=>?_
 go_simp
 refine (Zeg _ 3 x.key (uh HKX) x.id x.client x.server hidx (levB x.level)).mono ?_
 rintro e w8 ⟨v8,rfl,ho8,hb8⟩
 have hb8:Below w7.heap.size w7 w8:=hS0.trans hb8
 obtain ⟨A8,c8,hv8,h81,h82⟩:=Zac ho8
 subst hv8
 obtain ⟨t4,ht4⟩ :∃t,decide (b=ZbB 3 x.key x.id x.client x.server (levB x.level))=t:=⟨_,rfl⟩
 have HT4:=jd ht4
 have R8:=jd (Zaj.of_own ho8)
 refine hK.out _ _ hb8 (fun _=>?_)
 clear hK K
 try simp only [Act.put,zA,zB,zC]
 refine tOz 11 rfl fun K hK=>?_
 refine Ze9 w8 (by rfl) 22 9 5 (.tmp 64) rfl A8 13 c8 rfl w8.heap.size (ZbB 3 x.key x.id x.client x.server (levB x.level)) (uh R8) Tryz.underlying22 Tryz.underlying5 Tryz.underlying9 ?_
 refine hK.out _ _ hb8 (fun _=>?_)
 clear hK K
 try simp only [Act.put,zA,zB,zC]
 refine tJz 14 rfl (y_neqs 9 9 (.tmp 65) (.tmp 67) (ZbB 3 x.key x.id x.client x.server (levB x.level)) b t4 (by rfl) rfl rfl rfl (uh HT4)) hb8 ?_
 refine tDz ?_
 have Y8:=jd ((uh Y7).trans (hb8.mono (by omega)))
 have X8:=jd ((uh X7).below hb8 (uh X7).lt)
 have hs8:w7.heap.size≤w8.heap.size:=hb8.size
 have N38:=jd ((uh N36).below (uh Y8) (uh N36).lt)
 have N28:=jd ((uh N26).below (uh Y8) (uh N26).lt)
 have E8:=jd ((uh X6).trans ((uh Y8).mono (uh X6).size))
 have ROW8:=jd ((uh HROW).below (uh Y8))
 clear hb8 ho8 ht4 hS0 R8
 cases t4
 case false =>
  have hrr:=uh HR7
  rw [if_pos (uh HT4)] at hrr
  subst hrr
  clear HR7
  go_wp2_with (first
   | (refine Zab rfl 29 _ rfl [] rfl _ Zan ?_)
   |(refine Zaa rfl 29 (.tmp 6) (.tmp 69) rfl (w.heap.size+1) 29 _ #[.slice none 0 0,.int .u32 0] rfl rfl (uh N28) rfl (by kernel_rfl) (oZz rfl rfl) ?_
     intro w9 hb9 hg9
     have Z9:=jd hb9
     have E9:=jd (gWz (uh E8) hg9)
     clear hb9 hg9)
   | fail)
  exact rSz rfl rfl rfl rfl (uh Z9) (uh E9)
 have hrr:=uh HR7
 rw [if_neg (by rw [uh HT4]; simp)] at hrr
 have HR8:=jd hrr
 clear hrr HR7
 have hat8:=(Sess.blk (uh HXO) (uh X8))
 have a0:=hat8.id
 have a2:=hat8.level
 have a3:=hat8.client
 have a4:=hat8.server
 rw [← uh HLX] at a2
 obtain ⟨z,hz⟩ :∃z,derF x.key ZdW (x.client:Int) (x.server:Int)=z:=⟨_,rfl⟩
 have hzl:z.length=16:=by rw [← hz]; exact ZbK _ _ _ _
 have HZ:=jd hz
 have HZL:=jd hzl
 clear hat8 hz hzl
 go_wp2_with (first
  | (refine Zbe rfl 46 _ rfl ww.heap.size 5 50 x.cs.toArray (bsV x.key) dk rfl (uh X8) (uh HKP) (uh HDK) (uh HDR) (uh HKI) ?_)
  | fail)
 refine (Zeg w8 4 x.key (uh HKX) x.id x.client x.server hidx (levB x.level)).mono ?_
 rintro e w10 ⟨v10,rfl,ho10,hb10⟩
 have V10:Hid (w10.ownsRow w.heap.size 5 1 v10 13 (bsV (ZbB 4 x.key x.id x.client x.server (levB x.level)))):=jd (Zak ho10 (uh E8).size)
 have X10:=jd ((uh X8).below hb10 (uh X8).lt)
 have N310:=jd ((uh N38).below hb10 (uh N38).lt)
 have N210:=jd ((uh N28).below hb10 (uh N28).lt)
 have E10:=jd ((uh E8).trans (hb10.mono (uh E8).size))
 have ROW10:=jd ((uh ROW8).below hb10)
 have hs10:w8.heap.size≤w10.heap.size:=hb10.size
 have hat10:=(Sess.blk (uh HXO) (uh X10))
 have a3:=hat10.client
 have a4:=hat10.server
 clear hb10 ho10 hat10 a0 a2
 go_wp2_with (first
  | (refine Zbe rfl 46 _ rfl ww.heap.size 5 50 x.cs.toArray (bsV x.key) dk rfl (uh X10) (uh HKP) (uh HDK) (uh HDR) (uh HKI) ?_)
  | fail)
 refine (rsecret_sx w10 x.key (uh HKX) x.client x.server).mono ?_
 rintro e w11 ⟨rfl,hb11⟩
 rw [uh HZ]
 have V11:=jd (Zam (uh V10) hb11)
 have X11:=jd ((uh X10).below hb11 (uh X10).lt)
 have N311:=jd ((uh N310).below hb11 (uh N310).lt)
 have N211:=jd ((uh N210).below hb11 (uh N210).lt)
 have E11:=jd ((uh E10).trans (hb11.mono (uh E10).size))
 have ROW11:=jd ((uh ROW10).below hb11)
 have hs11:w10.heap.size≤w11.heap.size:=hb11.size
 clear hb11 a3 a4
 have okb:({ x with key:=z }:Sess).Ok:=⟨(uh HXO).id,(uh HXO).user,(uh HXO).client,(uh HXO).server,uh HZL,(uh HXO).hi,(uh HXO).se,(uh HXO).out⟩
 have okc:({ x with key:=z,opn:=true }:Sess).Ok:=⟨okb.id,okb.user,okb.client,okb.server,okb.key,okb.hi,okb.se,okb.out⟩
 have okd:({ x with key:=z,opn:=true,last:=now }:Sess).Ok:=⟨okb.id,okb.user,okb.client,okb.server,okb.key,okb.hi,okb.se,okb.out⟩
 have HOKB:=jd okb
 have HOKC:=jd okc
 have HOKD:=jd okd
 have HKZ:=jd (ZaV z (uh HZL))
 have hgi:gr < ww.heap.size:=hgrw
 have HXX:Hid (ZeI x now=({ x with key:=z,opn:=true,last:=now }:Sess)):=jd (by unfold ZeI; rw [uh HZ])
 clear okb okc okd
 go_upto_region 14 with (first
  |(refine Zal rfl 46 (.tmp 89) (.tmp 87) rfl ww.heap.size 5 50 x.cs.toArray (.agg (bsV z).toArray) (bsV z) ({ x with key:=z }:Sess).cs rfl rfl (uh X11) rfl (by rw [Sess.size (uh HXO)]; simp [bsV,uh HZL]) (uh HKZ) (by intro u hu; exact ZaL _ u hu) (by simpa using Sess.set_key (uh HXO) z (uh HZL)) ?_
    intro w12 hb hg
    have X12:=jd hb
    have N312:=jd ((uh N311).gb hg)
    have N212:=jd ((uh N211).gb hg)
    have V12:=jd (World.ownsRow.kept (uh V11) hg (.inr (Zad (uh V11) (uh X11) (by decide))))
    have ROW12:=jd (RowM.grown (uh ROW11) hg (by omega))
    have E12:=jd (gWz (uh E11) hg)
    have hs12:w11.heap.size≤w12.heap.size:=hg.size
    clear hb hg
    simp only [Act.put])
  |(refine Zal rfl 4 (.tmp 90) (.const (.bool true)) rfl ww.heap.size 21 50 ({ x with key:=z }:Sess).cs.toArray (.bool true) [.bool true] ({ x with key:=z,opn:=true }:Sess).cs rfl rfl (uh X12) rfl (by rw [Sess.size (uh HOKB)]; simp) (by kernel_rfl) (by intro u hu; simp at hu; subst hu; rfl) (by simpa using Sess.set_opn (uh HOKB) true) ?_
    intro w13 hb hg
    have X13:=jd hb
    have N313:=jd ((uh N312).gb hg)
    have N213:=jd ((uh N212).gb hg)
    have V13:=jd (World.ownsRow.kept (uh V12) hg (.inr (Zad (uh V12) (uh X12) (by decide))))
    have ROW13:=jd (RowM.grown (uh ROW12) hg (by omega))
    have E13:=jd (gWz (uh E12) hg)
    have hs13:w12.heap.size≤w13.heap.size:=hg.size
    clear hb hg
    simp only [Act.put])
  |(refine Zal rfl 2 (.tmp 91) (.tmp 88) rfl ww.heap.size 25 50 ({ x with key:=z,opn:=true }:Sess).cs.toArray (.int .i64 now) [.int .i64 now] ({ x with key:=z,opn:=true,last:=now }:Sess).cs rfl rfl (uh X13) rfl (by rw [Sess.size (uh HOKC)]; simp) (by kernel_rfl) (by intro u hu; simp at hu; subst hu; rfl) (by simpa using Sess.set_last (uh HOKC) now) ?_
    intro w14 hb hg
    have X14:=jd hb
    have N314:=jd ((uh N313).gb hg)
    have N214:=jd ((uh N213).gb hg)
    have V14:=jd (World.ownsRow.kept (uh V13) hg (.inr (Zad (uh V13) (uh X13) (by decide))))
    have ROW14:=jd (RowM.grown (uh ROW13) hg (by omega))
    have E14:=jd (gWz (uh E13) hg)
    have hs14:w13.heap.size≤w14.heap.size:=hg.size
    clear hb hg
    simp only [Act.put])
  | fail)
 have d14:w14.cell? ⟨w4.heap.size,0,none⟩=some (.slice (some ⟨gr,0,none⟩) m c4):=(uh N314).cell 0
 obtain ⟨y,hy⟩ :∃y,({ x with key:=z,opn:=true,last:=now }:Sess)=y:=⟨_,rfl⟩
 have HOP:Hid y.Ok:=jd (by rw [← hy]; exact uh HOKD)
 have X14':Hid (Blk w14 ww.heap.size 50 y.cs.toArray):=jd (by rw [← hy]; exact uh X14)
 have HY:Hid (ZeI x now=y):=jd (by rw [uh HXX,hy])
 clear hy
 have hfit:i*26+y.cs.length≤cur.size:=by
  rw [Sess.len (uh HOP),(uh ROW14).size]
  have:=(uh ROW14).le
  rw [uh HM] at this
  omega
 have HFIT:=jd hfit
 clear hfit
 go_upto_region 15 with (first
  | (refine wpList_load_row rfl 50 _ rfl ww.heap.size rfl 50 _ _ _ (uh X14') Tryz.underlying50 rfl (Zbb (uh HOP)) ?_)
  |(refine Zal rfl 50 (.tmp 96) (.tmp 95) rfl gr (i*26) 50 cur (.agg y.cs.toArray) y.cs _ rfl rfl (uh ROW14).blk rfl (uh HFIT) (Zbf (uh HOP)) Sess.one rfl ?_
    intro w15 hb hg
    have ROW15:=jd (RowM.set_ (i:=i) (uh ROW14) (uh HEOK) (uh HOP) (by rw [uh HM]; exact him) hb)
    have N315:=jd ((uh N314).grown hg (fun e=>((uh N314).ne_ (uh ROW14).blk (by decide)) (by injection e)))
    have N215:=jd ((uh N214).gb hg)
    have V15:=jd (World.ownsRow.kept (uh V14) hg (.inr (Zad (uh V14) (uh ROW14).blk (by decide))))
    have E15:=jd (gWz (uh E14) hg)
    clear hb hg
    simp only [Act.put])
  | fail)
 have ROWW:=jd ((uh ROW15).whole (ZaE.set (uh HEOK) (uh HOP)) (by omega:w.heap.size≤gr) (by rw [List.length_set,uh HM]) (n:=m))
 go_wp2_with (first
  | (refine wpList_load_row rfl 29 _ rfl w4.heap.size rfl 29 _ _ _ (uh N315) Tryz.underlying29 rfl (by kernel_rfl) ?_)
  |(refine Zaa rfl 29 (.tmp 6) (.tmp 97) rfl (w.heap.size+1) 29 _ #[.slice (some ⟨gr,0,none⟩) m c4,.int .u32 (nx:Int)] rfl rfl (uh N215) rfl (by kernel_rfl) (oZz rfl rfl) ?_
    intro w16 hb hg
    have R16:=jd hb
    have E16:=jd (gWz (uh E15) hg)
    have V16:=jd (World.ownsRow.kept (uh V15) hg (.inr (Zad (uh V15) (uh N215) (by decide))))
    have ROW16:=jd (World.ownsRow.kept (uh ROWW) hg (.inr (Zad (uh ROWW) (uh N215) (by decide))))
    clear hb hg)
  | fail)
 have hrr:=uh HR8
 rw [uh HY] at hrr
 subst hrr
 refine bodyPost_ret (v:=.tuple #[.agg #[.slice (some ⟨gr,0,none⟩) m c4,.int .u32 (nx:Int)],v10,.int .i64 0]) (Za4 rfl _ (w.heap.size+1) 29 _ _ _ _ rfl rfl rfl (uh R16) Tryz.underlying29 rfl (by kernel_rfl)) rfl ?_
 show ZaH w _ _ _
 unfold ZaH
 rw [if_pos rfl]
 refine ⟨_,_,rfl,?_,?_,uh E16⟩
 · rw [List.length_set,uh HM]; exact uh ROW16
 · rw [ZbY]; exact uh V16
end Go.Proofs.YtfbkkmnkpjgciaaGreat
