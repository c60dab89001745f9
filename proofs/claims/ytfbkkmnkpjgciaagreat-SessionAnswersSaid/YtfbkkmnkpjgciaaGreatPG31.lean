/- Joined of GHello. No condition. -/
import Derived.Test.YtfbkkmnkpjgciaaGreatPG21
import Derived.Test.YtfbkkmnkpjgciaaGreatPG30
import Derived.Test.YtfbkkmnkpjgciaaGreatPG22
import Derived.Test.YtfbkkmnkpjgciaaGreatPG26
namespace Go.Proofs.YtfbkkmnkpjgciaaGreat
open Go.RowKit
theorem own_lt {w:World} {base:Nat} {e:TypeId} {size n:Nat} {v:Value} {xs:List Value} (h:w.ownsRow base e size v n xs):∀ g,v.ownBlock=some g→g < w.heap.size:=(Own.of_ownsRow h).lt_
theorem helloS_st {L:List Sess} {nx:Nat} {U:List Usr} {C:List Chn} {ch:Int} {b:List UInt8} {nonce:Nat} {now:Int} (h:stC L nx now≠0):ZbI L nx U C ch b nonce now=badS (stC L nx now):=by
 unfold stC at h ⊢
 unfold ZbI
 split
 · rfl
 ·split
  · rfl
  ·rename_i h1 h2
   rw [if_neg h1,if_neg h2] at h
   exact absurd rfl h
section
variable {P:Program} {l:List Oper} {S:World→Prop} {a:Act} {o:Oper}
theorem y_build (t:TypeId) (parts:Array (Nat × Operand)) (hw:Region.wanted o (yielded l.toArray a.tmps)=true) (ho:o.op=.build t parts) (pl:List (Nat × Value)) (hp:(parts.toList.map fun p=>(p.1,a.eval p.2))=pl) (cells:Array Value) (hc:P.built t pl=some cells):YieldsIf P l.toArray S o (.agg cells) a :=
 .inl ⟨hw,fun w _=>by
  have hq:(parts.map fun p=>(p.1,a.eval p.2)).toList=pl:=by rw [← hp]; simp
  have hr:=run_build (P:=P) w t (parts.map fun p=>(p.1,a.eval p.2)) cells (by rw [hq]; exact hc)
  unfold execOp
  simp only [ho,Sem.run_bind]
  rw [hr]
  rfl⟩
end
set_option maxRecDepth 100000 in
set_option maxHeartbeats 16000000 in
theorem Zdq (w:World) (A:Option Addr) (n c:Nat) (L:List Sess) (nx:Nat) (hS:ZaA w w.heap.size A n L) (hn:n≤1000) (hnx:nx < 4294967296)
  (AU:Option Addr) (nU cU:Nat) (AC:Option Addr) (nC cC:Nat) (U:List Usr) (C:List Chn) (hU:UsrL w w.heap.size AU nU U) (hC:ChnL w w.heap.size AC nC C) (hnU:nU≤maxLen) (hnC:nC≤maxLen)
  (ch:Int) (Ab:Option Addr) (nb cb:Nat) (b:List UInt8) (hb:Zaj w w.heap.size 1 Ab nb (bsV b)) (hbc:nb≤cb) (hbm:cb≤maxLen) (nonce:Nat) (hno:nonce < 18446744073709551616) (now:Int) (r:SRes) (hr:ZbI L nx U C ch b nonce now=r) :
  Calls Tryz.prog 29 #[.agg #[.slice A n c,.int .u32 (nx:Int)],.agg #[.slice AU nU cU,.slice AC nC cC],.int .i64 ch,.slice Ab nb cb,.int .u64 (nonce:Int),.int .i64 now] w (ZaH w r):=by
 obtain ⟨W1,hW1⟩ :∃W1,((w.alloc (.cells #[.slice A n c,.int .u32 (nx:Int)] 29)).alloc (.cells #[.slice AU nU cU,.slice AC nC cC] 33)).alloc (.cells #[.slice none 0 0,.int .u32 0] 29)=W1:=⟨_,rfl⟩
 have K0:Hid (Blk W1 w.heap.size 29 #[.slice A n c,.int .u32 (nx:Int)]):=jd (hW1 ▸ (((Blk.new w _ _).alloc _).alloc _))
 have K1:Hid (Blk W1 (w.heap.size+1) 33 #[.slice AU nU cU,.slice AC nC cC]):=jd (hW1 ▸ ((Blk.new' (by simp)).alloc _))
 have K2:Hid (Blk W1 (w.heap.size+2) 29 #[.slice none 0 0,.int .u32 0]):=jd (hW1 ▸ (Blk.new' (by simp)))
 have B1:Hid (Below w.heap.size w W1):=jd (hW1 ▸ (((Below.refl _ _).alloc (Nat.le_refl _) _).alloc (by rw [Zae]; omega) _).alloc (by rw [Zae,Zae]; omega) _)
 have HS:=jd hS
 have HU:=jd hU
 have HC:=jd hC
 have HBB:=jd hb
 have HR:=jd hr
 have hlb:b.length=nb:=by have:=hb.1; simpa [bsV] using this
 have HLB:=jd hlb
 have HBC:=jd hbc
 have HBM:=jd hbm
 have HNU:=jd hnU
 have HNO:=jd hno
 have HNC:=jd hnC
 have hnb:(nb:Int)≤9223372036854775807:=by unfold maxLen at hbm; omega
 have S1:=jd ((hS.below (uh B1)).more (uh B1).size)
 clear hS hb hr hlb hbc hbm hU hC hnU hnC hno
 go_enter Tryz.func29,Tryz.ntmps29
 go_wp2_with (first
  | (refine wpList_load_row rfl 29 _ rfl w.heap.size rfl 29 _ _ _ (uh K0) Tryz.underlying29 rfl (by kernel_rfl) ?_)
  | fail)
 refine (start_sx W1 A n c L nx (uh S1) hn hnx now).mono ?_
 rintro e w4 hst
 unfold ZcS at hst
 have hw1:w.heap.size+2 < W1.heap.size:=(uh K2).lt
 by_cases hsc:stC L nx now=0
 case neg =>
  rw [if_neg hsc] at hst
  obtain ⟨rfl,hb4⟩:=hst
  have hrr:=uh HR
  rw [helloS_st hsc] at hrr
  obtain ⟨cd,hcd⟩ :∃cd,stC L nx now=cd:=⟨_,rfl⟩
  rw [hcd] at hsc hrr ⊢
  subst hrr
  have hne:(cd != 0)=true:=by simpa using hsc
  have HSC:=jd hsc
  have M1:=jd (((uh K1).below hb4 (uh K1).lt).alloc (.cells #[.slice none 0 0,.int .u32 0] 29))
  have M2:=jd (((uh K2).below hb4 (uh K2).lt).alloc (.cells #[.slice none 0 0,.int .u32 0] 29))
  have M3:=jd (Blk.new w4 29 #[.slice none 0 0,.int .u32 0])
  have hs4:W1.heap.size≤w4.heap.size:=hb4.size
  have X4:=jd (((uh B1).trans (hb4.mono (uh B1).size)).alloc (by have:=(uh B1).size; omega) (.cells #[.slice none 0 0,.int .u32 0] 29))
  have O4:=jd (World.ownsRow_nil (w4.alloc (.cells #[.slice none 0 0,.int .u32 0] 29)) 0 50 26)
  clear hb4 hcd hsc HR
  go_upto_region 2 with (first
   | (refine Zag rfl 29 rfl _ w4.heap.size rfl (ZaB _) ?_)
   | (refine Zaa rfl 29 (.tmp 15) (.tmp 25) rfl w4.heap.size 29 _ #[.slice none 0 0,.int .u32 0] rfl rfl (uh M3) rfl (by kernel_rfl) (oZz rfl rfl) ?_
      intro w5 hb5 hg5
      have N3:=jd hb5
      have N1:=jd ((uh M1).gb hg5)
      have N2:=jd ((uh M2).gb hg5)
      have O5:=jd (World.ownsRow.kept (uh O4) hg5 (.inr (Zad (uh O4) (uh M3) (by decide))))
      have X5:=jd (gWz (uh X4) hg5)
      have hs5:w4.heap.size < w5.heap.size:=hb5.lt
      clear hb5 hg5)
   | fail)
  go_wp2_with (first
   | (refine Zab rfl 29 _ rfl [] rfl _ Zan ?_)
   | (refine Zaa rfl 29 (.tmp 12) (.tmp 29) rfl (w.heap.size+2) 29 _ #[.slice none 0 0,.int .u32 0] rfl rfl (uh N2) rfl (by kernel_rfl) (oZz rfl rfl) ?_
      intro w9 hb9 hg9
      have Z9:=jd hb9
      have E9:=jd (gWz (uh X5) hg9)
      clear hb9 hg9)
   | fail)
  exact bodyPost_ret (v:=.tuple #[.agg #[.slice none 0 0,.int .u32 0],.slice none 0 0,.int .i64 cd]) (Za4 rfl _ (w.heap.size+2) 29 _ _ _ _ rfl rfl rfl (uh Z9) Tryz.underlying29 rfl (by kernel_rfl)) rfl (ZaH.bad (uh HSC) rfl (uh E9))
 rw [if_pos hsc] at hst
 obtain ⟨v4,rfl,ho4,hb4⟩:=hst
 obtain ⟨HT1,HT2⟩:=stC_zero hsc
 obtain ⟨E,hE⟩ :∃E,expF L nx now=E:=⟨_,rfl⟩
 have hEok:ZaE E:=by rw [← hE]; exact ZcP (uh HS).ok
 have hEl:E.length≤n:=by rw [← hE,← (uh HS).len]; exact Zd2 _ _ _
 have hr3:=uh HR
 unfold ZbI at hr3
 rw [if_neg (by rw [HT1]; simp),if_neg (by rw [HT2]; simp)] at hr3
 rw [hE] at ho4 hr3
 have HR2:=jd hr3
 obtain ⟨m,hm⟩ :∃m,E.length=m:=⟨_,rfl⟩
 rw [hm] at ho4 hEl
 obtain ⟨A4,c4,hv4,hmc4,hcm4⟩:=Zac ho4
 subst hv4
 have M1:=jd (((uh K1).below hb4 (uh K1).lt).alloc (.cells #[.slice none 0 0,.int .u32 0] 29))
 have M2:=jd (((uh K2).below hb4 (uh K2).lt).alloc (.cells #[.slice none 0 0,.int .u32 0] 29))
 have M3:=jd (Blk.new w4 29 #[.slice none 0 0,.int .u32 0])
 have hs4:W1.heap.size≤w4.heap.size:=hb4.size
 have X4:=jd (((uh B1).trans (hb4.mono (uh B1).size)).alloc (by have:=(uh B1).size; omega) (.cells #[.slice none 0 0,.int .u32 0] 29))
 have O4:=jd (ho4.alloc (.cells #[.slice none 0 0,.int .u32 0] 29))
 have HEOK:=jd hEok
 have HM:=jd hm
 clear ho4 hb4 hE hEok hm hr3 HR hsc HT1 HT2
 go_upto_region 2 with (first
  | (refine Zag rfl 29 rfl _ w4.heap.size rfl (ZaB _) ?_)
  |(refine Zaa rfl 29 (.tmp 15) (.tmp 25) rfl w4.heap.size 29 _ #[.slice A4 m c4,.int .u32 (nx:Int)] rfl rfl (uh M3) rfl (by kernel_rfl) (oZz rfl rfl) ?_
    intro w5 hb5 hg5
    have N3:=jd hb5
    have N1:=jd ((uh M1).gb hg5)
    have N2:=jd ((uh M2).gb hg5)
    have O5:=jd (World.ownsRow.kept (uh O4) hg5 (.inr (Zad (uh O4) (uh M3) (by decide))))
    have X5:=jd (gWz (uh X4) hg5)
    have hs5:w4.heap.size < w5.heap.size:=hb5.lt
    clear hb5 hg5)
  | fail)
 have HFM:Hid (ZcW b=false→badS 6=r):=jd (fun e=>by have hrr:=uh HR2; rw [if_pos e] at hrr; exact hrr)
 by_cases h11:nb < 11
 ·have f1:((nb:Int) < 11)=True:=by simp; omega
  have hrr:=uh HFM (by unfold ZcW; rw [uh HLB]; simp; intro h; omega)
  subst hrr
  clear HFM HR2
  go_wp2_with (first
   | (refine Zab rfl 29 _ rfl [] rfl _ Zan ?_)
   | (refine Zaa rfl 29 (.tmp 12) (.tmp 55) rfl (w.heap.size+2) 29 _ #[.slice none 0 0,.int .u32 0] rfl rfl (uh N2) rfl (by kernel_rfl) (oZz rfl rfl) ?_
      intro w9 hb9 hg9
      have Z9:=jd hb9
      have E9:=jd (gWz (uh X5) hg9)
      clear hb9 hg9)
   | fail)
  exact rSz rfl rfl rfl rfl (uh Z9) (uh E9)
 have f1:((nb:Int) < 11)=False:=by simp; omega
 have f9:(9:Int) < (nb:Int):=by omega
 have f0:(0:Int) < (nb:Int):=by omega
 obtain ⟨g,oo,hAb,hgl,hcell⟩:=Zcr (uh HBB) (by omega)
 have HCL:=jd (fun (W:World) (hW:Below w.heap.size w W) (j:Nat) (x:UInt8) (hj:b[j]?=some x)=>(hW.cell (p:=⟨g,oo+j,none⟩) hgl).trans (hcell j x hj))
 obtain ⟨b0,hb0⟩ :∃x,b[0]?=some x:=⟨b[0]'(by rw [uh HLB]; omega),List.getElem?_eq_getElem _⟩
 obtain ⟨lb,hlb⟩ :∃x,b[9]?=some x:=⟨b[9]'(by rw [uh HLB]; omega),List.getElem?_eq_getElem _⟩
 have e0:b.getD 0 0=b0:=by simp [List.getD,hb0]
 have e9:b.getD 9 0=lb:=by simp [List.getD,hlb]
 have HE0:=jd e0
 have HE9:=jd e9
 have HB9:=jd hlb
 have c0:w5.cell? ⟨g,oo,none⟩=some (.int .u8 (b0.toNat:Int)):=(uh HCL) w5 (uh X5) 0 b0 hb0
 have c9:w5.cell? ⟨g,oo+9,none⟩=some (.int .u8 (lb.toNat:Int)):=(uh HCL) w5 (uh X5) 9 lb hlb
 subst hAb
 have hlbt:=lb.toNat_lt
 have wlb:IntKind.i64.wrap (lb.toNat:Int)=(lb.toNat:Int):=IntWalk.i64_in _ (by omega)
 clear e0 e9 hb0 hlb hcell
 by_cases hz:b0=1
 case neg =>
  have f2:((b0.toNat:Int) != 1)=true:=by
   have:b0.toNat≠1:=fun e=>hz (UInt8.toNat_inj.1 e)
   simp; omega
  have hrr:=uh HFM (by unfold ZcW; rw [uh HE0]; simp [hz])
  subst hrr
  clear HFM HR2
  go_wp2_with (first
   | (refine Zab rfl 29 _ rfl [] rfl _ Zan ?_)
   | (refine Zaa rfl 29 (.tmp 12) (.tmp 55) rfl (w.heap.size+2) 29 _ #[.slice none 0 0,.int .u32 0] rfl rfl (uh N2) rfl (by kernel_rfl) (oZz rfl rfl) ?_
      intro w9 hb9 hg9
      have Z9:=jd hb9
      have E9:=jd (gWz (uh X5) hg9)
      clear hb9 hg9)
   | fail)
  exact rSz rfl rfl rfl rfl (uh Z9) (uh E9)
 subst hz
 have hc0:w5.cell? ⟨g,oo,none⟩=some (.int .u8 1):=c0
 clear c0
 obtain ⟨t3,ht3⟩ :∃t,decide (1≤(lb.toNat:Int)∧(lb.toNat:Int)≤3)=t:=⟨_,rfl⟩
 have HLV:=jd ht3
 obtain ⟨t4,ht4⟩ :∃t,ZbC (b.drop 10)=t:=⟨_,rfl⟩
 have HNM:=jd ht4
 clear ht3 ht4
 have hnl:(b.drop 10).length≤maxLen:=by rw [List.length_drop,uh HLB]; unfold maxLen; omega
 have hsl:(Instr.sliceAt 22 (.slice (some ⟨g,oo,none⟩) nb cb) (some (.int .i64 10)) none none).run Tryz.prog w5=.ok (.slice (subA (some ⟨g,oo,none⟩) 10 cb) (nb - 10) (cb - 10)) w5:=sl_l w5 _ nb cb 10 10 rfl (by omega)
 have HSL:=jd (fun W=>sl_l W (some ⟨g,oo,none⟩) nb cb 10 10 rfl (by omega))
 have HCV:=jd (fun (W:World) (hW:Below w.heap.size w W)=>Zb8 (c:=cb - 10) (((uh HBB).below hW).rest (i:=10) (c:=cb) (by omega) (uh HBC)) 22 9 5 Tryz.underlying22 Tryz.underlying5 Tryz.underlying9)
 have hcv:=(uh HCV) w5 (uh X5)
 cases t4
 case false =>
  have hrr:=uh HFM (by unfold ZcW; rw [uh HNM]; simp)
  subst hrr
  clear HFM HR2
  go_wp2_with (first
   | (refine Zab rfl 29 _ rfl [] rfl _ Zan ?_)
   | (refine Zaa rfl 29 (.tmp 12) (.tmp 55) rfl (w.heap.size+2) 29 _ #[.slice none 0 0,.int .u32 0] rfl rfl (uh N2) rfl (by kernel_rfl) (oZz rfl rfl) ?_
      intro w9 hb9 hg9
      have Z9:=jd hb9
      have E9:=jd (gWz (uh X5) hg9)
      clear hb9 hg9)
   | (go_at_call 63; refine (Za2 _ (lb.toNat:Int) _ (uh HLV)).mono ?_; rintro e w' ⟨rfl,rfl⟩)
   | (go_at_call 62; refine (ZaN _ (b.drop 10) hnl _ (uh HNM)).mono ?_; rintro e w' ⟨rfl,rfl⟩)
   | fail)
  exact rSz rfl rfl rfl rfl (uh Z9) (uh E9)
 cases t3
 case false =>
  have hrr:=uh HFM (by unfold ZcW; rw [uh HE9,uh HLV]; simp)
  subst hrr
  clear HFM HR2
  go_wp2_with (first
   | (refine Zab rfl 29 _ rfl [] rfl _ Zan ?_)
   | (refine Zaa rfl 29 (.tmp 12) (.tmp 55) rfl (w.heap.size+2) 29 _ #[.slice none 0 0,.int .u32 0] rfl rfl (uh N2) rfl (by kernel_rfl) (oZz rfl rfl) ?_
      intro w9 hb9 hg9
      have Z9:=jd hb9
      have E9:=jd (gWz (uh X5) hg9)
      clear hb9 hg9)
   | (go_at_call 63; refine (Za2 _ (lb.toNat:Int) _ (uh HLV)).mono ?_; rintro e w' ⟨rfl,rfl⟩)
   | (go_at_call 62; refine (ZaN _ (b.drop 10) hnl _ (uh HNM)).mono ?_; rintro e w' ⟨rfl,rfl⟩)
   | fail)
  exact rSz rfl rfl rfl rfl (uh Z9) (uh E9)
 have hf:ZcW b=true:=by
  unfold ZcW
  rw [uh HE0,uh HE9,uh HLV,uh HNM,uh HLB]
  simp; omega
 have hnb26:nb≤26:=by have:=(Zcy hf).2; rw [uh HLB] at this; exact this
 have hrr:=uh HR2
 rw [if_neg (by rw [hf]; simp),uh HE9] at hrr
 have HR3:=jd hrr
 have HF:=jd hf
 clear HFM hf hrr HR2
 go_upto_region 6 with (first
  | (go_at_call 63; refine (Za2 _ (lb.toNat:Int) _ (uh HLV)).mono ?_; rintro e w' ⟨rfl,rfl⟩)
  | (go_at_call 62; refine (ZaN _ (b.drop 10) hnl _ (uh HNM)).mono ?_; rintro e w' ⟨rfl,rfl⟩)
  | fail)
 clear hsl hcv hc0 c9
 go_cut [17,18] from 56 to 62 (fun s l W=>W=w5.drew∧s=.string ⟨(b.drop 10).toArray⟩∧l=.int .i64 (lb.toNat:Int))
 case first =>
  have hS0:Below w5.heap.size w5 w5.drew:=(Below.refl _ _).drew
  refine wp_region_noPanic (wp_region_held_drew (S:=fun wz=>Below w5.heap.size w5 wz) (by kernel_rfl) hS0 (fun _=>?_))
  refine tq 0 rfl hS0 ?_
  refine tJz (v:=(.slice (subA (some ⟨g,oo,none⟩) 10 cb) (nb - 10) (cb - 10))) 1 rfl (Or.inl ⟨by rfl,fun wz hSw=>?_⟩) hS0 ?_
  ·have hq:=uh HSL wz
   go_simp
  refine tJz 2 rfl (Zdp 22 9 5 (.tmp 57) (by rfl) rfl (subA (some ⟨g,oo,none⟩) 10 cb) (nb - 10) (cb - 10) rfl w.heap.size (b.drop 10) (fun wz h=>((uh HBB).below ((uh X5).trans (h.mono (uh X5).size))).rest (i:=10) (c:=cb) (by omega) (uh HBC)) Tryz.underlying22 Tryz.underlying5 Tryz.underlying9) hS0 ?_
  refine tq 3 rfl hS0 ?_
  refine tq 4 rfl hS0 ?_
  refine tJz (v:=(.int .u8 (lb.toNat:Int))) 5 rfl (Or.inl ⟨by rfl,fun wz hSw=>?_⟩) hS0 ?_
  ·have hq:=(uh HCL) wz ((uh X5).trans (hSw.mono (uh X5).size)) 9 lb (uh HB9)
   go_simp
  refine tJz (v:=(.int .i64 (lb.toNat:Int))) 6 rfl (Or.inl ⟨by rfl,fun wz hSw=>?_⟩) hS0 ?_
  ·skip
   go_simp
  refine tq 7 rfl hS0 ?_
  refine tq 8 rfl hS0 ?_
  refine tDz ?_
  go_wp2_with fail
  go_meet
  exact ⟨rfl,rfl,rfl⟩
 case rest =>
 obtain ⟨rfl,rfl,rfl⟩:=hcut
 have N1:=jd ((uh N1).drew)
 have N2:=jd ((uh N2).drew)
 have N3:=jd ((uh N3).drew)
 have X5:=jd ((uh X5).drew)
 have O5:Hid (w5.drew.ownsRow W1.heap.size 50 26 (.slice A4 m c4) m (Zat E)):=jd (uh O5)
 go_wp2_with (first
  | (refine wpList_load_row rfl 33 _ rfl (w.heap.size+1) rfl 33 _ _ _ (uh N1) Tryz.underlying33 rfl (by kernel_rfl) ?_)
  | fail)
 obtain ⟨⟨lm,ec⟩,hlm⟩ :∃p,limF U C (b.drop 10) ch=p:=⟨_,rfl⟩
 refine (rlimit_sx w5.drew AU nU cU AC nC cC U C (((uh HU).below (uh X5)).more (uh X5).size) (((uh HC).below (uh X5)).more (uh X5).size) (uh HNU) (uh HNC) (b.drop 10) ch lm ec hlm).mono ?_
 rintro e w6 ⟨rfl,hb6⟩
 have N16:=jd ((uh N1).below hb6 (uh N1).lt)
 have N26:=jd ((uh N2).below hb6 (uh N2).lt)
 have N36:=jd ((uh N3).below hb6 (uh N3).lt)
 have O6:=jd (Zam (uh O5) hb6)
 have X6:=jd ((uh X5).trans (hb6.mono (uh X5).size))
 have hs6:w5.heap.size≤w6.heap.size:=hb6.size
 have hrr:=uh HR3
 rw [hlm] at hrr
 have HLM:=jd hlm
 have HR4:=jd hrr
 clear hb6 hrr HR3 hlm
 by_cases he0:ec=0
 case neg =>
  have hrr:=uh HR4
  rw [if_pos he0] at hrr
  subst hrr
  have hne:(ec != 0)=true:=by simpa using he0
  have HE:=jd he0
  clear HR4 he0
  go_wp2_with (first
   | (refine Zab rfl 29 _ rfl [] rfl _ Zan ?_)
   | (refine Zaa rfl 29 (.tmp 12) (.tmp 73) rfl (w.heap.size+2) 29 _ #[.slice none 0 0,.int .u32 0] rfl rfl (uh N26) rfl (by kernel_rfl) (oZz rfl rfl) ?_
      intro w9 hb9 hg9
      have Z9:=jd hb9
      have E9:=jd (gWz (uh X6) hg9)
      clear hb9 hg9)
   | fail)
  exact bodyPost_ret (v:=.tuple #[.agg #[.slice none 0 0,.int .u32 0],.slice none 0 0,.int .i64 ec]) (Za4 rfl _ (w.heap.size+2) 29 _ _ _ _ rfl rfl rfl (uh Z9) Tryz.underlying29 rfl (by kernel_rfl)) rfl (ZaH.bad (uh HE) rfl (uh E9))
 subst he0
 have hrr:=uh HR4
 rw [if_neg (by simp)] at hrr
 have HR5:=jd hrr
 clear hrr HR4
 by_cases hlt:lm < (lb.toNat:Int)
 case pos =>
  have hrr:=uh HR5
  rw [if_pos hlt] at hrr
  subst hrr
  have fl:(lm < (lb.toNat:Int))=True:=by simp [hlt]
  clear HR5 hlt
  go_wp2_with (first
   | (refine Zab rfl 29 _ rfl [] rfl _ Zan ?_)
   | (refine Zaa rfl 29 (.tmp 12) (.tmp 79) rfl (w.heap.size+2) 29 _ #[.slice none 0 0,.int .u32 0] rfl rfl (uh N26) rfl (by kernel_rfl) (oZz rfl rfl) ?_
      intro w9 hb9 hg9
      have Z9:=jd hb9
      have E9:=jd (gWz (uh X6) hg9)
      clear hb9 hg9)
   | fail)
  exact rSz rfl rfl rfl rfl (uh Z9) (uh E9)
 have fl:(lm < (lb.toNat:Int))=False:=by simp; omega
 have hrr:=uh HR5
 rw [if_neg hlt] at hrr
 have HR6:=jd hrr
 have d0:w6.cell? ⟨w4.heap.size,0,none⟩=some (.slice A4 m c4):=(uh N36).cell 0
 have d1:w6.cell? ⟨w4.heap.size,1,none⟩=some (.int .u32 (nx:Int)):=(uh N36).cell 1
 clear hrr HR5 hlt
 by_cases h4:4≤m
 case pos =>
  have hrr:=uh HR6
  rw [if_pos (.inl (by rw [uh HM]; exact h4))] at hrr
  subst hrr
  have f4:((4:Int)≤(m:Int))=True:=by simp; omega
  clear HR6
  go_wp2_with (first
   | (refine Zab rfl 29 _ rfl [] rfl _ Zan ?_)
   | (refine Zaa rfl 29 (.tmp 12) (.tmp 90) rfl (w.heap.size+2) 29 _ #[.slice none 0 0,.int .u32 0] rfl rfl (uh N26) rfl (by kernel_rfl) (oZz rfl rfl) ?_
      intro w9 hb9 hg9
      have Z9:=jd hb9
      have E9:=jd (gWz (uh X6) hg9)
      clear hb9 hg9)
   | fail)
  exact rSz rfl rfl rfl rfl (uh Z9) (uh E9)
 have f4:((4:Int)≤(m:Int))=False:=by simp; omega
 by_cases hmx:nx=4294967295
 case pos =>
  have hrr:=uh HR6
  rw [if_pos (.inr hmx)] at hrr
  subst hrr
  have fx:((nx:Int)==4294967295)=true:=by simp; omega
  clear HR6
  go_wp2_with (first
   | (refine Zab rfl 29 _ rfl [] rfl _ Zan ?_)
   | (refine Zaa rfl 29 (.tmp 12) (.tmp 90) rfl (w.heap.size+2) 29 _ #[.slice none 0 0,.int .u32 0] rfl rfl (uh N26) rfl (by kernel_rfl) (oZz rfl rfl) ?_
      intro w9 hb9 hg9
      have Z9:=jd hb9
      have E9:=jd (gWz (uh X6) hg9)
      clear hb9 hg9)
   | fail)
  exact rSz rfl rfl rfl rfl (uh Z9) (uh E9)
 have fx:((nx:Int)==4294967295)=false:=by simp; omega
 have hrr:=uh HR6
 rw [if_neg (by rw [uh HM]; omega)] at hrr
 have HR7:=jd hrr
 clear hrr HR6
 go_upto_region 14 with fail
 clear d0 d1
 obtain ⟨iu,u,hfi,hu,hkey⟩:=limF_ok (uh HLM)
 obtain ⟨gu,ou,u',hAU,hgu,hu',huo,_,hru⟩:=(uh HU).at_ (k:=iu) (by omega) (by have:=(List.getElem?_eq_some_iff.1 hu).1; have:=(uh HU).len (by omega); omega)
 obtain rfl:u=u':=Option.some.inj (hu.symm.trans hu')
 have hiu:iu < nU:=by have:=(List.getElem?_eq_some_iff.1 hu).1; have:=(uh HU).len (by omega); omega
 have hiu2:(iu:Int) < (nU:Int):=by omega
 have hiu0:(0:Int)≤(iu:Int):=by omega
 obtain ⟨x,hx⟩ :∃x,newS U b nonce nx now=x:=⟨_,rfl⟩
 have HXN:=jd hx
 obtain ⟨vl,hvl⟩ :∃v,leW ((b.drop 1).take 8)=v:=⟨_,rfl⟩
 have HVL:=jd hvl
 have hvl2:vl < 18446744073709551616:=by rw [← hvl]; exact Zez _ (by simp; omega)
 have hxe:x=Sess.mk nx (b.drop 10) (lb.toNat:Int) vl nonce u.key false 0 0 0 now:=by rw [← hx]; unfold newS; rw [uh HE9,hkey,hvl]
 have HXE:=jd hxe
 have HUK:=jd huo.key
 have HFI:=jd hfi
 have HRU:=jd hru
 have HKU:Hid (∀ wz,Below w6.heap.size w6 wz→wz.rangeAt gu (ou+iu*19+1) (bsV u.key)):=jd fun wz hz j v hv=>by
  have h1:=(Usr.range huo hru).key j v hv
  have h2:=((uh X6).trans (hz.mono (uh X6).size)).cell (p:=⟨gu,ou+iu*19+(1+j),none⟩) hgu
  rw [Nat.add_assoc (ou+iu*19)]
  exact h2.trans h1
 have HSB:=jd (fun W=>sl_lh W (some ⟨g,oo,none⟩) nb cb 1 9 1 9 rfl rfl (by omega) (by have:=uh HBC; omega))
 have D0:Hid (∀ wz,Below w6.heap.size w6 wz→wz.cell? ⟨w4.heap.size,1,none⟩=some (.int .u32 (nx:Int))):=jd fun wz hz=>((uh N36).below hz (uh N36).lt).cell 1
 have D1:Hid (∀ wz,Below w6.heap.size w6 wz→wz.cell? ⟨w.heap.size+1,0,none⟩=some (.slice AU nU cU)):=jd fun wz hz=>((uh N16).below hz (uh N16).lt).cell 0
 obtain ⟨dk,hdk,hdr⟩:=Za5
 have HDK:=jd hdk
 have HDR:=jd hdr
 have HKI:=jd (ZaV u.key huo.key)
 have HOKX:Hid x.Ok:=jd (by rw [hxe]; exact ⟨hnx,by rw [List.length_drop,uh HLB]; unfold maxLen; omega,hvl2,uh HNO,huo.key,by show 0 < 4294967296; decide,by show 0 < 4294967296; decide,by show 0 < 4294967296; decide⟩)
 subst hAU
 clear hvl hx hxe hu hu' huo hru hkey hdk hdr hfi
 go_cut [20] from 91 to 108 (fun p W=>∃ g20,p=.pointer (some ⟨g20,0,none⟩)∧Blk W g20 50 x.cs.toArray∧w6.heap.size≤g20∧Below w6.heap.size w6 W)
 case first =>
  have hS0:Below w6.heap.size w6 w6.drew:=(Below.refl _ _).drew
  refine wp_region_noPanic (wp_region_held_drew (S:=fun wz=>Below w6.heap.size w6 wz) (by kernel_rfl) hS0 (fun _=>?_))
  refine tq 0 rfl hS0 ?_
  refine tJz (v:=(.int .u32 (nx:Int))) 1 rfl (Or.inl ⟨by rfl,fun wz hSw=>?_⟩) hS0 ?_
  ·have hq:=uh D0 wz hSw
   go_simp
  refine tq 2 rfl hS0 ?_
  refine tq 3 rfl hS0 ?_
  refine tq 4 rfl hS0 ?_
  refine tJz (v:=(.slice (subA (some ⟨g,oo,none⟩) 1 cb) (9 - 1) (cb - 1))) 5 rfl (Or.inl ⟨by rfl,fun wz hSw=>?_⟩) hS0 ?_
  ·have hq:=uh HSB wz
   go_simp
  refine tq 7 rfl hS0 ?_
  refine tq 8 rfl hS0 ?_
  refine tJz (v:=(.slice (some ⟨gu,ou,none⟩) nU cU)) 9 rfl (Or.inl ⟨by rfl,fun wz hSw=>?_⟩) hS0 ?_
  ·have hq:=uh D1 wz hSw
   go_simp
  refine tJz 10 rfl (Zar 33 (.tmp 7) (by rfl) rfl (w.heap.size+1) rfl 33 #[.slice (some ⟨gu,ou,none⟩) nU cU,.slice AC nC cC] _ (fun _ h=>(uh N16).below h (uh N16).lt) Tryz.underlying33 rfl (by kernel_rfl)) hS0 ?_
  refine tq 11 rfl hS0 ?_
  refine tq 16 rfl hS0 ?_
  refine Zbk (i:=6) (j:=18) rfl rfl (by kernel_rfl) (fun K hK=>?_) (fun K hK=>?_)
  ·skip
   rw [if_pos (by rfl)]
   go_simp
   refine (Zcl (subA (some ⟨g,oo,none⟩) 1 cb) 8 (cb - 1) ((b.drop 1).take 8) w6.drew w.heap.size (((uh HBB).below ((uh X6).trans (hS0.mono (uh X6).size))).part (i:=1) (j:=9) (c:=cb) (by omega) (by omega) (uh HBC)) (by decide)).mono ?_
   rintro e wv ⟨rfl,rfl⟩
   rw [uh HVL]
   refine hK.out _ _ hS0 (fun _=>?_)
   clear hK K
   try simp only [Act.put,zA,zB,zC]
   refine Zbk (i:=12) (j:=18) rfl rfl (by kernel_rfl) (fun K hK=>?_) (fun K hK=>?_)
   · skip
     rw [if_pos (by rfl)]
     go_simp
     refine (Zd8 w6.drew (some ⟨gu,ou,none⟩) nU cU _ U (((uh HU).below ((uh X6).trans (hS0.mono (uh X6).size))).more (by have:=hS0.size; have:=(uh X6).size; omega)) (uh HNU) (b.drop 10)).mono ?_
     rintro e wf ⟨rfl,hbn⟩
     rw [uh HFI]
     have hwf:Below w6.heap.size w6 wf:=hS0.trans (hbn.mono hS0.size)
     refine hK.out _ _ hwf (fun _=>?_)
     clear hK K
     try simp only [Act.put,zA,zB,zC]
     refine tq 13 rfl hwf ?_
     refine tq 14 rfl hwf ?_
     refine tJz (v:=.agg (bsV u.key).toArray) 15 rfl (yieldsIf_load_mid (by rfl) 46 (.tmp 105) rfl gu (ou+iu*19+1) rfl (bsV u.key) dk (uh HKU) (uh HDK) (uh HDR) (uh HKI)) hwf ?_
     refine tJz (v:=.agg x.cs.toArray) 17 rfl (y_build 50 _ (by rfl) rfl [(0,.int .u32 (nx:Int)),(1,.string ⟨(b.drop 10).toArray⟩),(2,.int .i64 (lb.toNat:Int)),(3,.int .u64 (vl:Int)),(4,.int .u64 (nonce:Int)),(5,.agg (bsV u.key).toArray),(9,.int .i64 now)] rfl x.cs.toArray (by rw [uh HXE]; exact ZdI nx (b.drop 10) (lb.toNat:Int) vl nonce u.key (uh HUK) now)) hwf ?_
     refine tCz 18 rfl fun K hK=>?_
     obtain ⟨g20,hg20⟩ :∃k,(wf).heap.size=k:=⟨_,rfl⟩
     have hz5:Blk (wf.alloc (.cells Za7.cs.toArray 50)) g20 50 Za7.cs.toArray:=by rw [← hg20]; exact Blk.new wf _ _
     have h5g:w6.heap.size≤g20:=by rw [← hg20]; exact hwf.size
     refine ZaT 50 rfl (ZbL _) ?_
     have ha:Below w6.heap.size w6 (wf.alloc (.cells Za7.cs.toArray 50)):=hwf.alloc hwf.size _
     refine hK.out _ _ ha (fun _=>?_)
     clear hK K
     try simp only [Act.put,zA,zB,zC]
     rw [hg20]
     clear hg20
     refine tOz 19 rfl fun K hK=>?_
     refine Zaf (by rfl) 50 (.tmp 20) (.tmp 108) rfl g20 50 _ x.cs.toArray rfl rfl hz5 (Sess.size_eq (uh HOKX)) (Zbb (uh HOKX)) (fun v hv=>Sess.one v (by simpa using hv)) ?_
     intro w9 hb9 hg9
     have h9:Below w6.heap.size w6 w9:=ha.grown hg9 ha.size (fun j e=>by injection e with e; omega)
     refine hK.out _ _ h9 (fun _=>?_)
     clear hK K
     try simp only [Act.put]
     refine tDz ?_
     go_wp2_with fail
     go_meet
     exact ⟨g20,rfl,hb9,h5g,h9⟩
   · skip
     rw [if_pos (by rfl)]
     obtain ⟨g20,hg20⟩ :∃k,(w6.drew).heap.size=k:=⟨_,rfl⟩
     have hz5:Blk (w6.drew.alloc (.cells Za7.cs.toArray 50)) g20 50 Za7.cs.toArray:=by rw [← hg20]; exact Blk.new w6.drew _ _
     have h5g:w6.heap.size≤g20:=by rw [← hg20]; exact hS0.size
     refine ZaT 50 rfl (ZbL _) ?_
     have ha:Below w6.heap.size w6 (w6.drew.alloc (.cells Za7.cs.toArray 50)):=hS0.alloc hS0.size _
     refine hK.out _ _ ha (fun _=>?_)
     clear hK K
     try simp only [Act.put,zA,zB,zC]
     rw [hg20]
     clear hg20
     refine tCz 12 rfl fun K hK=>?_
     go_simp
     refine (Zd8 (w6.drew.alloc (.cells Za7.cs.toArray 50)) (some ⟨gu,ou,none⟩) nU cU _ U (((uh HU).below ((uh X6).trans (ha.mono (uh X6).size))).more (by have:=ha.size; have:=(uh X6).size; omega)) (uh HNU) (b.drop 10)).mono ?_
     rintro e wf ⟨rfl,hbn⟩
     rw [uh HFI]
     have hwf:Below w6.heap.size w6 wf:=ha.trans (hbn.mono ha.size)
     have hz5:=hz5.below hbn hz5.lt
     refine hK.out _ _ hwf (fun _=>?_)
     clear hK K
     try simp only [Act.put,zA,zB,zC]
     refine tq 13 rfl hwf ?_
     refine tq 14 rfl hwf ?_
     refine tJz (v:=.agg (bsV u.key).toArray) 15 rfl (yieldsIf_load_mid (by rfl) 46 (.tmp 105) rfl gu (ou+iu*19+1) rfl (bsV u.key) dk (uh HKU) (uh HDK) (uh HDR) (uh HKI)) hwf ?_
     refine tJz (v:=.agg x.cs.toArray) 17 rfl (y_build 50 _ (by rfl) rfl [(0,.int .u32 (nx:Int)),(1,.string ⟨(b.drop 10).toArray⟩),(2,.int .i64 (lb.toNat:Int)),(3,.int .u64 (vl:Int)),(4,.int .u64 (nonce:Int)),(5,.agg (bsV u.key).toArray),(9,.int .i64 now)] rfl x.cs.toArray (by rw [uh HXE]; exact ZdI nx (b.drop 10) (lb.toNat:Int) vl nonce u.key (uh HUK) now)) hwf ?_
     refine tOz 19 rfl fun K hK=>?_
     refine Zaf (by rfl) 50 (.tmp 20) (.tmp 108) rfl g20 50 _ x.cs.toArray rfl rfl hz5 (Sess.size_eq (uh HOKX)) (Zbb (uh HOKX)) (fun v hv=>Sess.one v (by simpa using hv)) ?_
     intro w9 hb9 hg9
     have h9:Below w6.heap.size w6 w9:=hwf.grown hg9 hwf.size (fun j e=>by injection e with e; omega)
     refine hK.out _ _ h9 (fun _=>?_)
     clear hK K
     try simp only [Act.put]
     refine tDz ?_
     go_wp2_with fail
     go_meet
     exact ⟨g20,rfl,hb9,h5g,h9⟩
  ·skip
   rw [if_pos (by rfl)]
   obtain ⟨g20,hg20⟩ :∃k,(w6.drew).heap.size=k:=⟨_,rfl⟩
   have hz5:Blk (w6.drew.alloc (.cells Za7.cs.toArray 50)) g20 50 Za7.cs.toArray:=by rw [← hg20]; exact Blk.new w6.drew _ _
   have h5g:w6.heap.size≤g20:=by rw [← hg20]; exact hS0.size
   refine ZaT 50 rfl (ZbL _) ?_
   have ha:Below w6.heap.size w6 (w6.drew.alloc (.cells Za7.cs.toArray 50)):=hS0.alloc hS0.size _
   refine hK.out _ _ ha (fun _=>?_)
   clear hK K
   try simp only [Act.put,zA,zB,zC]
   rw [hg20]
   clear hg20
   refine tCz 6 rfl fun K hK=>?_
   go_simp
   refine (Zcl (subA (some ⟨g,oo,none⟩) 1 cb) 8 (cb - 1) ((b.drop 1).take 8) (w6.drew.alloc (.cells Za7.cs.toArray 50)) w.heap.size (((uh HBB).below ((uh X6).trans (ha.mono (uh X6).size))).part (i:=1) (j:=9) (c:=cb) (by omega) (by omega) (uh HBC)) (by decide)).mono ?_
   rintro e wv ⟨rfl,rfl⟩
   rw [uh HVL]
   refine hK.out _ _ ha (fun _=>?_)
   clear hK K
   try simp only [Act.put,zA,zB,zC]
   refine tCz 12 rfl fun K hK=>?_
   go_simp
   refine (Zd8 (w6.drew.alloc (.cells Za7.cs.toArray 50)) (some ⟨gu,ou,none⟩) nU cU _ U (((uh HU).below ((uh X6).trans (ha.mono (uh X6).size))).more (by have:=ha.size; have:=(uh X6).size; omega)) (uh HNU) (b.drop 10)).mono ?_
   rintro e wf ⟨rfl,hbn⟩
   rw [uh HFI]
   have hwf:Below w6.heap.size w6 wf:=ha.trans (hbn.mono ha.size)
   have hz5:=hz5.below hbn hz5.lt
   refine hK.out _ _ hwf (fun _=>?_)
   clear hK K
   try simp only [Act.put,zA,zB,zC]
   refine tq 13 rfl hwf ?_
   refine tq 14 rfl hwf ?_
   refine tJz (v:=.agg (bsV u.key).toArray) 15 rfl (yieldsIf_load_mid (by rfl) 46 (.tmp 105) rfl gu (ou+iu*19+1) rfl (bsV u.key) dk (uh HKU) (uh HDK) (uh HDR) (uh HKI)) hwf ?_
   refine tJz (v:=.agg x.cs.toArray) 17 rfl (y_build 50 _ (by rfl) rfl [(0,.int .u32 (nx:Int)),(1,.string ⟨(b.drop 10).toArray⟩),(2,.int .i64 (lb.toNat:Int)),(3,.int .u64 (vl:Int)),(4,.int .u64 (nonce:Int)),(5,.agg (bsV u.key).toArray),(9,.int .i64 now)] rfl x.cs.toArray (by rw [uh HXE]; exact ZdI nx (b.drop 10) (lb.toNat:Int) vl nonce u.key (uh HUK) now)) hwf ?_
   refine tOz 19 rfl fun K hK=>?_
   refine Zaf (by rfl) 50 (.tmp 20) (.tmp 108) rfl g20 50 _ x.cs.toArray rfl rfl hz5 (Sess.size_eq (uh HOKX)) (Zbb (uh HOKX)) (fun v hv=>Sess.one v (by simpa using hv)) ?_
   intro w9 hb9 hg9
   have h9:Below w6.heap.size w6 w9:=hwf.grown hg9 hwf.size (fun j e=>by injection e with e; omega)
   refine hK.out _ _ h9 (fun _=>?_)
   clear hK K
   try simp only [Act.put]
   refine tDz ?_
   go_wp2_with fail
   go_meet
   exact ⟨g20,rfl,hb9,h5g,h9⟩
 case rest =>
 obtain ⟨g20,rfl,hb20,hg20,h20⟩:=hcut
 have G20:=jd hb20
 have N27:=jd ((uh N26).below h20 (uh N26).lt)
 have N37:=jd ((uh N36).below h20 (uh N36).lt)
 have O7:=jd (Zam (uh O6) h20)
 have X7:=jd ((uh X6).trans (h20.mono (uh X6).size))
 have hrow:=own_lt (uh O6)
 have HROW:=jd hrow
 have hs7:w6.heap.size≤wc.heap.size:=h20.size
 have hg20w:g20 < wc.heap.size:=hb20.lt
 have hnx1:IntKind.u32.wrap ((nx:Int)+1)=((nx+1:Nat):Int):=by rw [IntKind.wrap_u32]; omega
 have RX:Hid (Zaj (wc.drew.alloc (.cells x.cs.toArray 50)) (wc.heap.size+1) 26 (some ⟨wc.heap.size,0,none⟩) 1 (Zat [x])):=jd ⟨by simp [Zat,x.len (uh HOKX)],fun _=>⟨_,rfl,Nat.lt_succ_self _,fun j u hu=>by rw [ZbM]; show (wc.drew.alloc (.cells x.cs.toArray 50)).cell? ⟨wc.drew.heap.size,0+j,none⟩=some u; rw [(Blk.new wc.drew 50 x.cs.toArray).cell]; simpa [Zat] using hu⟩⟩
 obtain ⟨i0,hi0_,hz0,hz1,hz2⟩:=info_parts ZeG
 have HI:=jd hi0_
 have HI0:=jd hz0
 have HI1:=jd hz1
 have HI2:=jd hz2
 clear hb20 h20 hrow hi0_ hz0 hz1 hz2 N16 HUK HFI HRU HKU HSB D0 D1 HDK HDR HKI HXE
 go_upto_region 15 with fail
 have hS0:Blk wc.drew w4.heap.size 29 #[.slice A4 m c4,.int .u32 (nx:Int)]∧Blk wc.drew g20 50 x.cs.toArray:=⟨(uh N37).drew,(uh G20).drew⟩
 refine wp_region_noPanic (Bars.region (b:=9) (S:=fun wz=>Blk wz w4.heap.size 29 #[.slice A4 m c4,.int .u32 (nx:Int)]∧Blk wz g20 50 x.cs.toArray) (by kernel_rfl) ?_)
 refine ZaP (i:=0) (v:=?_) rfl (by kernel_rfl) (by kernel_rfl) (by kernel_rfl) (by kernel_rfl) (by kernel_rfl) (Or.inl ⟨by rfl,fun wz hSw=>?_⟩) hS0 ?_
 rotate_left
 ·go_simp
  with_reducible rfl
 simp only [Act.put,zA,zB,zC]
 refine ZaP (i:=1) (v:=(.slice A4 m c4)) rfl (by kernel_rfl) (by kernel_rfl) (by kernel_rfl) (by kernel_rfl) (by kernel_rfl) (Or.inl ⟨by rfl,fun wz hSw=>?_⟩) hS0 ?_
 ·have hq:=hSw.1.cell 0
  simp only [List.getElem?_toArray,List.getElem?_cons_zero] at hq
  go_simp
 simp only [Act.put,zA,zB,zC]
 refine ZaP (i:=2) rfl (by kernel_rfl) (by kernel_rfl) (by kernel_rfl) (by kernel_rfl) (by kernel_rfl) (Zar 50 (.tmp 20) (by rfl) rfl g20 rfl 50 x.cs.toArray _ (fun _ h=>h.2) Tryz.underlying50 rfl (Zbb (uh HOKX))) hS0 ?_
 simp only [Act.put,zA,zB,zC]
 refine ZaP (i:=5) (v:=?_) rfl (by kernel_rfl) (by kernel_rfl) (by kernel_rfl) (by kernel_rfl) (by kernel_rfl) (Or.inl ⟨by rfl,fun wz hSw=>?_⟩) hS0 ?_
 rotate_left
 ·go_simp
  with_reducible rfl
 simp only [Act.put,zA,zB,zC]
 refine ZaP (i:=6) (v:=(.int .u32 (nx:Int))) rfl (by kernel_rfl) (by kernel_rfl) (by kernel_rfl) (by kernel_rfl) (by kernel_rfl) (Or.inl ⟨by rfl,fun wz hSw=>?_⟩) hS0 ?_
 ·have hq:=hSw.1.cell 1
  simp only [List.getElem?_toArray,List.getElem?_cons_zero,List.getElem?_cons_succ] at hq
  go_simp
 simp only [Act.put,zA,zB,zC]
 refine Zej (i:=7) (v:=(.int .u32 ((nx+1:Nat):Int))) rfl (by kernel_rfl) (by kernel_rfl) (by kernel_rfl) (by decide) (Or.inl ⟨by rfl,fun wz _=>?_⟩) (fun _=>hS0) ?_
 ·have hq:=hnx1
  go_simp
 simp only [Act.put,zA,zB,zC]
 refine ZdX (i:=3) rfl (by kernel_rfl) (fun K hK=>?_)
 rw [if_pos (by rfl)]
 refine Zc8 26 1 _ rfl [(0,.agg x.cs.toArray)] rfl _ _ (ZcJ wc.drew x (uh HOKX)) ?_
 have hS1:Blk (wc.drew.alloc (.cells x.cs.toArray 50)) w4.heap.size 29 #[.slice A4 m c4,.int .u32 (nx:Int)]∧Blk (wc.drew.alloc (.cells x.cs.toArray 50)) g20 50 x.cs.toArray:=⟨hS0.1.alloc _,hS0.2.alloc _⟩
 have O8:=jd (World.ownsRow.alloc (w:=wc.drew) (uh O7) (.cells x.cs.toArray 50))
 refine hK.out _ _ (fun _=>hS1) ?_
 clear hK K
 try simp only [Act.put,zA,zB,zC]
 refine ZdX (i:=4) rfl (by kernel_rfl) (fun K hK=>?_)
 refine ZaJ (wc.drew.alloc (.cells x.cs.toArray 50)) rfl (.tmp 110) (.tmp 112) 26 rfl W1.heap.size 50 i0 (.agg Za7.cs.toArray) 26 88 Tryz.underlying26 (uh HI) (uh HI0) (uh HI1) (uh HI2) ZcU (by omega) (.slice A4 m c4) m (Zat E) rfl (uh O8) (wc.heap.size+1) (some ⟨wc.heap.size,0,none⟩) 1 1 (Zat [x]) rfl (uh RX) (Zdt _) (by unfold maxLen; omega) (by omega) (by have:=(uh X7).size; rw [Zae]; show W1.heap.size≤wc.heap.size+1; omega) ?_
 intro v9 w9 ho9 hg9 _
 have hS2:Blk w9 w4.heap.size 29 #[.slice A4 m c4,.int .u32 (nx:Int)]∧Blk w9 g20 50 x.cs.toArray:=⟨hS1.1.grown hg9 (fun e=>(Zad (uh O8) hS1.1 (by decide)) e.symm),hS1.2.grown hg9 (fun e=>by have:=uh HROW g20 e.symm; omega)⟩
 obtain ⟨A9,c9,rfl,_,_⟩:=Zac ho9
 rw [show Zat E++Zat [x]=Zat (E++[x]) by simp [Zat]] at ho9
 have O9:=jd ho9
 have N29:=jd ((((uh N27).drew).alloc (.cells x.cs.toArray 50)).grown hg9 (fun e=>(Zad (uh O8) (((uh N27).drew).alloc (.cells x.cs.toArray 50)) (by decide)) e.symm))
 have X9:=jd (((uh X7).drew.alloc (uh X7).size (.cells x.cs.toArray 50)).grown hg9 (by rw [Zae]; have:=(uh X7).size; show _≤wc.heap.size+1; omega) (fun j e=>by have:=Zaw (uh O8) j e; omega))
 clear ho9 hg9
 refine hK.out _ _ (fun _=>hS2) ?_
 clear hK K
 try simp only [Act.put,zA,zB,zC]
 refine Zej (i:=8) (v:=?_) rfl (by kernel_rfl) (by kernel_rfl) (by kernel_rfl) (by decide) (Or.inl ⟨by rfl,fun wz _=>?_⟩) (fun _=>hS2) ?_
 rotate_left
 ·go_simp
  with_reducible rfl
 simp only [Act.put,zA,zB,zC]
 refine ZdX (i:=9) rfl (by kernel_rfl) (fun K hK=>?_)
 refine Zao (by rfl) 26 (.tmp 117) (.tmp 113) rfl w4.heap.size 0 29 #[.slice A4 m c4,.int .u32 (nx:Int)] (.slice A9 (m+1) c9) [.slice A9 (m+1) c9] [.slice A9 (m+1) c9,.int .u32 (nx:Int)] rfl rfl hS2.1 rfl (by simp) (by kernel_rfl) (by intro u hu; simp at hu; subst hu; rfl) rfl ?_
 intro w10 hb hg
 have P10:=hb
 have G10:Blk w10 g20 50 x.cs.toArray:=hS2.2.grown hg (fun e=>hS2.2.ne_ hS2.1 (by decide) (by injection e))
 have O10:=jd (World.ownsRow.kept (uh O9) hg (.inr (Zad (uh O9) hS2.1 (by decide))))
 have N210:=jd ((uh N29).gb hg)
 have X10:=jd (gWz (uh X9) hg)
 clear hb hg
 refine hK.out _ _ (fun h=>by cases h) ?_
 clear hK K
 try simp only [Act.put]
 refine Zej (i:=10) (v:=?_) rfl (by kernel_rfl) (by kernel_rfl) (by kernel_rfl) (by decide) (Or.inl ⟨by rfl,fun wz _=>?_⟩) (fun h=>by cases h) ?_
 rotate_left
 ·go_simp
  with_reducible rfl
 simp only [Act.put,zA,zB,zC]
 refine ZdX (i:=11) rfl (by kernel_rfl) (fun K hK=>?_)
 refine Zao (by rfl) 27 (.tmp 118) (.tmp 116) rfl w4.heap.size 1 29 #[.slice A9 (m+1) c9,.int .u32 (nx:Int)] (.int .u32 ((nx+1:Nat):Int)) [.int .u32 ((nx+1:Nat):Int)] [.slice A9 (m+1) c9,.int .u32 ((nx+1:Nat):Int)] rfl rfl P10 rfl (by simp) (by kernel_rfl) (by intro u hu; simp at hu; subst hu; rfl) rfl ?_
 intro w11 hb hg
 have P11:=jd hb
 have G11:=jd (G10.grown hg (fun e=>G10.ne_ P10 (by decide) (by injection e)))
 have O11:=jd (World.ownsRow.kept (uh O10) hg (.inr (Zad (uh O10) P10 (by decide))))
 have N211:=jd ((uh N210).gb hg)
 have X11:=jd (gWz (uh X10) hg)
 clear hb hg P10 G10
 refine hK.out _ _ (fun h=>by cases h) ?_
 clear hK K
 try simp only [Act.put]
 refine bar_done (by kernel_rfl) (NoPanic.normal ?_) _
 clear hS0 hS1 hS2
 go_upto_region 16 with fail
 have hid32:(nx:Int) < 4294967296:=by omega
 have hxid:x.id=nx:=by rw [← uh HXN]; rfl
 have XID:=jd hxid
 clear hxid
 go_cut [13,14] from 119 to 128 (fun v e W=>e=.int .i64 0∧W.ownsRow w.heap.size 5 1 v 13 (bsV (ZdZ nx nonce))∧Blk W (w.heap.size+2) 29 #[.slice A9 (m+1) c9,.int .u32 ((nx+1:Nat):Int)]∧W.ownsRow w.heap.size 50 26 (.slice A9 (m+1) c9) (m+1) (Zat (E++[x]))∧Below w.heap.size w W)
 case first =>
  have hB0:Below w11.heap.size w11 w11.drew:=(Below.refl _ _).drew
  have hS0:(fun wz=>Blk wz w4.heap.size 29 #[.slice A9 (m+1) c9,.int .u32 ((nx+1:Nat):Int)]∧Blk wz g20 50 x.cs.toArray) w11.drew:=⟨(uh P11).drew,(uh G11).drew⟩
  refine wp_region_noPanic (wp_region_held_drew (S:=fun wz=>Blk wz w4.heap.size 29 #[.slice A9 (m+1) c9,.int .u32 ((nx+1:Nat):Int)]∧Blk wz g20 50 x.cs.toArray) (by kernel_rfl) hS0 (fun _=>?_))
  refine tJz 0 rfl (Zar 29 (.tmp 15) (by rfl) rfl w4.heap.size rfl 29 #[.slice A9 (m+1) c9,.int .u32 ((nx+1:Nat):Int)] _ (fun _ h=>h.1) Tryz.underlying29 rfl (by kernel_rfl)) hS0 ?_
  refine tq 2 rfl hS0 ?_
  refine tJz (v:=(.int .u32 (nx:Int))) 3 rfl (Or.inl ⟨by rfl,fun wz hSw=>?_⟩) hS0 ?_
  ·have hq:=(Sess.blk (uh HOKX) hSw.2).id
   rw [uh XID] at hq
   go_simp
  refine tJz (v:=(.int .u64 (nx:Int))) 4 rfl (Or.inl ⟨by rfl,fun wz hSw=>?_⟩) hS0 ?_
  ·have hw64:IntKind.u64.wrap (nx:Int)=(nx:Int):=by rw [IntKind.wrap_u64]; omega
   go_simp
  refine tq 7 rfl hS0 ?_
  refine Zbk (i:=1) (j:=5) rfl rfl (by kernel_rfl) (fun K hK=>?_) (fun K hK=>?_)
  ·skip
   rw [if_pos (by rfl)]
   refine Zc8 22 1 _ rfl [(0,.int .u8 ((2:UInt8).toNat:Int))] rfl _ _ (Za0 w11.drew 2) ?_
   have ha:Blk (w11.drew.alloc (.cells #[.int .u8 ((2:UInt8).toNat:Int)] 5)) w4.heap.size 29 #[.slice A9 (m+1) c9,.int .u32 ((nx+1:Nat):Int)]∧Blk (w11.drew.alloc (.cells #[.int .u8 ((2:UInt8).toNat:Int)] 5)) g20 50 x.cs.toArray:=⟨hS0.1.alloc _,hS0.2.alloc _⟩
   refine hK.out _ _ ha (fun _=>?_)
   clear hK K
   try simp only [Act.put,zA,zB,zC]
   refine tCz 5 rfl fun K hK=>?_
   go_simp
   refine (Zbt (w11.drew.alloc (.cells #[.int .u8 ((2:UInt8).toNat:Int)] 5)) (nx:Int) 4 (by decide)).mono ?_
   rintro e w5b ⟨v5,rfl,o5,b5⟩
   obtain ⟨A5,c5,rfl,hc5,hm5⟩:=Zac o5
   have R5:=jd (Zaj.of_own o5)
   have hw5b:Blk w5b w4.heap.size 29 #[.slice A9 (m+1) c9,.int .u32 ((nx+1:Nat):Int)]∧Blk w5b g20 50 x.cs.toArray:=⟨ha.1.below b5 ha.1.lt,ha.2.below b5 ha.2.lt⟩
   refine hK.out _ _ hw5b (fun _=>?_)
   clear hK K
   try simp only [Act.put,zA,zB,zC]
   have la:Below w11.heap.size w11 (w11.drew.alloc (.cells #[.int .u8 ((2:UInt8).toNat:Int)] 5)):=((Below.refl _ _).drew).alloc (Nat.le_refl _) _
   have l5:Below w11.heap.size w11 w5b:=la.trans (b5.mono la.size)
   have ob:=Zam (ZeJ w11.drew w11.heap.size (Nat.le_refl _) 2) b5
   refine tOz 6 rfl fun K hK=>?_
   refine Zdu w5b (.tmp 120) (.tmp 124) _ A5 4 c5 rfl rfl rfl rfl w11.heap.size 1 [2] ob _ (leB (nx:Int) 4) (uh R5) (by decide) l5.size ?_
   intro A6 c6 w6b o6 hc6 hm6 b6
   have l6:Below w11.heap.size w11 w6b:=l5.trans b6
   have h6:Blk w6b w4.heap.size 29 #[.slice A9 (m+1) c9,.int .u32 ((nx+1:Nat):Int)]∧Blk w6b g20 50 x.cs.toArray:=⟨(uh P11).below l6 (uh P11).lt,(uh G11).below l6 (uh G11).lt⟩
   refine hK.out _ _ h6 (fun _=>?_)
   clear hK K
   try simp only [Act.put,zA,zB,zC]
   refine tCz 8 rfl fun K hK=>?_
   go_simp
   refine (Zbt w6b (nonce:Int) 8 (by decide)).mono ?_
   rintro e w7b ⟨v7,rfl,o7,b7⟩
   obtain ⟨A7,c7,rfl,hc7,hm7⟩:=Zac o7
   have R7:=jd (Zaj.of_own o7)
   have hw7b:Blk w7b w4.heap.size 29 #[.slice A9 (m+1) c9,.int .u32 ((nx+1:Nat):Int)]∧Blk w7b g20 50 x.cs.toArray:=⟨h6.1.below b7 h6.1.lt,h6.2.below b7 h6.2.lt⟩
   refine hK.out _ _ hw7b (fun _=>?_)
   clear hK K
   try simp only [Act.put,zA,zB,zC]
   have l7:Below w11.heap.size w11 w7b:=l6.trans (b7.mono l6.size)
   have o6:=Zam o6 b7
   refine tOz 9 rfl fun K hK=>?_
   refine Zdu w7b (.tmp 125) (.tmp 127) _ A7 8 c7 rfl rfl rfl rfl w11.heap.size 5 _ o6 _ (leB (nonce:Int) 8) (uh R7) (by decide) l7.size ?_
   intro A8b c8b w8b o8 hc8 hm8 b8
   have l8:Below w11.heap.size w11 w8b:=l7.trans b8
   have h8:Blk w8b w4.heap.size 29 #[.slice A9 (m+1) c9,.int .u32 ((nx+1:Nat):Int)]∧Blk w8b g20 50 x.cs.toArray:=⟨(uh P11).below l8 (uh P11).lt,(uh G11).below l8 (uh G11).lt⟩
   refine hK.out _ _ h8 (fun _=>?_)
   clear hK K
   try simp only [Act.put,zA,zB,zC]
   refine tOz 10 rfl fun K hK=>?_
   refine Zaf (by rfl) 29 (.tmp 12) (.tmp 119) rfl (w.heap.size+2) 29 _ #[.slice A9 (m+1) c9,.int .u32 ((nx+1:Nat):Int)] rfl rfl ((uh N211).below l8 (uh N211).lt) rfl (by kernel_rfl) (oZz rfl rfl) ?_
   intro w12 hb12 hg12
   have h12:Blk w12 w4.heap.size 29 #[.slice A9 (m+1) c9,.int .u32 ((nx+1:Nat):Int)]∧Blk w12 g20 50 x.cs.toArray:=⟨h8.1.grown hg12 (fun e=>by injection e with e; omega),h8.2.grown hg12 (fun e=>by injection e with e; omega)⟩
   have res:=(uh N211).below l8 (uh N211).lt
   have f1:=World.ownsRow.kept o8 hg12 (.inr (Zad o8 res (by decide)))
   have f2:=World.ownsRow.kept (Zam (uh O11) l8) hg12 (.inr (Zad (Zam (uh O11) l8) res (by decide)))
   have f3:=((uh X11).trans (l8.mono (uh X11).size)).grown hg12 (by have:=(uh X11).size; have:=l8.size; omega) (fun j e=>by injection e with e; omega)
   refine hK.out _ _ h12 (fun _=>?_)
   clear hK K
   try simp only [Act.put]
   refine tq 11 rfl h12 ?_
   refine tq 12 rfl h12 ?_
   refine tDz ?_
   go_wp2_with fail
   go_meet
   refine ⟨rfl,?_,hb12,Zak f2 (by have:=(uh B1).size; omega),f3⟩
   rw [show ZdZ nx nonce=([2]++leB (nx:Int) 4)++leB (nonce:Int) 8 by simp [ZdZ,Zbh]]
   exact Zak f1 (uh X11).size
  ·skip
   rw [if_pos (by rfl)]
   go_simp
   refine (Zbt w11.drew (nx:Int) 4 (by decide)).mono ?_
   rintro e w5b ⟨v5,rfl,o5,b5⟩
   obtain ⟨A5,c5,rfl,hc5,hm5⟩:=Zac o5
   have R5:=jd (Zaj.of_own o5)
   have hw5b:Blk w5b w4.heap.size 29 #[.slice A9 (m+1) c9,.int .u32 ((nx+1:Nat):Int)]∧Blk w5b g20 50 x.cs.toArray:=⟨hS0.1.below b5 hS0.1.lt,hS0.2.below b5 hS0.2.lt⟩
   refine hK.out _ _ hw5b (fun _=>?_)
   clear hK K
   try simp only [Act.put,zA,zB,zC]
   have l5:Below w11.heap.size w11 w5b:=((Below.refl _ _).drew).trans b5
   refine tCz 1 rfl fun K hK=>?_
   refine Zc8 22 1 _ rfl [(0,.int .u8 ((2:UInt8).toNat:Int))] rfl _ _ (Za0 w5b 2) ?_
   have ha:Blk (w5b.alloc (.cells #[.int .u8 ((2:UInt8).toNat:Int)] 5)) w4.heap.size 29 #[.slice A9 (m+1) c9,.int .u32 ((nx+1:Nat):Int)]∧Blk (w5b.alloc (.cells #[.int .u8 ((2:UInt8).toNat:Int)] 5)) g20 50 x.cs.toArray:=⟨hw5b.1.alloc _,hw5b.2.alloc _⟩
   refine hK.out _ _ ha (fun _=>?_)
   clear hK K
   try simp only [Act.put,zA,zB,zC]
   have l5a:Below w11.heap.size w11 (w5b.alloc (.cells #[.int .u8 ((2:UInt8).toNat:Int)] 5)):=l5.alloc l5.size _
   have ob:=ZeJ w5b w11.heap.size l5.size 2
   have R5:=jd ((uh R5).alloc (Nat.le_refl _) (.cells #[.int .u8 ((2:UInt8).toNat:Int)] 5))
   refine tOz 6 rfl fun K hK=>?_
   refine Zdu (w5b.alloc (.cells #[.int .u8 ((2:UInt8).toNat:Int)] 5)) (.tmp 120) (.tmp 124) _ A5 4 c5 rfl rfl rfl rfl w11.heap.size 1 [2] ob _ (leB (nx:Int) 4) (uh R5) (by decide) l5a.size ?_
   intro A6 c6 w6b o6 hc6 hm6 b6
   have l6:Below w11.heap.size w11 w6b:=l5a.trans b6
   have h6:Blk w6b w4.heap.size 29 #[.slice A9 (m+1) c9,.int .u32 ((nx+1:Nat):Int)]∧Blk w6b g20 50 x.cs.toArray:=⟨(uh P11).below l6 (uh P11).lt,(uh G11).below l6 (uh G11).lt⟩
   refine hK.out _ _ h6 (fun _=>?_)
   clear hK K
   try simp only [Act.put,zA,zB,zC]
   refine tCz 8 rfl fun K hK=>?_
   go_simp
   refine (Zbt w6b (nonce:Int) 8 (by decide)).mono ?_
   rintro e w7b ⟨v7,rfl,o7,b7⟩
   obtain ⟨A7,c7,rfl,hc7,hm7⟩:=Zac o7
   have R7:=jd (Zaj.of_own o7)
   have hw7b:Blk w7b w4.heap.size 29 #[.slice A9 (m+1) c9,.int .u32 ((nx+1:Nat):Int)]∧Blk w7b g20 50 x.cs.toArray:=⟨h6.1.below b7 h6.1.lt,h6.2.below b7 h6.2.lt⟩
   refine hK.out _ _ hw7b (fun _=>?_)
   clear hK K
   try simp only [Act.put,zA,zB,zC]
   have l7:Below w11.heap.size w11 w7b:=l6.trans (b7.mono l6.size)
   have o6:=Zam o6 b7
   refine tOz 9 rfl fun K hK=>?_
   refine Zdu w7b (.tmp 125) (.tmp 127) _ A7 8 c7 rfl rfl rfl rfl w11.heap.size 5 _ o6 _ (leB (nonce:Int) 8) (uh R7) (by decide) l7.size ?_
   intro A8b c8b w8b o8 hc8 hm8 b8
   have l8:Below w11.heap.size w11 w8b:=l7.trans b8
   have h8:Blk w8b w4.heap.size 29 #[.slice A9 (m+1) c9,.int .u32 ((nx+1:Nat):Int)]∧Blk w8b g20 50 x.cs.toArray:=⟨(uh P11).below l8 (uh P11).lt,(uh G11).below l8 (uh G11).lt⟩
   refine hK.out _ _ h8 (fun _=>?_)
   clear hK K
   try simp only [Act.put,zA,zB,zC]
   refine tOz 10 rfl fun K hK=>?_
   refine Zaf (by rfl) 29 (.tmp 12) (.tmp 119) rfl (w.heap.size+2) 29 _ #[.slice A9 (m+1) c9,.int .u32 ((nx+1:Nat):Int)] rfl rfl ((uh N211).below l8 (uh N211).lt) rfl (by kernel_rfl) (oZz rfl rfl) ?_
   intro w12 hb12 hg12
   have h12:Blk w12 w4.heap.size 29 #[.slice A9 (m+1) c9,.int .u32 ((nx+1:Nat):Int)]∧Blk w12 g20 50 x.cs.toArray:=⟨h8.1.grown hg12 (fun e=>by injection e with e; omega),h8.2.grown hg12 (fun e=>by injection e with e; omega)⟩
   have res:=(uh N211).below l8 (uh N211).lt
   have f1:=World.ownsRow.kept o8 hg12 (.inr (Zad o8 res (by decide)))
   have f2:=World.ownsRow.kept (Zam (uh O11) l8) hg12 (.inr (Zad (Zam (uh O11) l8) res (by decide)))
   have f3:=((uh X11).trans (l8.mono (uh X11).size)).grown hg12 (by have:=(uh X11).size; have:=l8.size; omega) (fun j e=>by injection e with e; omega)
   refine hK.out _ _ h12 (fun _=>?_)
   clear hK K
   try simp only [Act.put]
   refine tq 11 rfl h12 ?_
   refine tq 12 rfl h12 ?_
   refine tDz ?_
   go_wp2_with fail
   go_meet
   refine ⟨rfl,?_,hb12,Zak f2 (by have:=(uh B1).size; omega),f3⟩
   rw [show ZdZ nx nonce=([2]++leB (nx:Int) 4)++leB (nonce:Int) 8 by simp [ZdZ,Zbh]]
   exact Zak f1 (uh X11).size
 case rest =>
 obtain ⟨rfl,hv,hres,hsl,hlow⟩:=hcut
 rename_i v13
 have HV:=jd hv
 have HRES:=jd hres
 have HSL:=jd hsl
 have HLOW:=jd hlow
 have hrr:=uh HR7
 rw [uh HXN] at hrr
 subst hrr
 clear hv hres hsl hlow
 go_wp2_with fail
 refine bodyPost_ret (v:=.tuple #[.agg #[.slice A9 (m+1) c9,.int .u32 ((nx+1:Nat):Int)],_,.int .i64 0]) (Za4 rfl _ (w.heap.size+2) 29 _ _ _ _ rfl rfl rfl (uh HRES) Tryz.underlying29 rfl (by kernel_rfl)) rfl ?_
 show ZaH w _ _ _
 unfold ZaH
 rw [if_pos rfl]
 refine ⟨_,_,rfl,?_,?_,uh HLOW⟩
 · rw [List.length_append,uh HM]; exact uh HSL
 · rw [ZbA]; exact uh HV
end Go.Proofs.YtfbkkmnkpjgciaaGreat
