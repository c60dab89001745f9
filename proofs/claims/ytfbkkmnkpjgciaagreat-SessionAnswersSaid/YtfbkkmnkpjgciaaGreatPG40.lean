/- Joined of GClose TCjP TSesP. No condition. -/
import Derived.Test.YtfbkkmnkpjgciaaGreatPG39
import Derived.Test.YtfbkkmnkpjgciaaGreatPG18
import Derived.Test.YtfbkkmnkpjgciaaGreatPG22
import Derived.Deep.Upon
import Derived.Test.YtfbkkmnkpjgciaaGreatPG32
import Derived.Test.YtfbkkmnkpjgciaaGreatPG38
namespace Go.Proofs.YtfbkkmnkpjgciaaGreat
open Go.RowKit
theorem sls_hm (W:World) (g n c i:Nat) (hic:i≤c) :
  (Instr.sliceAt 26 (.slice (some ⟨g,0,none⟩) n c) none (some (.int .i64 (i:Int))) (some (.int .i64 (i:Int)))).run Tryz.prog W=.ok (.slice (some ⟨g,0,none⟩) i i) W:=by
 rw [run_sliceAt_slice _ _ _ _ _ _ ZeL,run_slice_hm W _ _ _ _ ZeL .i64 .i64 _ _ (by omega) (by omega) (by omega),elem_s,size_s]
 simp [Result.andThen,sliced,ZbM]
theorem cut_out (w:World) (g cap:Nat) (L:List Sess) (cur:Array Value) (h:RowM w g cap L cur) (hok:ZaE L) (hn:L.length≤1000) (i m:Nat) (hm:L.length=m+1) (hi:i < L.length) (a:Addr) (ha:i+1 < L.length→a=⟨g,(i+1)*26,none⟩) (ca:Nat) :
  ∃ ge ce w',(Builtin.append_ #[26,26] 26 #[.slice (some ⟨g,0,none⟩) i i,.slice (some a) (L.length - (i+1)) ca]).run Tryz.prog w=.ok (.slice (some ⟨ge,0,none⟩) m ce) w'∧Below w.heap.size w w'∧ge < w'.heap.size ∧
   (∃ cur',Blk w' ge 50 cur'∧∀ (k:Nat) (u:Value),(Zat (L.eraseIdx i))[k]?=some u→cur'[k]?=some u)∧(ge=g∨w.heap.size≤ge):=by
 obtain ⟨i0,hi0,hz0,hz1,hz2⟩:=info_parts ZeG
 have hti:∀ (k:Nat) (u:Value),(Zat (L.take i))[k]?=some u→w.cell? ⟨g,k,none⟩=some u:=by
  intro k u hu
  have e:(Zat L)[k]?=some u:=by
   rw [← List.take_append_drop i L,Zep,List.getElem?_append_left (List.getElem?_eq_some_iff.1 hu).1]
   exact hu
  rw [h.blk.cell]
  rw [← h.take,List.getElem?_take] at e
  split at e
  · simpa using e
  · cases e
 have hlt:(Zat (L.take i)).length=i*26:=by
  rw [ZbT (fun x hx=>hok x (List.mem_of_mem_take hx)),List.length_take,Nat.min_eq_left (by omega)]
 have hld:(Zat (L.drop (i+1))).length=(L.length - (i+1))*26:=by rw [ZbT (fun x hx=>hok x (List.mem_of_mem_drop hx)),List.length_drop]
 have h1:∀ u∈Zat (L.drop (i+1)),u.oneCell'=true:=fun u hu=>by
  obtain ⟨x,_,hx⟩:=List.mem_flatMap.1 hu
  exact Sess.one u hx
 by_cases hlast:i+1 < L.length
 ·obtain rfl:=ha hlast
  have hsrc:∀ j v,(Zat (L.drop (i+1)))[j]?=some v→w.cell? ((⟨g,(i+1)*26,none⟩:Addr).add j)=some v:=fun j v hv=>by
   rw [ZbM]
   exact h.from_ hok (i+1) j (by omega) v hv
  have hfit:Builtin.nextslicecap (i+(L.length - (i+1))) i*i0.bytes≤281474976710656:=by
   have:=nextslicecap_le (need:=i+(L.length - (i+1))) (old:=i) (by omega)
   rw [hz2]
   omega
  have hrun:=run_append_grow (P:=Tryz.prog) w 26 26 50 i0 (.agg Za7.cs.toArray) Tryz.underlying26 hi0 hz0 ⟨g,0,none⟩ i i (Zat (L.take i)) (by rw [hlt,hz1]) (fun j v hv=>by rw [ZbM,Nat.zero_add]; exact hti j v hv)
   ⟨g,(i+1)*26,none⟩ (L.length - (i+1)) ca (Zat (L.drop (i+1))) (by rw [hld,hz1]) hsrc (by omega) (by omega) hfit
  rw [show i+(L.length - (i+1))=m by omega] at hrun
  refine ⟨_,_,_,hrun,(Below.refl w.heap.size w).drew.alloc (Nat.le_refl _) _,(Blk.new w.drew _ _).lt,⟨_,Blk.new w.drew _ _,fun k u hu=>?_⟩,.inr (Nat.le_refl _)⟩
  rw [Zdz,Zep] at hu
  have hk:=(List.getElem?_eq_some_iff.1 hu).1
  rw [Array.getElem?_append_left (by simpa using hk)]
  simpa using hu
 ·have hd0:L.drop (i+1)=[]:=List.drop_of_length_le (by omega)
  have e0:L.length - (i+1)=0:=by omega
  obtain rfl:i=m:=by omega
  rw [e0]
  have hrun:=run_append_nothing (P:=Tryz.prog) w 26 26 26 50 i0 Tryz.underlying26 hi0 (some ⟨g,0,none⟩) i i (Nat.le_refl _) (.slice (some a) 0 ca) (Src.ofSlice w Tryz.underlying26 a 0 ca [] (by simp) (by simp) (by simp))
  refine ⟨g,i,w,hrun,Below.refl _ _,h.blk.lt,⟨cur,h.blk,fun k u hu=>?_⟩,.inl rfl⟩
  rw [Zdz,hd0,List.append_nil] at hu
  have:=hti k u hu
  rw [h.blk.cell] at this
  exact this
theorem sess_of_blk {w:World} {ge m ce:Nat} {cur:Array Value} {L:List Sess} (hb:Blk w ge 50 cur) (hok:ZaE L) (hl:L.length=m) (hc:∀ (k:Nat) (u:Value),(Zat L)[k]?=some u→cur[k]?=some u) (_:ce=ce):ZaA w w.heap.size (some ⟨ge,0,none⟩) m L :=
 ⟨⟨by rw [ZbT hok,hl],fun _=>⟨_,rfl,hb.lt,fun j u hu=>by rw [ZbM,Nat.zero_add,hb.cell]; exact hc j u hu⟩⟩,hok⟩
set_option maxRecDepth 100000 in
set_option maxHeartbeats 16000000 in
theorem rclose_sx (w:World) (A:Option Addr) (n c:Nat) (L:List Sess) (nx:Nat) (hS:ZaA w w.heap.size A n L) (hn:n≤1000) (hnx:nx < 4294967296) (id:Nat) (r:SRes) (hr:ZdQ L nx id=r) :
  Calls Tryz.prog 36 #[.agg #[.slice A n c,.int .u32 (nx:Int)],.int .u32 (id:Int)] w (Zco w r):=by
 obtain ⟨W1,hW1⟩ :∃W1,(w.alloc (.cells #[.slice A n c,.int .u32 (nx:Int)] 29)).alloc (.cells #[.slice none 0 0,.int .u32 0] 29)=W1:=⟨_,rfl⟩
 have K0:Hid (Blk W1 w.heap.size 29 #[.slice A n c,.int .u32 (nx:Int)]):=jd (hW1 ▸ ((Blk.new w _ _).alloc _))
 have K2:Hid (Blk W1 (w.heap.size+1) 29 #[.slice none 0 0,.int .u32 0]):=jd (hW1 ▸ (Blk.new' (by simp)))
 have B1:Hid (Below w.heap.size w W1):=jd (hW1 ▸ ((Below.refl _ _).alloc (Nat.le_refl _) _).alloc (by rw [Zae]; omega) _)
 have HS:=jd hS
 have HR:=jd hr
 obtain ⟨t1,ht1⟩ :∃t,ZaS L nx=t:=⟨_,rfl⟩
 have HT1:=jd ht1
 clear hS hr ht1
 go_enter Tryz.func36,Tryz.ntmps36
 go_wp2_with (first
  | (refine wpList_load_row rfl 29 _ rfl w.heap.size rfl 29 _ _ _ (uh K0) Tryz.underlying29 rfl (by kernel_rfl) ?_)
  | fail)
 have hw1:w.heap.size+1 < W1.heap.size:=(uh K2).lt
 refine (Zds W1 A n c L nx (((uh HS).below (uh B1)).more (uh B1).size) (by unfold maxLen; omega) hnx t1 (uh HT1)).mono ?_
 rintro e w2 ⟨rfl,hb2⟩
 have J0:=jd ((uh K0).below hb2 (uh K0).lt)
 have J2:=jd ((uh K2).below hb2 (uh K2).lt)
 have X2:=jd ((uh B1).trans (hb2.mono (uh B1).size))
 have hs2:w.heap.size+1 < w2.heap.size:=(uh J2).lt
 clear hb2
 cases t1
 case false =>
  have hrr:=uh HR
  unfold ZdQ at hrr
  rw [if_pos (uh HT1)] at hrr
  subst hrr
  clear HR
  go_wp2_with (first
   | (refine Zab rfl 29 _ rfl [] rfl _ Zan ?_)
   |(refine Zaa rfl 29 (.tmp 4) (.tmp 11) rfl (w.heap.size+1) 29 _ #[.slice none 0 0,.int .u32 0] rfl rfl (uh J2) rfl (by kernel_rfl) (oZz rfl rfl) ?_
     intro w9 hb9 hg9
     have Z9:=jd hb9
     have E9:=jd (gWz (uh X2) hg9)
     clear hb9 hg9)
   | fail)
  exact bodyPost_ret (v:=.tuple #[.agg #[.slice none 0 0,.int .u32 0],.int .i64 1]) (res2 rfl _ (w.heap.size+1) 29 _ _ _ rfl rfl (uh Z9) Tryz.underlying29 rfl (by kernel_rfl)) rfl (Zco.bad rfl (uh E9))
 have hrr:=uh HR
 unfold ZdQ at hrr
 rw [if_neg (by rw [uh HT1]; simp)] at hrr
 have HR2:=jd hrr
 clear hrr HR
 obtain ⟨fi,hfi⟩ :∃i,Zbl (idP id) L 0=i:=⟨_,rfl⟩
 have HFI:=jd hfi
 clear hfi
 go_wp2_with (first
  | (refine wpList_load_row rfl 29 _ rfl w.heap.size rfl 29 _ _ _ (uh J0) Tryz.underlying29 rfl (by kernel_rfl) ?_)
  | fail)
 refine (Zer w2 A n c L _ (((uh HS).below (uh X2)).more (uh X2).size) (by unfold maxLen; omega) id).mono ?_
 rintro e w3 ⟨rfl,hb3⟩
 rw [uh HFI]
 have M0:=jd ((uh J0).below hb3 (uh J0).lt)
 have M2:=jd ((uh J2).below hb3 (uh J2).lt)
 have X3:=jd ((uh X2).trans (hb3.mono (uh X2).size))
 have hs3:w2.heap.size≤w3.heap.size:=hb3.size
 clear hb3
 rcases Za8 (idP id) L 0 with ⟨e1,f1⟩ | ⟨i,x,e1,f1,hx,hpx⟩
 ·obtain rfl:fi=-1:=by rw [← uh HFI,e1]
  have hf1:=jd f1
  clear e1 f1
  have hrr:=uh HR2
  rw [uh hf1] at hrr
  dsimp only at hrr
  subst hrr
  clear HR2
  go_wp2_with (first
   | (refine Zab rfl 29 _ rfl [] rfl _ Zan ?_)
   |(refine Zaa rfl 29 (.tmp 4) (.tmp 17) rfl (w.heap.size+1) 29 _ #[.slice none 0 0,.int .u32 0] rfl rfl (uh M2) rfl (by kernel_rfl) (oZz rfl rfl) ?_
     intro w9 hb9 hg9
     have Z9:=jd hb9
     have E9:=jd (gWz (uh X3) hg9)
     clear hb9 hg9)
   | fail)
  exact bodyPost_ret (v:=.tuple #[.agg #[.slice none 0 0,.int .u32 0],.int .i64 44]) (res2 rfl _ (w.heap.size+1) 29 _ _ _ rfl rfl (uh Z9) Tryz.underlying29 rfl (by kernel_rfl)) rfl (Zco.bad rfl (uh E9))
 rw [Nat.zero_add] at e1 f1
 obtain rfl:fi=(i:Int):=by rw [← uh HFI,e1]
 have hrr:=uh HR2
 rw [f1] at hrr
 dsimp only at hrr
 have HR4:=jd hrr
 have hLn:L.length=n:=(uh HS).len
 have hin:i < n:=by have:=(List.getElem?_eq_some_iff.1 hx).1; omega
 have hi0:((i:Int) < 0)=False:=by simp
 obtain ⟨m,hm⟩ :∃m,n=m+1:=⟨n - 1,by omega⟩
 obtain ⟨j,hj⟩ :∃j,j=i+1:=⟨_,rfl⟩
 have hwj:IntKind.i64.wrap ((i:Int)+1)=(j:Int):=by rw [hj]; exact IntWalk.i64_in _ (by omega)
 have HWJ:=jd hwj
 have HJ:=jd hj
 have HM:=jd hm
 have HLN:=jd hLn
 clear hrr HR2 e1 f1 hx hpx hwj hj hm hLn HFI
 go_wp2_with (first
  | (refine wpList_load_row rfl 29 _ rfl w.heap.size rfl 29 _ _ _ (uh M0) Tryz.underlying29 rfl (by kernel_rfl) ?_)
  | fail)
 refine (ZeP w3 _ n c L nx (((uh HS).below (uh X3)).more (uh X3).size) hn).mono ?_
 rintro e w4 hex
 unfold Zcm at hex
 obtain ⟨v4,rfl,ho4,hb4⟩:=hex
 rw [uh HLN] at ho4
 obtain ⟨gr,c4,cur,hv4,hgb,hrow,hml⟩:=RowM.of_own ho4 (uh HS).ok (by omega)
 subst hv4
 have N0:=jd ((uh M2).below hb4 (uh M2).lt)
 have X4:=jd ((uh X3).trans (hb4.mono (uh X3).size))
 have hs4:w3.heap.size≤w4.heap.size:=hb4.size
 have N2:=jd ((uh N0).alloc (.cells #[.slice none 0 0,.int .u32 0] 29))
 have N3:=jd (Blk.new w4 29 #[.slice none 0 0,.int .u32 0])
 have X4a:=jd ((uh X4).alloc (by have:=(uh X4).size; omega) (.cells #[.slice none 0 0,.int .u32 0] 29))
 have ROW4:=jd (hrow.alloc (.cells #[.slice none 0 0,.int .u32 0] 29))
 have hgw4:=hrow.blk.lt
 clear ho4 hb4 hrow
 go_upto_region 7 with (first
  | (refine Zag rfl 29 rfl _ w4.heap.size rfl (ZaB _) ?_)
  |(refine Zaa rfl 29 (.tmp 7) (.tmp 19) rfl w4.heap.size 29 _ #[.slice (some ⟨gr,0,none⟩) n c4,.int .u32 (nx:Int)] rfl rfl (uh N3) rfl (by kernel_rfl) (oZz rfl rfl) ?_
    intro w5 hb5 hg5
    have P3:=jd hb5
    have P2:=jd ((uh N2).gb hg5)
    have ROW5:=jd ((uh ROW4).grown hg5 (by omega))
    have X5:=jd (gWz (uh X4a) hg5)
    have hs5:w4.heap.size < w5.heap.size:=hb5.lt
    clear hb5 hg5)
  | fail)
 try simp only [Act.put,zA,zB,zC]
 obtain ⟨q7,hq7⟩ :∃q,w4.heap.size=q:=⟨_,rfl⟩
 rw [hq7] at P3 hs5 hs4 hgw4 ⊢
 clear N0 N2 N3 X4a ROW4 hq7
 have hcap:n≤c4:=by have:=(uh ROW5).le; have:=uh HLN; omega
 obtain ⟨a5,ha5,ha6⟩:=sls_rest gr n c4 j (by have:=uh HJ; omega) (by omega)
 have HSH:=jd (fun W=>sls_hm W gr n c4 i (by omega))
 have HSR:=jd ha5
 obtain ⟨ge,ce,w6,hrun,hb6,hge,⟨cur6,hbe,hce⟩,hgg⟩:=cut_out w5.drew gr c4 L cur ((uh ROW5).below (Below.refl _ _).drew) (uh HS).ok (by have:=uh HLN; omega) i m (by rw [uh HLN,uh HM]) (by rw [uh HLN]; exact hin) a5 (fun hh=>by rw [uh HLN,← uh HJ] at hh; rw [← uh HJ]; exact ha6 hh) (c4 - j)
 rw [uh HLN,← uh HJ] at hrun
 have HRUN:=jd hrun
 have h56:Below w5.heap.size w5 w6:=(Below.refl _ _).drew.trans hb6
 have HBE:=jd hbe
 have HCE:=jd hce
 have P36:=jd ((uh P3).below h56 (uh P3).lt)
 have P26:=jd ((uh P2).below h56 (uh P2).lt)
 have X6:=jd ((uh X5).trans (h56.mono (uh X5).size))
 have hrow5:=(uh ROW5).blk.lt
 have hq7w:w.heap.size+1 < q7:=by omega
 clear ha5 ha6 hrun hb6 hbe hce h56
 have hS0:Blk w5.drew q7 29 #[.slice (some ⟨gr,0,none⟩) n c4,.int .u32 (nx:Int)]:=(uh P3).drew
 refine wp_region_noPanic (Bars.region (b:=12) (S:=fun wz=>Blk wz q7 29 #[.slice (some ⟨gr,0,none⟩) n c4,.int .u32 (nx:Int)]) (by kernel_rfl) ?_)
 refine ZaP (i:=0) (v:=?_) rfl (by kernel_rfl) (by kernel_rfl) (by kernel_rfl) (by kernel_rfl) (by kernel_rfl) (Or.inl ⟨by rfl,fun wz hSw=>?_⟩) hS0 ?_
 rotate_left
 ·go_simp
  with_reducible rfl
 simp only [Act.put,zA,zB,zC]
 refine ZaP (i:=1) (v:=.slice (some ⟨gr,0,none⟩) n c4) rfl (by kernel_rfl) (by kernel_rfl) (by kernel_rfl) (by kernel_rfl) (by kernel_rfl) (Or.inl ⟨by rfl,fun wz hSw=>?_⟩) hS0 ?_
 ·have hq:=hSw.cell 0
  simp only [List.getElem?_toArray,List.getElem?_cons_zero] at hq
  go_simp
 simp only [Act.put,zA,zB,zC]
 refine ZaP (i:=2) (v:=?_) rfl (by kernel_rfl) (by kernel_rfl) (by kernel_rfl) (by kernel_rfl) (by kernel_rfl) (Or.inl ⟨by rfl,fun wz hSw=>?_⟩) hS0 ?_
 rotate_left
 ·go_simp
  with_reducible rfl
 simp only [Act.put,zA,zB,zC]
 refine ZaP (i:=3) (v:=?_) rfl (by kernel_rfl) (by kernel_rfl) (by kernel_rfl) (by kernel_rfl) (by kernel_rfl) (Or.inl ⟨by rfl,fun wz hSw=>?_⟩) hS0 ?_
 rotate_left
 ·go_simp
  with_reducible rfl
 simp only [Act.put,zA,zB,zC]
 refine ZaP (i:=4) (v:=.slice (some ⟨gr,0,none⟩) i i) rfl (by kernel_rfl) (by kernel_rfl) (by kernel_rfl) (by kernel_rfl) (by kernel_rfl) (Or.inl ⟨by rfl,fun wz hSw=>?_⟩) hS0 ?_
 ·have hq:=uh HSH wz
  have hb:(i:Int)≤(c4:Int):=by omega
  have hb0:(0:Int)≤(i:Int):=by omega
  go_simp
 simp only [Act.put,zA,zB,zC]
 refine ZaP (i:=5) (v:=?_) rfl (by kernel_rfl) (by kernel_rfl) (by kernel_rfl) (by kernel_rfl) (by kernel_rfl) (Or.inl ⟨by rfl,fun wz hSw=>?_⟩) hS0 ?_
 rotate_left
 ·go_simp
  with_reducible rfl
 simp only [Act.put,zA,zB,zC]
 refine ZaP (i:=6) (v:=.slice (some ⟨gr,0,none⟩) n c4) rfl (by kernel_rfl) (by kernel_rfl) (by kernel_rfl) (by kernel_rfl) (by kernel_rfl) (Or.inl ⟨by rfl,fun wz hSw=>?_⟩) hS0 ?_
 ·have hq:=hSw.cell 0
  simp only [List.getElem?_toArray,List.getElem?_cons_zero] at hq
  go_simp
 simp only [Act.put,zA,zB,zC]
 refine ZaP (i:=7) (v:=?_) rfl (by kernel_rfl) (by kernel_rfl) (by kernel_rfl) (by kernel_rfl) (by kernel_rfl) (Or.inl ⟨by rfl,fun wz hSw=>?_⟩) hS0 ?_
 rotate_left
 ·go_simp
  with_reducible rfl
 simp only [Act.put,zA,zB,zC]
 refine ZaP (i:=8) (v:=.int .i64 (j:Int)) rfl (by kernel_rfl) (by kernel_rfl) (by kernel_rfl) (by kernel_rfl) (by kernel_rfl) (Or.inl ⟨by rfl,fun wz hSw=>?_⟩) hS0 ?_
 ·have hq:=uh HWJ
  go_simp
 simp only [Act.put,zA,zB,zC]
 refine ZaP (i:=9) (v:=.slice (some a5) (n - j) (c4 - j)) rfl (by kernel_rfl) (by kernel_rfl) (by kernel_rfl) (by kernel_rfl) (by kernel_rfl) (Or.inl ⟨by rfl,fun wz hSw=>?_⟩) hS0 ?_
 ·have hq:=uh HSR wz
  go_simp
 simp only [Act.put,zA,zB,zC]
 refine ZdX (i:=10) rfl (by kernel_rfl) (fun K hK=>?_)
 refine ZdC (by rfl) (.tmp 24) (.tmp 29) 26 rfl _ _ _ rfl rfl (uh HRUN) ?_
 refine hK.out _ _ (fun _=>uh P36) ?_
 clear hK K
 try simp only [Act.put,zA,zB,zC]
 refine Zej (i:=11) (v:=?_) rfl (by kernel_rfl) (by kernel_rfl) (by kernel_rfl) (by decide) (Or.inl ⟨by rfl,fun wz _=>?_⟩) (fun _=>uh P36) ?_
 rotate_left
 ·go_simp
  with_reducible rfl
 simp only [Act.put,zA,zB,zC]
 refine ZdX (i:=12) rfl (by kernel_rfl) (fun K hK=>?_)
 refine Zao (by rfl) 26 (.tmp 31) (.tmp 30) rfl q7 0 29 #[.slice (some ⟨gr,0,none⟩) n c4,.int .u32 (nx:Int)] (.slice (some ⟨ge,0,none⟩) m ce) [.slice (some ⟨ge,0,none⟩) m ce] [.slice (some ⟨ge,0,none⟩) m ce,.int .u32 (nx:Int)] rfl rfl (uh P36) rfl (by simp) (by kernel_rfl) (by intro u hu; simp at hu; subst hu; rfl) rfl ?_
 intro w7 hb hg
 have Q3:=jd hb
 have Q2:=jd ((uh P26).gb hg)
 have QE:=jd ((uh HBE).grown hg (fun e=>(uh HBE).ne_ (uh P36) (by decide) (by injection e)))
 have X7:=jd (gWz (uh X6) hg)
 clear hb hg
 refine hK.out _ _ (fun h=>by cases h) ?_
 clear hK K
 try simp only [Act.put]
 refine bar_done (by kernel_rfl) (NoPanic.normal ?_) _
 clear hS0
 go_wp2_with (first
  | (refine wpList_load_row rfl 29 _ rfl q7 rfl 29 _ _ _ (uh Q3) Tryz.underlying29 rfl (by kernel_rfl) ?_)
  |(refine Zaa rfl 29 (.tmp 4) (.tmp 32) rfl (w.heap.size+1) 29 _ #[.slice (some ⟨ge,0,none⟩) m ce,.int .u32 (nx:Int)] rfl rfl (uh Q2) rfl (by kernel_rfl) (oZz rfl rfl) ?_
    intro w9 hb9 hg9
    have Z9:=jd hb9
    have ZE:=jd ((uh QE).grown hg9 (fun e=>(uh QE).ne_ (uh Q2) (by decide) (by injection e)))
    have E9:=jd (gWz (uh X7) hg9)
    clear hb9 hg9)
  | fail)
 have hrr:=uh HR4
 subst hrr
 have hel:(L.eraseIdx i).length=m:=by have:=uh HLN; have:=uh HM; rw [List.length_eraseIdx,if_pos (by omega)]; omega
 refine bodyPost_ret (v:=.tuple #[.agg #[.slice (some ⟨ge,0,none⟩) m ce,.int .u32 (nx:Int)],.int .i64 0]) (res2 rfl _ (w.heap.size+1) 29 _ _ _ rfl rfl (uh Z9) Tryz.underlying29 rfl (by kernel_rfl)) rfl ?_
 show Zco w _ _ _
 unfold Zco
 dsimp only
 rw [hel]
 exact ⟨some ⟨ge,0,none⟩,ce,rfl,sess_of_blk (ce:=ce) (uh ZE) ((uh HS).ok.erase i) hel (uh HCE) rfl,uh E9⟩
section
variable {W0 w w':World} {B g:Nat}
theorem CJ.put {q:Nat} (h:CJ W0 B g w) (hg:w.grownBy w' (some q)) (hq:W0.heap.size≤q) (hgq:g < q):CJ W0 B g w' :=
 ⟨⟨hg.os.trans h.1.os,hg.tape.trans h.1.tape,hg.output.trans h.1.output,Nat.le_trans h.1.size hg.size,fun k hk hne=>(hg.block k (Nat.lt_of_lt_of_le hk h.1.size) (fun e=>by injection e with e; omega)).trans (h.1.block k hk hne)⟩,
  h.2.grown_ hg (fun j e=>by injection e with e; omega)⟩
theorem CJ.new (h:CJ W0 B g w) (o:Obj):CJ W0 B g (w.alloc o):=(ZbE h o trivial).1
theorem CJ.low {n:Nat} (hb:Below n w W0) (h:CJ W0 B g w') (hn:n≤W0.heap.size) (hg:n≤g):Below n w w':=hb.grown h.1 hn (fun j e=>by injection e with e; omega)
theorem CJ.then_ {w1:World} (h:CJ W0 B g w) (h1:CJ w B g w1):CJ W0 B g w1:=⟨h.1.trans h1.1,h1.2⟩
end
theorem num_byte {r:Int} (h0:0≤r) (h1:r < 256) :∃kb:UInt8,r=(kb.toNat:Int):=by
 refine ⟨UInt8.ofNat r.toNat,?_⟩
 rw [UInt8.toNat_ofNat']
 omega
theorem ZaW {P:Program} {ops:List Oper} {Q:Exit→Act→World→Prop} {rest:List Oper} {o:Oper} {a:Act} {w:World} {v:Value} (hy:YieldsIf P ops.toArray (fun z=>z=w) o v a) (h:wpList P ops.toArray Q rest (a.put o.dst v) w):wpList P ops.toArray Q (o::rest) a w:=by
 unfold wpList
 rcases hy with ⟨hw,hr⟩ | ⟨hw,rfl⟩
 ·rw [if_pos hw]
  left
  unfold Oper.wp
  rw [hr w rfl]
  exact h
 ·rw [if_neg (by rw [hw]; simp)]
  exact h
theorem Zaj.stored {w w':World} {A A2:Option Addr} {m n2 c2 nx q:Nat} {bs:List UInt8} (h:Zaj w w.heap.size 1 A m (bsV bs)) (hb:Blk w q 29 #[.slice A2 n2 c2,.int .u32 (nx:Int)]) (hg:w.grownBy w' (some q)):Zaj w' w'.heap.size 1 A m (bsV bs):=by
 refine ⟨h.1,fun hm=>?_⟩
 obtain ⟨g,oo,hA,hgl,hcell⟩:=Zcr h hm
 have hlen:bs.length=m:=by have:=h.1; simpa [bsV] using this
 have hne:g≠q:=by
  intro e
  subst e
  have h1:=hcell 0 (bs[0]'(by omega)) (List.getElem?_eq_getElem (by omega))
  rw [hb.cell] at h1
  match oo,h1 with
  | 0,h1=>cases h1
  | 1,h1=>cases h1
  | n+2,h1=>simp at h1
 obtain ⟨ad,ha,_,hc⟩:=h.2 hm
 rw [hA] at ha
 injection ha with ha
 subst ha
 exact ⟨_,hA,Nat.lt_of_lt_of_le hgl hg.size,fun j u hu=>by
  have e:=hc j u hu
  rw [ZbM] at e ⊢
  exact (World.cell?_of_block (a:=⟨g,oo+j,none⟩) (hg.block g hgl (fun e=>hne (by injection e)))).trans e⟩
theorem ZaA.stored {w w':World} {A A2:Option Addr} {m n2 c2 nx q:Nat} {L:List Sess} (h:ZaA w w.heap.size A m L) (hb:Blk w q 29 #[.slice A2 n2 c2,.int .u32 (nx:Int)]) (hg:w.grownBy w' (some q)):ZaA w' w'.heap.size A m L:=by
 refine ⟨⟨h.reads.1,fun hm=>?_⟩,h.ok⟩
 obtain ⟨g,oo,x,hA,hgl,hx,hxo,hrg⟩:=h.at_ hm
 have hne:g≠q:=by
  intro e
  subst e
  have h0:=hrg 0 _ rfl
  have h1:=hrg 1 _ rfl
  rw [hb.cell] at h0 h1
  match oo,h0,h1 with
  | 0,h0,_=>cases h0
  | 1,_,h1=>simp at h1
  | n+2,h0,_=>simp at h0
 obtain ⟨ad,ha,_,hc⟩:=h.reads.2 hm
 rw [hA] at ha
 injection ha with ha
 subst ha
 exact ⟨_,hA,Nat.lt_of_lt_of_le hgl hg.size,fun j u hu=>by
  have e:=hc j u hu
  rw [ZbM] at e ⊢
  exact (World.cell?_of_block (a:=⟨g,oo+j,none⟩) (hg.block g hgl (fun e=>hne (by injection e)))).trans e⟩
theorem ZdY:ZaE []:=fun _ hx=>(by cases hx)
theorem ZbQ.all6 {L:List Sess} {nx:Nat} (h:ZbQ L nx):ZaE L∧L.length≤6:=⟨h.ok,by have:=(ZaZ.1 h.val).1; omega⟩
theorem all_hello {L:List Sess} {nx:Nat} {U:List Usr} {C:List Chn} {ch:Int} {b:List UInt8} {nonce:Nat} {now:Int} (h:ZaE L) (hnx:nx < 4294967296) (hU:∀ u∈U,u.Ok) (hno:nonce < 18446744073709551616):ZaE (ZbI L nx U C ch b nonce now).L∧(ZbI L nx U C ch b nonce now).L.length≤6:=by
 by_cases h0:(ZbI L nx U C ch b nonce now).code=0
 ·cases hv:ZaS L nx with
  | true=>exact (ZbQ.hello ⟨h,hv,hnx⟩ hU hno rfl h0).1.all6
  | false=>simp [ZbI,hv,badS] at h0
 · rw [(ZbX _ _ _ _ _ _ _ _ h0).1]; exact ⟨ZdY,Nat.zero_le _⟩
theorem all_proof {L:List Sess} {nx:Nat} {b:List UInt8} {now:Int} (h:ZaE L) (hnx:nx < 4294967296):ZaE (ZbN L nx b now).L∧(ZbN L nx b now).L.length≤6:=by
 by_cases h0:(ZbN L nx b now).code=0
 ·cases hv:ZaS L nx with
  | true=>exact (ZbQ.proof ⟨h,hv,hnx⟩ rfl h0).1.all6
  | false=>simp [ZbN,hv,badS] at h0
 · rw [(Zci _ _ _ _ h0).1]; exact ⟨ZdY,Nat.zero_le _⟩
theorem all_recv {L:List Sess} {nx:Nat} {b:List UInt8} {now:Int} (h:ZaE L) (hnx:nx < 4294967296):ZaE (Zcj L nx b now).L∧(Zcj L nx b now).L.length≤6:=by
 by_cases h0:(Zcj L nx b now).e=0
 ·cases hv:ZaS L nx with
  | true=>exact (ZbQ.recv ⟨h,hv,hnx⟩ rfl h0).all6
  | false=>simp [Zcj,hv,badR] at h0
 · rw [(ZeQ _ _ _ _ h0).1]; exact ⟨ZdY,Nat.zero_le _⟩
theorem all_send {L:List Sess} {nx id:Nat} {kb:UInt8} {data:List UInt8} (h:ZaE L) (hnx:nx < 4294967296):ZaE (Zc5 L nx id kb data).L∧(Zc5 L nx id kb data).L.length≤6:=by
 by_cases h0:(Zc5 L nx id kb data).code=0
 ·cases hv:ZaS L nx with
  | true=>exact (ZbQ.send ⟨h,hv,hnx⟩ rfl h0).1.all6
  | false=>simp [Zc5,hv,badS] at h0
 · rw [(Zcf _ _ _ _ _ h0).1]; exact ⟨ZdY,Nat.zero_le _⟩
theorem all_close {L:List Sess} {nx id:Nat} (h:ZaE L) (hl:L.length≤6):ZaE (ZdQ L nx id).L∧(ZdQ L nx id).L.length≤6:=by
 unfold ZdQ
 split
 · exact ⟨ZdY,Nat.zero_le _⟩
 ·split
  · exact ⟨ZdY,Nat.zero_le _⟩
  · exact ⟨h.erase _,Nat.le_trans (List.length_eraseIdx_le _ _) hl⟩
def SesR (w:World) (r:SRes) (e:Ending) (w':World):Prop :=
 ∃ A c Ab cb,e=.returned (.tuple #[.agg #[.slice A r.L.length c,.int .u32 (r.nx:Int)],.slice Ab r.bs.length cb,.int .i64 r.code])∧ZaA w' w'.heap.size A r.L.length r.L∧Zaj w' w'.heap.size 1 Ab r.bs.length (bsV r.bs)∧Below w.heap.size w w'
theorem ZaH.r {w w':World} {r:SRes} {e:Ending} (h:ZaH w r e w') (hr:SBad r) (hok:ZaE r.L):SesR w r e w':=by
 obtain ⟨v,rfl,⟨vS,vb,rfl,h1,h2⟩,hb⟩:=h.v hr
 obtain ⟨A,c,rfl,_,_⟩:=Zac h1
 obtain ⟨Ab,cb,rfl,_,_⟩:=Zac h2
 exact ⟨A,c,Ab,cb,rfl,ZaA.of_own h1 hok,Zaj.of_own h2,hb⟩
def RBad (r:RRes):Prop:=r.e≠0→r=badR r.e
theorem recv_bad3 (L:List Sess) (nx:Nat) (b:List UInt8) (now:Int):RBad (Zcj L nx b now):=by
 intro h
 unfold Zcj at h ⊢
 repeat' split
 all_goals first | rfl | skip
 all_goals simp_all
def RcvR (w:World) (r:RRes) (e:Ending) (w':World):Prop :=
 ∃ A c Ab cb,e=.returned (.tuple #[.agg #[.slice A r.L.length c,.int .u32 (r.nx:Int)],.int .u32 (r.id:Int),.int .i64 (r.kind:Int),.slice Ab r.d.length cb,.int .i64 r.e])∧ZaA w' w'.heap.size A r.L.length r.L∧Zaj w' w'.heap.size 1 Ab r.d.length (bsV r.d)∧Below w.heap.size w w'
theorem RcvR.bad {w w':World} {r:RRes} {e:Ending} (h0:r.e≠0) (hr:RBad r) (he:e=.returned (.tuple #[.agg #[.slice none 0 0,.int .u32 0],.int .u32 0,.int .i64 0,.slice none 0 0,.int .i64 r.e])) (hb:Below w.heap.size w w'):RcvR w r e w':=by
 have hq:=hr h0
 obtain ⟨q,L,nx,id,kind,d⟩:=r
 simp only [badR,RRes.mk.injEq,true_and] at hq
 obtain ⟨rfl,rfl,rfl,rfl,rfl⟩:=hq
 exact ⟨none,0,none,0,he,ZaA.of_own (World.ownsRow_nil w' 0 50 26) ZdY,Zaj.of_own (World.ownsRow_nil w' 0 5 1),hb⟩
theorem ZbP.r {w w':World} {r:RRes} {e:Ending} (h:ZbP w r e w') (hr:RBad r) (hok:ZaE r.L):RcvR w r e w':=by
 unfold ZbP at h
 by_cases h0:r.e=0
 ·rw [if_pos h0] at h
  obtain ⟨vS,vD,he,h1,h2,hb⟩:=h
  obtain ⟨A,c,rfl,_,_⟩:=Zac h1
  obtain ⟨Ab,cb,rfl,_,_⟩:=Zac h2
  exact ⟨A,c,Ab,cb,by rw [h0]; exact he,ZaA.of_own h1 hok,Zaj.of_own h2,hb⟩
 ·rw [if_neg h0] at h
  exact RcvR.bad h0 hr h.1 h.2
theorem Zbm.r {w w':World} {r:RRes} {e:Ending} (h:Zbm w r e w') (hr:RBad r) (hok:ZaE r.L):RcvR w r e w':=by
 unfold Zbm at h
 by_cases h0:r.e=0
 ·rw [if_pos h0] at h
  obtain ⟨vS,Ab,m,cb,he,h1,h2,_,_,hb⟩:=h
  obtain ⟨A,c,rfl,_,_⟩:=Zac h1
  have hm:r.d.length=m:=by have:=h2.1; simpa [bsV] using this
  subst hm
  exact ⟨A,c,Ab,cb,by rw [h0]; exact he,ZaA.of_own h1 hok,h2,hb⟩
 ·rw [if_neg h0] at h
  exact RcvR.bad h0 hr h.1 h.2
theorem run_slice_ss (w:World) (A:Option Addr) (n c:Nat) (x:Int) (A2:Option Addr) (n2 c2:Nat) (x2:Int):(Instr.buildSlice 73 2 #[(0,.agg #[.slice A n c,.int .u32 x]),(1,.agg #[.slice A2 n2 c2,.int .u32 x2])]).run Tryz.prog w=.ok (.slice (some ⟨w.heap.size,0,none⟩) 2 2) (w.alloc (.cells #[.slice A n c,.int .u32 x,.slice A2 n2 c2,.int .u32 x2] 29)):=by kernel_rfl
theorem run_slice_t4 (w:World) (a b c d:Int):(Instr.buildSlice 75 4 #[(0,.int .i64 a),(1,.int .i64 b),(2,.int .i64 c),(3,.int .i64 d)]).run Tryz.prog w=.ok (.slice (some ⟨w.heap.size,0,none⟩) 4 4) (w.alloc (.cells #[.int .i64 a,.int .i64 b,.int .i64 c,.int .i64 d] 2)):=by kernel_rfl
theorem two_tab {w:World} {g q:Nat} {A A2:Option Addr} {c c2 nx nx2:Nat} {L L2:List Sess} (hn:nx < 4294967296) (hn2:nx2 < 4294967296) (hl:L.length≤6) (hl2:L2.length≤6)
  (h1:∀ wz,CJ w g g wz→ZaA wz wz.heap.size A L.length L) (h2:∀ wz,CJ w g g wz→ZaA wz wz.heap.size A2 L2.length L2) {k:Nat} (hk:k < 2) :
  ∃ (A':Option Addr) (c' nx':Nat) (L':List Sess),nx' < 4294967296∧L'.length≤6∧(∀ wz,CJ w g g wz→ZaA wz wz.heap.size A' L'.length L')∧∀ wz,Blk wz q 29 #[.slice A L.length c,.int .u32 (nx:Int),.slice A2 L2.length c2,.int .u32 (nx2:Int)]→wz.rangeAt q (k*2) [.slice A' L'.length c',.int .u32 (nx':Int)]:=by
 have h:k=0∨k=1:=by omega
 rcases h with rfl | rfl
 ·refine ⟨A,c,nx,L,hn,hl,h1,fun wz hb j v hv=>?_⟩
  rw [hb.cell]
  match j,hv with
  | 0,hv=>exact hv
  | 1,hv=>exact hv
 ·refine ⟨A2,c2,nx2,L2,hn2,hl2,h2,fun wz hb j v hv=>?_⟩
  rw [hb.cell]
  match j,hv with
  | 0,hv=>exact hv
  | 1,hv=>exact hv
end Go.Proofs.YtfbkkmnkpjgciaaGreat
