/- Joined of TPriv. No condition. -/
import Derived.Test.YtfbkkmnkpjgciaaGreatPA37
import Derived.Test.YtfbkkmnkpjgciaaGreatPA39
import Derived.Test.YtfbkkmnkpjgciaaGreatPA38
namespace Go.Proofs.YtfbkkmnkpjgciaaGreat
open Go.RowKit
structure PI (w wr:World) (base q4 q5:Nat) (d:Wd) (vs vu vc vx vp:Value) (V:List Value) (L:List Sess) (nx:Nat) (vS:Value):Prop where
 b4:Blk wr q4 37 (WdCells d vs vu vc vx vp)
 b5:Blk wr q5 29 #[vS,.int .u32 (nx:Int)]
 s:wr.ownsRow base 50 26 vS L.length (flatS L)
 tab:TabOk L nx
 priv:PrivOk d.U d.C L
 m:WdM wr base d vs vu vc vx vp V
 low:Below w.heap.size w wr
section
variable {w wr wj:World} {base q4 q5:Nat} {d:Wd} {vs vu vc vx vp vS:Value} {V:List Value} {L:List Sess} {nx:Nat}
theorem PI.below (h:PI w wr base q4 q5 d vs vu vc vx vp V L nx vS) (hb:Below wr.heap.size wr wj):PI w wj base q4 q5 d vs vu vc vx vp V L nx vS :=
 ⟨h.b4.below hb h.b4.lt,h.b5.below hb h.b5.lt,own_below h.s hb,h.tab,h.priv,h.m.below hb,h.low.trans (hb.mono h.low.size)⟩
theorem PI.store {q:Nat} {t:TypeId} {cs:Array Value} (h:PI w wr base q4 q5 d vs vu vc vx vp V L nx vS) (hq:Blk wr q t cs) (hg:wr.grownBy wj (some q)) (h5:q≠q5) (h4:q≠q4) (ht:WdRow t=false) (hs:50≠t) (hw:w.heap.size≤q):PI w wj base q4 q5 d vs vu vc vx vp V L nx vS :=
 ⟨h.b4.grown hg (fun e=>h4 (by injection e with e; exact e.symm)),h.b5.grown hg (fun e=>h5 (by injection e with e; exact e.symm)),h.s.kept hg (.inr (own_blk_ne h.s hq hs)),h.tab,h.priv,h.m.stored hq hg ht,h.low.grown hg h.low.size (fun j hj=>by injection hj with hj; omega)⟩
theorem PI.put {vS':Value} {L':List Sess} {nx':Nat} (h:PI w wr base q4 q5 d vs vu vc vx vp V L nx vS) (hb:Blk wj q5 29 #[vS',.int .u32 (nx':Int)]) (hg:wr.grownBy wj (some q5)) (h4:q5≠q4) (ho:wr.ownsRow base 50 26 vS' L'.length (flatS L')) (ht:TabOk L' nx') (hp:PrivOk d.U d.C L') (hw:w.heap.size≤q5):PI w wj base q4 q5 d vs vu vc vx vp V L' nx' vS' :=
 ⟨h.b4.grown hg (fun e=>h4 (by injection e with e; exact e.symm)),hb,ho.kept hg (.inr (own_blk_ne ho h.b5 (by decide))),ht,hp,h.m.stored h.b5 hg (by decide),h.low.grown hg h.low.size (fun j hj=>by injection hj with hj; omega)⟩
theorem PI.later (h:PI w wr base q4 q5 d vs vu vc vx vp V L nx vS) (hb:Below wr.heap.size wr wj):PI w wj base q4 q5 d vs vu vc vx vp V L nx vS:=h.below hb
end
theorem ses_isRow :∃d,Tryz.prog.underlying 50=some d∧d.isRow=true:=⟨_,Tryz.underlying50,rfl⟩
theorem take_snoc_ {α : Type} {L:List α} {j:Nat} {x:α} (h:L[j]?=some x):L.take (j+1)=L.take j++[x]:=by
 have hj:=(List.getElem?_eq_some_iff.1 h).1
 have e:=(List.getElem?_eq_some_iff.1 h).2
 rw [List.take_succ_eq_append_getElem hj,e]
theorem limU_snoc (s:List UInt8) {U:List Usr} {j:Nat} {u:Usr} (h:U[j]?=some u):limU s (U.take (j+1))=if (nameP s u && u.on)=true then u.limit else limU s (U.take j):=by
 unfold limU
 rw [take_snoc_ h,List.foldl_append]
 rfl
theorem limC_snoc (l:Int) {C:List Chn} {j:Nat} {c:Chn} (h:C[j]?=some c):limC l (C.take (j+1))=if c.number=1 then min (limC l (C.take j)) c.limit else limC l (C.take j):=by
 unfold limC
 rw [take_snoc_ h,List.foldl_append]
 rfl
theorem ses_one {v:Value} {nx:Nat} {w:World} {base n:Nat} {xs:List Value} (h:w.ownsRow base 50 26 v n xs):∀ u∈#[v,.int .u32 (nx:Int)].toList,u.oneCell'=true:=by
 intro u hu
 simp only [List.mem_cons,List.not_mem_nil,or_false] at hu
 rcases hu with rfl | rfl
 · exact own_one h
 · rfl
set_option maxRecDepth 100000 in
set_option maxHeartbeats 16000000 in
theorem priv_any (hstep:StepAll) (w:World) (A:Option Addr) (n c:Nat) (bs:List UInt8) (hn:n≤c) (hc:c≤maxLen) (h:Reads w w.heap.size 1 A n (bsV bs)) :
  Calls Tryz.prog 3 #[.slice A n c] w fun e w'=>e=.returned (.bool true)∧Below w.heap.size w w':=by
 have HR:=jd h
 have HSTEP:=jd hstep
 clear h hstep
 go_enter Tryz.func3,Tryz.ntmps3
 go_wp2_with fail
 refine (awake_sx w).mono ?_
 rintro e w1 ⟨rfl,hb1⟩
 have HL1:=jd hb1
 have hs1:=hb1.size
 clear hb1
 go_wp2_with fail
 refine (new_any w1 A n c bs 300 (((uh HR).below (uh HL1)).more hs1) hn hc (by decide)).mono ?_
 rintro e w2 ⟨rfl,hc2,hb2⟩
 obtain ⟨g,hg⟩ :∃g,w1.heap.size=g:=⟨_,rfl⟩
 rw [hg] at hc2 ⊢
 have HC2:=jd hc2
 have HL2:=jd ((uh HL1).trans (hb2.mono hs1))
 have hwg:w.heap.size≤g:=by omega
 have hs2:g < w2.heap.size:=hc2.lt
 clear hc2 hb2 hg HL1 hs1 HR
 go_wp2_with fail
 refine (made_cx (uh HSTEP) w2 g g (uh HC2)).mono ?_
 rintro e w3 ⟨d,vs,vu,vc,vx,vp,V,rfl,hm,hok,hc3,hlow⟩
 obtain ⟨base,hbase⟩ :∃base,w2.heap.size=base:=⟨_,rfl⟩
 rw [hbase] at hm
 have hwb:w.heap.size≤base:=by omega
 have hs3:base≤w3.heap.size:=by have:=hlow.size; omega
 have HL3:=jd ((uh HL2).trans (hlow.mono hwg))
 have HOK:=jd hok
 obtain ⟨As,cs,e1,_,_⟩:=slice_of_own hm.s
 obtain ⟨Au,cu,e2,_,_⟩:=slice_of_own hm.u
 obtain ⟨Ac,cc,e3,_,_⟩:=slice_of_own hm.c
 obtain ⟨Ax,cx,e4,_,_⟩:=slice_of_own hm.x
 obtain ⟨Ap,cp,e5,_,_⟩:=slice_of_own hm.p
 subst e1 e2 e3 e4 e5
 have HM3:=jd hm
 obtain ⟨W4,hW4⟩ :∃W4,w3.alloc (.cells zWd 37)=W4:=⟨_,rfl⟩
 have hb4:Below w3.heap.size w3 W4:=hW4 ▸ (Below.refl _ _).alloc (Nat.le_refl _) _
 have HB4:=jd (hW4 ▸ Blk.new w3 _ _:Blk W4 w3.heap.size 37 zWd)
 have HW4:=jd hW4
 have HM4:=jd (hm.below hb4)
 have HL4:=jd ((uh HL3).trans (hb4.mono (uh HL3).size))
 obtain ⟨q4,hq4⟩ :∃q4,w3.heap.size=q4:=⟨_,rfl⟩
 clear hm hok hc3 hlow hb4 hW4 HC2 HL2 hbase hs2
 go_upto_region 5 with (first
  |(refine wpList_alloc_to rfl 37 rfl zWd w3.heap.size rfl (alloc_wd _) ?_
    rw [uh HW4])
  |(refine wpList_store_blk rfl 37 (.tmp 4) (.tmp 26) rfl w3.heap.size 37 _ (WdCells d (.slice As d.L.length cs) (.slice Au d.U.length cu) (.slice Ac d.C.length cc) (.slice Ax d.X.length cx) (.slice Ap d.P.length cp)) rfl rfl (uh HB4) rfl wd_info (one7 rfl rfl rfl rfl rfl rfl rfl) ?_
    intro w5 hb5 hg5
    have HB5:=jd hb5
    have HM5:=jd ((uh HM4).stored (uh HB4) hg5 (by decide))
    have HL5:=jd ((uh HL4).grown hg5 (uh HL4).size (fun j hj=>by injection hj with hj; omega))
    clear hb5 hg5)
  | fail)
 simp only [Act.put,zA,zB,zC]
 rw [hq4] at HB5 ⊢
 have hq4b:base≤q4:=by omega
 clear HB4 HW4 HM4 HL4 HM3 HL3 hq4 hs3
 go_wp2_with fail
 refine (new_sx w5).mono ?_
 rintro e w6 ⟨rfl,hb6⟩
 have HB6:=jd ((uh HB5).below hb6 (uh HB5).lt)
 have HM6:=jd ((uh HM5).below hb6)
 have HL6:=jd ((uh HL5).trans (hb6.mono (uh HL5).size))
 obtain ⟨W7,hW7⟩ :∃W7,w6.alloc (.cells #[.slice none 0 0,.int .u32 0] 29)=W7:=⟨_,rfl⟩
 have hb7:Below w6.heap.size w6 W7:=hW7 ▸ (Below.refl _ _).alloc (Nat.le_refl _) _
 have HB7:=jd (hW7 ▸ Blk.new w6 _ _:Blk W7 w6.heap.size 29 #[.slice none 0 0,.int .u32 0])
 have HW7:=jd hW7
 have HM7:=jd ((uh HM6).below hb7)
 have HQ7:=jd ((uh HB6).below hb7 (uh HB6).lt)
 have HL7:=jd ((uh HL6).trans (hb7.mono (uh HL6).size))
 obtain ⟨q5,hq5⟩ :∃q5,w6.heap.size=q5:=⟨_,rfl⟩
 have hq45:q4 < q5:=by have:=(uh HB6).lt; omega
 clear hb6 hb7 hW7 HB5 HM5 HL5
 go_upto_region 6 with (first
  |(refine wpList_alloc_to rfl 29 rfl #[.slice none 0 0,.int .u32 0] w6.heap.size rfl (alloc_sl _) ?_
    rw [uh HW7])
  |(refine wpList_store_blk rfl 29 (.tmp 5) (.tmp 27) rfl w6.heap.size 29 _ #[.slice none 0 0,.int .u32 1] rfl rfl (uh HB7) rfl (by kernel_rfl) (by intro v hv; simp at hv; rcases hv with rfl | rfl<;>rfl) ?_
    intro w8 hb8 hg8
    rw [hq5] at hb8 hg8
    have PI8:Hid (PI w w8 base q4 q5 d (.slice As d.L.length cs) (.slice Au d.U.length cu) (.slice Ac d.C.length cc) (.slice Ax d.X.length cx) (.slice Ap d.P.length cp) V [] 1 (.slice none 0 0)):=jd ⟨(uh HQ7).grown hg8 (fun e=>by injection e with e; omega),hb8,World.ownsRow_nil _ _ _ _,tab0,(fun x hx=>by cases hx),(uh HM7).stored (hq5 ▸ uh HB7) hg8 (by decide),(uh HL7).grown hg8 (uh HL7).size (fun j hj=>by injection hj with hj; omega)⟩
    clear hb8 hg8)
  | fail)
 simp only [Act.put,zA,zB,zC]
 rw [hq5]
 have c5:w8.cell? ⟨q4,5,none⟩=some (.slice Ap d.P.length cp):=(uh PI8).b4.cell 5
 clear HB6 HM6 HL6 HB7 HW7 HM7 HQ7 HL7 hq5
 go_wp2_with fail
 clear c5
 have hPl:d.P.length≤1000:=by have:=(uh HOK).plen; omega
 go_loopw [31] (fun i wr=>∃ (k:Nat) (L:List Sess) (nx:Nat) (vS:Value),i=.int .i64 (k:Int)∧k≤d.P.length∧PI w wr base q4 q5 d (.slice As d.L.length cs) (.slice Au d.U.length cu) (.slice Ac d.C.length cc) (.slice Ax d.X.length cx) (.slice Ap d.P.length cp) V L nx vS) (fun i _=>d.P.length - (intOf i).toNat)
 case atStart=>exact ⟨0,[],1,_,rfl,Nat.zero_le _,uh PI8⟩
 case round =>
  obtain ⟨k,L,nx,vS,rfl,hk,hpi⟩:=hrel
  obtain ⟨AS,cS,e1,_,_⟩:=slice_of_own hpi.s
  subst e1
  have PI0:=jd hpi
  have hPl2:(d.P.length:Int)≤1000:=by omega
  clear hpi PI8
  by_cases hlt:k < d.P.length
  ·obtain ⟨bs,hbs⟩ :∃bs,d.P[k]?=some bs:=⟨_,List.getElem?_eq_getElem hlt⟩
   obtain ⟨gp,cp2,csp,hvp,hgp,hbp,hcp⟩:=own_at (uh PI0).m.p (by omega)
   injection hvp with hA _ hcc
   subst hA hcc
   obtain ⟨vb,hvb1,hvb2⟩:=(uh PI0).m.q.2 k bs hbs
   obtain ⟨Ab,cb,e1,hnb,hmb⟩:=slice_of_own hvb2
   subst e1
   have hcell:wr.cell? ⟨gp,k,none⟩=some (.slice Ab bs.length cb):=by rw [hbp.cell]; exact hcp k _ hvb1
   have hk2:(k:Int) < (d.P.length:Int):=by omega
   have HVB:=jd hvb2
   have hL4:=(validF_iff.1 (uh PI0).tab.val).1
   have HUOK:=jd (fun u hu=>((uh HOK).uok u hu).1)
   have hul:=(uh HOK).ulen
   have hcl:=(uh HOK).clen
   clear hbp hcp hvb1 hvb2 hbs hgp
   go_wp2_with (first
     | (refine wpList_load_row rfl 29 _ rfl q5 rfl 29 _ _ _ (uh PI0).b5 Tryz.underlying29 rfl (by kernel_rfl) ?_)
     | (refine wpList_load_mid rfl 33 (.tmp 37) rfl q4 2 rfl [.slice Au d.U.length cu,.slice Ac d.C.length cc] _ (world_part2 (uh PI0).b4) Tryz.underlying33 rfl (by kernel_rfl) ?_)
     | fail)
   clear hcell
   refine (hello_sx wr AS L.length cS L nx (sessL_of (uh PI0).s (uh PI0).tab.ok) (by omega) (uh PI0).tab.nx Au d.U.length cu Ac d.C.length cc d.U d.C (usrL_of (uh PI0).m.u (uh HUOK)) (chnL_of (uh PI0).m.c) (by unfold maxLen; omega) (by unfold maxLen; omega) 1 Ab bs.length cb bs (Reads.of_own (uh HVB)) hnb hmb 3 (by decide) 0 _ rfl).mono ?_
   rintro e w9 hpost
   obtain ⟨v,he,hv,hb9⟩:=hpost.v (hello_bad _ _ _ _ _ _ _ _)
   obtain ⟨vS9,vb9,hv1,hv2,hv3⟩:=hv
   subst hv1 he
   obtain ⟨r,hr⟩ :∃r,helloS L nx d.U d.C 1 bs 3 0=r:=⟨_,rfl⟩
   have hfine:r.code=0→TabOk r.L r.nx∧PrivOk d.U d.C r.L:=fun h0=>⟨((uh PI0).tab.hello (uh HUOK) (by decide) hr h0).1,(uh PI0).priv.hello (uh PI0).tab (uh HUOK) (by decide) hr h0⟩
   rw [hr] at hv2 hv3 ⊢
   have HFINE:=jd hfine
   have hbw:base≤wr.heap.size:=by have:=(uh PI0).b4.lt; omega
   have HS9:=jd (own_more hv2 hbw)
   have PI9:=jd ((uh PI0).below hb9)
   have HVB9:=jd (own_below (uh HVB) hb9)
   obtain ⟨W10,hW10⟩ :∃W10,w9.alloc (.cells #[.slice none 0 0,.int .u32 0] 29)=W10:=⟨_,rfl⟩
   have hb10:Below w9.heap.size w9 W10:=hW10 ▸ (Below.refl _ _).alloc (Nat.le_refl _) _
   have HB10:=jd (hW10 ▸ Blk.new w9 _ _:Blk W10 w9.heap.size 29 #[.slice none 0 0,.int .u32 0])
   have HW10:=jd hW10
   have PI10:=jd ((uh PI9).below hb10)
   have HS10:=jd (own_below (uh HS9) hb10)
   have HVB10:=jd (own_below (uh HVB9) hb10)
   obtain ⟨q8,hq8⟩ :∃q8,w9.heap.size=q8:=⟨_,rfl⟩
   have hq58:q5 < q8:=by have:=(uh PI9).b5.lt; omega
   clear hpost hv2 hv3 hr hfine hb9 hb10 hW10
   go_upto_if 45 with (first
     |(refine wpList_alloc_to rfl 29 rfl #[.slice none 0 0,.int .u32 0] w9.heap.size rfl (alloc_sl _) ?_
       rw [uh HW10])
     |(refine wpList_store_blk rfl 29 (.tmp 8) (.tmp 41) rfl w9.heap.size 29 _ #[vS9,.int .u32 (r.nx:Int)] rfl rfl (uh HB10) rfl (by kernel_rfl) (ses_one (uh HS10)) ?_
       intro w11 hb11 hg11
       rw [hq8] at hb11 hg11
       have HB10':Blk W10 q8 29 #[.slice none 0 0,.int .u32 0]:=hq8 ▸ uh HB10
       have PI11:=jd ((uh PI10).store HB10' hg11 (by omega) (by omega) (by decide) (by decide) (by omega))
       have HB11:=jd hb11
       have HS11:=jd ((uh HS10).kept hg11 (.inr (own_blk_ne (uh HS10) HB10' (by decide))))
       have HVB11:=jd ((uh HVB10).kept hg11 (.inr (own_blk_ne (uh HVB10) HB10' (by decide))))
       clear hb11 hg11 HB10')
     | fail)
   try rw [hq8]
   clear HS9 PI9 HVB9 HB10 HW10 PI10 HS10 HVB10 hq8
   go_cut [] from 44 to 46 (fun W12=>∃ (L:List Sess) (nx:Nat) (AS:Option Addr) (cS:Nat),PI w W12 base q4 q5 d (.slice As d.L.length cs) (.slice Au d.U.length cu) (.slice Ac d.C.length cc) (.slice Ax d.X.length cx) (.slice (some ⟨gp,0,none⟩) d.P.length cp) V L nx (.slice AS L.length cS)∧W12.ownsRow base 5 1 (.slice Ab bs.length cb) bs.length (bsV bs))
   case first =>
     by_cases h0:r.code=0
     ·have e0:(r.code==0)=true:=by simp [h0]
      obtain ⟨ht,hp⟩:=(uh HFINE) h0
      have HT:=jd ht
      have HP:=jd hp
      obtain ⟨A9,c9,e9,_,_⟩:=slice_of_own (uh HS11)
      subst e9
      clear h0 ht hp
      go_wp2_with (first
        | (refine wpList_load_row rfl 29 _ rfl q8 rfl 29 _ _ _ (uh HB11) Tryz.underlying29 rfl (by kernel_rfl) ?_)
        | (refine wpList_store_blk rfl 29 (.tmp 5) (.tmp 46) rfl q5 29 _ #[.slice A9 r.L.length c9,.int .u32 (r.nx:Int)] rfl rfl (uh PI11).b5 rfl (by kernel_rfl) (ses_one (uh HS11)) ?_
           intro w12 hb12 hg12
           have PI12:=jd ((uh PI11).put hb12 hg12 (by omega) (uh HS11) (uh HT) (uh HP) (by omega))
           have HVB12:=jd ((uh HVB11).kept hg12 (.inr (own_blk_ne (uh HVB11) (uh PI11).b5 (by decide))))
           clear hb12 hg12)
        | fail)
      go_meet
      exact ⟨_,_,_,_,uh PI12,uh HVB12⟩
     ·have e0:(r.code==0)=false:=by simp [h0]
      clear h0
      go_wp2_with fail
      go_meet
      exact ⟨_,_,_,_,uh PI11,uh HVB11⟩
   case rest =>
     obtain ⟨w12,rfl⟩ :∃w12:World,w12=wc:=⟨_,rfl⟩
     clear HFINE hL4
     obtain ⟨L,nx,AS,cS,hpi,hvb⟩:=hcut
     have PI0:=jd hpi
     have HVB:=jd hvb
     have hL4:=(validF_iff.1 (uh PI0).tab.val).1
     clear hpi hvb HB11 HS11 PI11 HVB11
     go_wp2_with (first
      | (refine wpList_load_row rfl 29 _ rfl q5 rfl 29 _ _ _ (uh PI0).b5 Tryz.underlying29 rfl (by kernel_rfl) ?_)
      | fail)
     refine (proof_sx w12 AS L.length cS L nx (sessL_of (uh PI0).s (uh PI0).tab.ok) (by omega) (uh PI0).tab.nx Ab bs.length cb bs (Reads.of_own (uh HVB)) hnb hmb 0 _ rfl).mono ?_
     rintro e w13 hpost
     obtain ⟨v,he,hv,hb13⟩:=hpost.v (proof_bad _ _ _ _)
     obtain ⟨vS13,vb13,hv1,hv2,hv3⟩:=hv
     subst hv1 he
     obtain ⟨r2,hr⟩ :∃r2,proofS L nx bs 0=r2:=⟨_,rfl⟩
     have hfine:r2.code=0→TabOk r2.L r2.nx∧PrivOk d.U d.C r2.L:=fun h0=>⟨((uh PI0).tab.proof hr h0).1,(uh PI0).priv.proof (uh PI0).tab hr h0⟩
     rw [hr] at hv2 hv3 ⊢
     have HFINE:=jd hfine
     have hbw2:base≤w12.heap.size:=by have:=(uh PI0).b4.lt; omega
     have HS9:=jd (own_more hv2 hbw2)
     have PI9:=jd ((uh PI0).below hb13)
     obtain ⟨W14,hW14⟩ :∃W14,w13.alloc (.cells #[.slice none 0 0,.int .u32 0] 29)=W14:=⟨_,rfl⟩
     have hb14:Below w13.heap.size w13 W14:=hW14 ▸ (Below.refl _ _).alloc (Nat.le_refl _) _
     have HB10:=jd (hW14 ▸ Blk.new w13 _ _:Blk W14 w13.heap.size 29 #[.slice none 0 0,.int .u32 0])
     have HW10:=jd hW14
     have PI10:=jd ((uh PI9).below hb14)
     have HS10:=jd (own_below (uh HS9) hb14)
     obtain ⟨q11,hq11⟩ :∃q11,w13.heap.size=q11:=⟨_,rfl⟩
     have hq511:q5 < q11:=by have:=(uh PI9).b5.lt; omega
     clear hpost hv2 hv3 hr hfine hb13 hb14 hW14
     go_upto_if 55 with (first
      | (refine wpList_alloc_to rfl 29 rfl #[.slice none 0 0,.int .u32 0] w13.heap.size rfl (alloc_sl _) ?_
         rw [uh HW10])
      | (refine wpList_store_blk rfl 29 (.tmp 11) (.tmp 51) rfl w13.heap.size 29 _ #[vS13,.int .u32 (r2.nx:Int)] rfl rfl (uh HB10) rfl (by kernel_rfl) (ses_one (uh HS10)) ?_
         intro w15 hb15 hg15
         rw [hq11] at hb15 hg15
         have HB10':Blk W14 q11 29 #[.slice none 0 0,.int .u32 0]:=hq11 ▸ uh HB10
         have PI11:=jd ((uh PI10).store HB10' hg15 (by omega) (by omega) (by decide) (by decide) (by omega))
         have HB11:=jd hb15
         have HS11:=jd ((uh HS10).kept hg15 (.inr (own_blk_ne (uh HS10) HB10' (by decide))))
         clear hb15 hg15 HB10')
      | fail)
     try rw [hq11]
     clear HS9 PI9 HB10 HW10 PI10 HS10 hq11
     by_cases h0:r2.code=0
     ·have e0:(r2.code==0)=true:=by simp [h0]
      obtain ⟨ht,hp⟩:=(uh HFINE) h0
      have HT:=jd ht
      have HP:=jd hp
      obtain ⟨A9,c9,e9,_,_⟩:=slice_of_own (uh HS11)
      subst e9
      clear h0 ht hp
      go_wp2_with (first
        | (refine wpList_load_row rfl 29 _ rfl q11 rfl 29 _ _ _ (uh HB11) Tryz.underlying29 rfl (by kernel_rfl) ?_)
        | (refine wpList_store_blk rfl 29 (.tmp 5) (.tmp 56) rfl q5 29 _ #[.slice A9 r2.L.length c9,.int .u32 (r2.nx:Int)] rfl rfl (uh PI11).b5 rfl (by kernel_rfl) (ses_one (uh HS11)) ?_
           intro w16 hb16 hg16
           have PI16:=jd ((uh PI11).put hb16 hg16 (by omega) (uh HS11) (uh HT) (uh HP) (by omega))
           clear hb16 hg16)
        | fail)
      go_roundw
      case rel=>exact ⟨k+1,_,_,_,by go_num,by omega,uh PI16⟩
      case measure=>simp [intOf]; omega
     ·have e0:(r2.code==0)=false:=by simp [h0]
      clear h0
      go_wp2_with fail
      go_roundw
      case rel=>exact ⟨k+1,_,_,_,by go_num,by omega,uh PI11⟩
      case measure=>simp [intOf]; omega
  ·have c0:wr.cell? ⟨q5,0,none⟩=some (.slice AS L.length cS):=(uh PI0).b5.cell 0
   have hge:((k:Int) < (d.P.length:Int))=False:=by simp; omega
   clear hlt hk
   have hL4:=(validF_iff.1 (uh PI0).tab.val).1
   have HUOK:=jd (fun u hu=>((uh HOK).uok u hu).1)
   have hul:=(uh HOK).ulen
   have hcl:=(uh HOK).clen
   have hwz:=(uh PI0).low.size
   obtain ⟨wo,rfl⟩ :∃wo:World,wo=wr:=⟨_,rfl⟩
   go_wp2_with fail
   clear c0 hge
   go_loopw [61] (fun i wr=>∃ k:Nat,i=.int .i64 (k:Int)∧k≤L.length∧Below wo.heap.size wo wr) (fun i _=>L.length - (intOf i).toNat)
   case atStart=>exact ⟨0,rfl,Nat.zero_le _,Below.refl _ _⟩
   case round =>
     obtain ⟨k,rfl,hk,hb⟩:=hrel
     have HBo:=jd hb
     have PI1:=jd ((uh PI0).later hb)
     clear hb
     by_cases hlt:k < L.length
     ·obtain ⟨x,hx⟩ :∃x,L[k]?=some x:=⟨_,List.getElem?_eq_getElem hlt⟩
      have hxo:=(uh PI1).tab.ok x (List.mem_of_getElem? hx)
      have hxp:=(uh PI1).priv x (List.mem_of_getElem? hx)
      obtain ⟨gs,cS2,cur,hvS,hgs,hbs,_,_,_,_,_,_,hrec⟩:=own_rec (m:=26) (cs:=Sess.cs) (uh PI1).s (by decide) (fun x hx=>Sess.len ((uh PI1).tab.ok x hx)) hx
      injection hvS with hA _ hcS
      subst hA hcS
      have HRG:=jd (show wr.rangeAt gs (k*26) x.cs from fun j v hv=>by rw [hbs.cell]; exact hrec j v hv)
      have HXO:=jd hxo
      have HXP:=jd hxp
      obtain ⟨ds,hds,hdr⟩:=ses_isRow
      have HDS:=jd hds
      have HDR:=jd hdr
      have hk2:(k:Int) < (L.length:Int):=by omega
      have hL5:(L.length:Int)≤4:=by omega
      obtain ⟨W9,hW9⟩ :∃W9,wr.alloc (.cells zSess.cs.toArray 50)=W9:=⟨_,rfl⟩
      have hb9:Below wr.heap.size wr W9:=hW9 ▸ (Below.refl _ _).alloc (Nat.le_refl _) _
      have HB9:=jd (hW9 ▸ Blk.new wr _ _:Blk W9 wr.heap.size 50 zSess.cs.toArray)
      have HW9:=jd hW9
      have HL9:=jd hb9
      obtain ⟨q15,hq15⟩ :∃q15,wr.heap.size=q15:=⟨_,rfl⟩
      have hq15b:wo.heap.size≤q15:=by have:=(uh HBo).size; omega
      clear hx hxo hxp hbs hrec hds hdr hW9 hb9 hgs
      go_upto_region 19 with (first
        | (refine wpList_load_mid rfl 50 (.tmp 63) rfl gs (k*26) rfl x.cs ds (uh HRG) (uh HDS) (uh HDR) (sess_infoL (uh HXO)) ?_)
        | (refine wpList_alloc_to rfl 50 rfl zSess.cs.toArray wr.heap.size rfl (alloc_sess _) ?_
           rw [uh HW9])
        | (refine wpList_store_blk rfl 50 (.tmp 15) (.tmp 64) rfl wr.heap.size 50 _ x.cs.toArray rfl rfl (uh HB9) (Sess.size_eq (uh HXO)) (sess_info (uh HXO)) (fun v hv=>Sess.one v (by simpa using hv)) ?_
           intro w10 hb10 hg10
           rw [hq15] at hb10
           have HB10:=jd hb10
           have HL10:Hid (Below wo.heap.size wo w10):=jd ((((uh HBo).trans ((uh HL9).mono (by omega))).grown hg10 (by have:=(uh HBo).size; have:=(uh HL9).size; omega) (fun j hj=>by injection hj with hj; omega)))
           clear hb10 hg10)
        | fail)
      simp only [Act.put,zA,zB,zC]
      try rw [hq15]
      have PI2:=jd ((uh PI0).later (uh HL10))
      have c2:w10.cell? ⟨q4,2,none⟩=some (.slice Au d.U.length cu):=(uh PI2).b4.cell 2
      clear HB9 HW9 HL9 hq15 HRG PI1
      go_wp2_with fail
      clear c2
      go_loopw [69,16] (fun i l wr=>∃ j:Nat,i=.int .i64 (j:Int)∧j≤d.U.length∧l=.int .i64 (limU x.user (d.U.take j))∧Below w10.heap.size w10 wr) (fun i _ _=>d.U.length - (intOf i).toNat)
      case atStart=>exact ⟨0,rfl,Nat.zero_le _,rfl,Below.refl _ _⟩
      case round =>
        obtain ⟨j,rfl,hj,rfl,hb⟩:=hrel
        obtain ⟨wp,rfl⟩ :∃wp:World,wp=wr:=⟨_,rfl⟩
        have HBp:=jd hb
        have hL11:=(uh HL10).trans (hb.mono (uh HL10).size)
        have HL11:=jd hL11
        have PI3:=jd ((uh PI0).later hL11)
        have HBX:=jd ((uh HB10).below hb (uh HB10).lt)
        clear hb hL11
        by_cases hjl:j < d.U.length
        · obtain ⟨u,hu⟩ :∃u,d.U[j]?=some u:=⟨_,List.getElem?_eq_getElem hjl⟩
          have huo:=(uh HUOK) u (List.mem_of_getElem? hu)
          have hsn:=limU_snoc x.user hu
          obtain ⟨gu,cu2,curu,hvu,hgu,hbu,_,_,_,_,_,_,hrecu⟩:=own_rec (m:=19) (cs:=Usr.cs) (uh PI3).m.u (by decide) (fun u hu=>Usr.len ((uh HUOK) u hu)) hu
          injection hvu with hA _ hcu
          subst hA hcu
          have HRU:=jd (show wp.rangeAt gu (j*19) u.cs from fun i v hv=>by rw [hbu.cell]; exact hrecu i v hv)
          have HUO:=jd huo
          have HSN:=jd hsn
          obtain ⟨du,hdu,hdr2⟩:=usr_isRow
          have HDU:=jd hdu
          have HDR2:=jd hdr2
          have hj2:(j:Int) < (d.U.length:Int):=by omega
          have hU8:(d.U.length:Int)≤8:=by omega
          obtain ⟨W12,hW12⟩ :∃W12,wp.alloc (.cells zUsr.cs.toArray 52)=W12:=⟨_,rfl⟩
          have hb12:Below wp.heap.size wp W12:=hW12 ▸ (Below.refl _ _).alloc (Nat.le_refl _) _
          have HB12:=jd (hW12 ▸ Blk.new wp _ _:Blk W12 wp.heap.size 52 zUsr.cs.toArray)
          have HW12:=jd hW12
          have HL12:=jd hb12
          have hs12:=(uh HBp).size
          obtain ⟨lv,hlv⟩ :∃lv,limU x.user (d.U.take j)=lv:=⟨_,rfl⟩
          rw [hlv] at HSN ⊢
          clear hu huo hsn hbu hrecu hdu hdr2 hW12 hb12 hgu hlv
          go_upto_region 23 with (first
            | (refine wpList_load_mid rfl 52 (.tmp 71) rfl gu (j*19) rfl u.cs du (uh HRU) (uh HDU) (uh HDR2) (usr_info (uh HUO)) ?_)
            |(refine wpList_alloc_to rfl 52 rfl zUsr.cs.toArray wp.heap.size rfl (alloc_usr _) ?_
              rw [uh HW12])
            |(refine wpList_store_blk rfl 52 (.tmp 18) (.tmp 72) rfl wp.heap.size 52 _ u.cs.toArray rfl rfl (uh HB12) (Usr.size_eq (uh HUO)) (usr_infoA (uh HUO)) (fun v hv=>Usr.one v (by simpa using hv)) ?_
              intro w13 hb13 hg13
              have HB13:=jd hb13
              have HL13:Hid (Below w10.heap.size w10 w13):=jd (((uh HBp).trans ((uh HL12).mono hs12)).grown hg13 (by have:=(uh HL12).size; omega) (fun j hj=>by injection hj with hj; omega))
              clear hb13 hg13)
            | fail)
          simp only [Act.put,zA,zB,zC]
          have uat:=Usr.blk (uh HUO) (uh HB13)
          have u0:=uat.name
          have u17:=uat.on
          have u18:=uat.limit
          have x1:=(Sess.blk (uh HXO) ((uh HB10).below (uh HL13) (uh HB10).lt)).user
          obtain ⟨on,hon⟩ :∃on,u.on=on:=⟨_,rfl⟩
          rw [hon] at u17
          obtain ⟨eb,heb⟩ :∃eb,(u.name==x.user)=eb:=⟨_,rfl⟩
          have HSN2:Hid (limU x.user (d.U.take (j+1))=if (eb && on)=true then u.limit else lv):=jd (by rw [uh HSN,show nameP x.user u=eb from heb,hon])
          clear uat hon HW12 HB12 HRU HL12 HB13
          cases eb<;>cases on
          all_goals
            go_wp2_with fail
            go_roundw
            case rel=>exact ⟨j+1,by go_num,by omega,by rw [uh HSN2]; rfl,uh HL13⟩
            case measure=>simp [intOf]; omega
        · obtain ⟨l0,hl0⟩ :∃l0,limU x.user d.U=l0:=⟨_,rfl⟩
          have htk:limU x.user (d.U.take j)=l0:=by rw [List.take_of_length_le (by omega)]; exact hl0
          rw [htk]
          have HL0:=jd hl0
          have hge:((j:Int) < (d.U.length:Int))=False:=by simp; omega
          have c3:wp.cell? ⟨q4,3,none⟩=some (.slice Ac d.C.length cc):=(uh PI3).b4.cell 3
          clear hl0 htk
          go_wp2_with fail
          clear c3 hge
          go_loopw [89,16] (fun i l wr=>∃ j:Nat,i=.int .i64 (j:Int)∧j≤d.C.length∧l=.int .i64 (limC l0 (d.C.take j))∧Below wp.heap.size wp wr) (fun i _ _=>d.C.length - (intOf i).toNat)
          case atStart=>exact ⟨0,rfl,Nat.zero_le _,rfl,Below.refl _ _⟩
          case round =>
            obtain ⟨j2,rfl,hj2,rfl,hb⟩:=hrel
            obtain ⟨wq,rfl⟩ :∃wq:World,wq=wr:=⟨_,rfl⟩
            have HBq:=jd hb
            have hL14:=(uh HL11).trans (hb.mono (uh HL11).size)
            have HL14:=jd hL14
            have PI4:=jd ((uh PI0).later hL14)
            have HBY:=jd ((uh HBX).below hb (uh HBX).lt)
            clear hb hL14
            by_cases hcl2:j2 < d.C.length
            ·obtain ⟨c,hc⟩ :∃c,d.C[j2]?=some c:=⟨_,List.getElem?_eq_getElem hcl2⟩
             have hsn:=limC_snoc l0 hc
             obtain ⟨gc,cc2,curc,hvc,hgc,hbc,_,_,_,_,_,_,hrecc⟩:=own_rec (m:=2) (cs:=Chn.cs) (uh PI4).m.c (by decide) (fun _ _=>rfl) hc
             injection hvc with hA _ hcc
             subst hA hcc
             have HRC:=jd (show wq.rangeAt gc (j2*2) c.cs from fun i v hv=>by rw [hbc.cell]; exact hrecc i v hv)
             have HSN:=jd hsn
             have hj3:(j2:Int) < (d.C.length:Int):=by omega
             have hC5:(d.C.length:Int)≤5:=by omega
             obtain ⟨W15,hW15⟩ :∃W15,wq.alloc (.cells #[.int .i64 0,.int .i64 0] 54)=W15:=⟨_,rfl⟩
             have hb15:Below wq.heap.size wq W15:=hW15 ▸ (Below.refl _ _).alloc (Nat.le_refl _) _
             have HB15:=jd (hW15 ▸ Blk.new wq _ _:Blk W15 wq.heap.size 54 #[.int .i64 0,.int .i64 0])
             have HW15:=jd hW15
             have HL15:=jd hb15
             have hs15:=(uh HBq).size
             obtain ⟨lv,hlv⟩ :∃lv,limC l0 (d.C.take j2)=lv:=⟨_,rfl⟩
             rw [hlv] at HSN ⊢
             clear hc hsn hbc hrecc hW15 hb15 hgc hlv
             go_upto_region 29 with (first
               | (refine wpList_load_mid rfl 54 (.tmp 91) rfl gc (j2*2) rfl c.cs _ (uh HRC) Tryz.underlying54 rfl (by kernel_rfl) ?_)
               |(refine wpList_alloc_to rfl 54 rfl #[.int .i64 0,.int .i64 0] wq.heap.size rfl (alloc_chn _) ?_
                 rw [uh HW15])
               |(refine wpList_store_blk rfl 54 (.tmp 20) (.tmp 92) rfl wq.heap.size 54 _ c.cs.toArray rfl rfl (uh HB15) rfl (by kernel_rfl) (by intro v hv; simp [Chn.cs] at hv; rcases hv with rfl | rfl<;>rfl) ?_
                 intro w16 hb16 hg16
                 have HB16:=jd hb16
                 have HL16:Hid (Below wp.heap.size wp w16):=jd (((uh HBq).trans ((uh HL15).mono hs15)).grown hg16 (by have:=(uh HL15).size; omega) (fun j hj=>by injection hj with hj; omega))
                 clear hb16 hg16)
               | fail)
             simp only [Act.put,zA,zB,zC]
             have n0:w16.cell? ⟨wq.heap.size,0,none⟩=some (.int .i64 c.number):=(uh HB16).cell 0
             have n1:w16.cell? ⟨wq.heap.size,1,none⟩=some (.int .i64 c.limit):=(uh HB16).cell 1
             clear HW15 HB15 HRC HL15 HB16
             by_cases hn1:c.number=1
             · have en:(c.number==1)=true:=by simp [hn1]
               obtain ⟨m,hm⟩ :∃m,(if c.limit < lv then c.limit else lv)=m:=⟨_,rfl⟩
               have HSN2:Hid (limC l0 (d.C.take (j2+1))=m):=jd (by rw [uh HSN,if_pos hn1,← hm]; split<;>omega)
               clear hn1
               go_wp2_with fail
               go_roundw
               case rel=>exact ⟨j2+1,by go_num,by omega,by rw [uh HSN2],uh HL16⟩
               case measure=>simp [intOf]; omega
             · have en:(c.number==1)=false:=by simp [hn1]
               have HSN2:Hid (limC l0 (d.C.take (j2+1))=lv):=jd (by rw [uh HSN,if_neg hn1])
               clear hn1
               go_wp2_with fail
               go_roundw
               case rel=>exact ⟨j2+1,by go_num,by omega,by rw [uh HSN2],uh HL16⟩
               case measure=>simp [intOf]; omega
            ·obtain ⟨l9,hl9⟩ :∃l9,limC l0 (d.C.take j2)=l9:=⟨_,rfl⟩
             have hxle:x.level≤l9:=by
               have h1:=uh HXP
               have h2:limA d.U d.C x.user=l9:=by rw [← hl9,List.take_of_length_le (by omega),← uh HL0]; rfl
               rw [h2] at h1
               exact h1
             rw [hl9]
             have hdl:decide (l9 < x.level)=false:=by simp; omega
             have x2:=(Sess.blk (uh HXO) (uh HBY)).level
             have HBo9:Hid (Below wo.heap.size wo wq):=HL14
             have hge:((j2:Int) < (d.C.length:Int))=False:=by simp; omega
             clear hl9
             go_wp2_with fail
             go_roundw
             case rel=>exact ⟨k+1,by go_num,by omega,uh HBo9⟩
             case measure=>simp [intOf]; omega
     ·have hvl:=(uh PI1).tab.val
      have c0:wr.cell? ⟨q5,0,none⟩=some (.slice AS L.length cS):=(uh PI1).b5.cell 0
      have hl4:(L.length:Int)≤4:=by omega
      have HVL:=jd hvl
      have hge:((k:Int) < (L.length:Int))=False:=by simp; omega
      clear hlt hk hvl
      go_wp2_with (first
        | (refine wpList_load_row rfl 29 _ rfl q5 rfl 29 _ _ _ (uh PI1).b5 Tryz.underlying29 rfl (by kernel_rfl) ?_)
        | fail)
      refine (valid_sx wr AS L.length cS L nx (sessL_of (uh PI1).s (uh PI1).tab.ok) (by unfold maxLen; omega) (uh PI1).tab.nx true (uh HVL)).mono ?_
      rintro e w20 ⟨rfl,hb20⟩
      have PI9:=jd ((uh PI1).below hb20)
      have c0':w20.cell? ⟨q5,0,none⟩=some (.slice AS L.length cS):=(uh PI9).b5.cell 0
      clear hb20
      go_wp2_with fail
      go_ret
      exact ⟨by simp,(uh PI9).low⟩
end Go.Proofs.YtfbkkmnkpjgciaaGreat
