/- Joined of SAwakeB. No condition. -/
import Derived.Test.YtfbkkmnkpjgciaaGreatPG35
namespace Go.Proofs.YtfbkkmnkpjgciaaGreat
open Go.RowKit
set_option maxRecDepth 100000 in
set_option maxHeartbeats 16000000 in
theorem awake_sx (w:World):Calls Tryz.prog 7 #[] w fun e w'=>e=.returned (.bool true)∧Below w.heap.size w w':=by
 have WB:Hid (Blk (((w.alloc (.cells exU0.cs.toArray 52)).alloc (.cells exH0.cs.toArray 54)).alloc (.cells #[.slice none 0 0,.slice none 0 0] 33)) (w.heap.size+2) 33 #[.slice none 0 0,.slice none 0 0]):=jd (Blk.new' (by simp))
 have WU:Hid (Blk (((w.alloc (.cells exU0.cs.toArray 52)).alloc (.cells exH0.cs.toArray 54)).alloc (.cells #[.slice none 0 0,.slice none 0 0] 33)) w.heap.size 52 exU0.cs.toArray):=jd (((Blk.new w 52 exU0.cs.toArray).alloc _).alloc _)
 have WH:Hid (Blk (((w.alloc (.cells exU0.cs.toArray 52)).alloc (.cells exH0.cs.toArray 54)).alloc (.cells #[.slice none 0 0,.slice none 0 0] 33)) (w.heap.size+1) 54 exH0.cs.toArray):=jd ((Blk.new' (by simp)).alloc _)
 have WX:Hid (Below w.heap.size w (((w.alloc (.cells exU0.cs.toArray 52)).alloc (.cells exH0.cs.toArray 54)).alloc (.cells #[.slice none 0 0,.slice none 0 0] 33))):=jd ((((Below.refl _ _).alloc (Nat.le_refl _) _).alloc (by rw [Zae]; omega) _).alloc (by rw [Zb2]; omega) _)
 go_enter Tryz.func7,Tryz.ntmps7
 go_upto_region 2 with (first
  | (refine Zab rfl 46 _ rfl [(0,.int .u8 7)] rfl _ build_k7 ?_)
  | (refine Zab rfl 52 _ rfl [(0,.string ⟨opN.toArray⟩),(1,.agg (bsV k7).toArray),(2,.bool true),(3,.int .i64 2)] rfl _ build_u0 ?_)
  | (refine Zab rfl 54 _ rfl [(0,.int .i64 1),(1,.int .i64 3)] rfl _ build_h0 ?_)
  | (refine ZaD rfl 30 1 _ rfl [(0,.agg exU0.cs.toArray)] rfl _ _ (run_us w) ?_)
  | (refine ZaD rfl 31 1 _ rfl [(0,.agg exH0.cs.toArray)] rfl _ _ (run_hs _ (w.heap.size+1) (Zae _ _)) ?_)
  | (refine Zag rfl 33 rfl _ (w.heap.size+2) (Zb2 _ _ _) (alloc_acc _) ?_)
  |(refine Zaa rfl 33 (.tmp 1) (.tmp 20) rfl (w.heap.size+2) 33 _ #[.slice (some ⟨w.heap.size,0,none⟩) 1 1,.slice (some ⟨w.heap.size+1,0,none⟩) 1 1] rfl rfl (uh WB) rfl (by kernel_rfl) (oZz rfl rfl) ?_
    intro w1 hb1 hg1
    have A1:=jd hb1
    have U1:=jd ((uh WU).gb hg1)
    have H1:=jd ((uh WH).gb hg1)
    have X1:=jd (gWz (uh WX) hg1)
    clear hb1 hg1)
  | fail)
 go_wp2_with (first
  | (refine Zab rfl 46 _ rfl [(0,.int .u8 7)] rfl _ build_k7 ?_)
  | fail)
 refine (ex_begin w1).mono ?_
 rintro e w2 ⟨vb,rfl,hob,hb2⟩
 obtain ⟨Ab,cb,hvb,hb1c,hb2c⟩:=Zac hob
 subst hvb
 have hs1:w.heap.size < w1.heap.size:=by have:=(uh A1).lt; omega
 have A2:=jd (((uh A1).below hb2 (uh A1).lt).alloc (.cells zCli.cs.toArray 65))
 have U2:=jd (((uh U1).below hb2 (uh U1).lt).alloc (.cells zCli.cs.toArray 65))
 have H2:=jd (((uh H1).below hb2 (uh H1).lt).alloc (.cells zCli.cs.toArray 65))
 have X2:=jd (((uh X1).trans (hb2.mono (uh X1).size)).alloc (by have:=(uh X1).size; have:=hb2.size; omega) (.cells zCli.cs.toArray 65))
 have OB2:=jd ((Zak hob (uh X1).size).alloc (.cells zCli.cs.toArray 65))
 have C2:=jd (Blk.new w2 65 zCli.cs.toArray)
 have hs2:w1.heap.size≤w2.heap.size:=hb2.size
 have ha2:=(uh A1).lt
 have hl1:exB1.length=14:=rfl
 clear hb2 hob
 have hsq0:=Cli.size_eq ZeC
 go_upto_region 3 with (first
  | (refine Zag rfl 65 rfl _ w2.heap.size rfl (Zaz _) ?_)
  |(refine Zaa rfl 65 (.tmp 2) (.tmp 24) rfl w2.heap.size 65 _ exC0.cs.toArray rfl rfl (uh C2) hsq0 (Zai ZeC) (fun v hv=>Cli.one v (by simpa using hv)) ?_
    intro w3 hb3 hg3
    have C3:=jd hb3
    have A3:=jd ((uh A2).gb hg3)
    have U3:=jd ((uh U2).gb hg3)
    have H3:=jd ((uh H2).gb hg3)
    have X3:=jd (gWz (uh X2) hg3)
    have OB3:=jd (World.ownsRow.kept (uh OB2) hg3 (.inr (Zad (uh OB2) (uh C2) (by decide))))
    have hs3:w2.heap.size < w3.heap.size:=hb3.lt
    clear hb3 hg3)
  | fail)
 obtain ⟨g2,hg2⟩ :∃k,w2.heap.size=k:=⟨_,rfl⟩
 have C3':Hid (Blk w3 g2 65 exC0.cs.toArray):=jd (hg2 ▸ uh C3)
 have hs2':w1.heap.size≤g2:=by omega
 have hs3':g2 < w3.heap.size:=by omega
 rw [hg2]
 clear C3 C2 hs3 hs2
 go_cut [3,5,6] from 27 to 34 (fun b p e W=>∃ A c Bd bd g5,b=.slice Bd 13 bd∧p=.pointer (some ⟨g5,0,none⟩)∧e=.int .i64 0∧Blk W g5 29 #[.slice A 1 c,.int .u32 2]∧w3.heap.size≤g5∧W.ownsRow w3.heap.size 50 26 (.slice A 1 c) 1 (Zat [exS0])∧W.ownsRow w3.heap.size 5 1 (.slice Bd 13 bd) 13 (bsV exB2)∧13≤bd∧bd≤maxLen∧Below w3.heap.size w3 W)
 case first =>
  have hS0:Below w3.heap.size w3 w3.drew:=(Below.refl _ _).drew
  refine wp_region_noPanic (wp_region_held_drew (S:=fun wz=>Below w3.heap.size w3 wz) (by kernel_rfl) hS0 (fun _=>?_))
  refine tJz 1 rfl (Zar 33 (.tmp 1) (by rfl) rfl (w.heap.size+2) rfl 33 #[.slice (some ⟨w.heap.size,0,none⟩) 1 1,.slice (some ⟨w.heap.size+1,0,none⟩) 1 1] _ (fun _ h=>(uh A3).below h (uh A3).lt) Tryz.underlying33 rfl (by kernel_rfl)) hS0 ?_
  refine tq 2 rfl hS0 ?_
  refine Zbk (i:=0) (j:=8) rfl rfl (by kernel_rfl) (fun K hK=>?_) (fun K hK=>?_)
  ·skip
   rw [if_pos (by rfl)]
   go_simp
   refine (new_sx w3.drew).mono ?_
   rintro e wn ⟨rfl,hbn⟩
   have hwn:Below w3.heap.size w3 wn:=hS0.trans (hbn.mono hS0.size)
   refine hK.out _ _ hwn (fun _=>?_)
   clear hK K
   try simp only [Act.put,zA,zB,zC]
   refine Zbk (i:=3) (j:=8) rfl rfl (by kernel_rfl) (fun K hK=>?_) (fun K hK=>?_)
   · skip
     rw [if_pos (by rfl)]
     go_simp
     refine (Zff wn w.heap.size (w.heap.size+1) ((uh U3).below hwn (uh U3).lt) ((uh H3).below hwn (uh H3).lt) Ab cb (((Zaj.of_own (uh OB3)).below hwn).more hwn.size) hb1c hb2c).mono ?_
     rintro e wh ⟨A,c,Bd,bd,rfl,ho1,ho2,hc1,hc2,hbn⟩
     have hwh:Below w3.heap.size w3 wh:=hwn.trans (hbn.mono hwn.size)
     have ho1:=Zak ho1 hwn.size
     have ho2:=Zak ho2 hwn.size
     refine hK.out _ _ hwh (fun _=>?_)
     clear hK K
     try simp only [Act.put,zA,zB,zC]
     refine tq 4 rfl hwh ?_
     refine tq 5 rfl hwh ?_
     refine tq 6 rfl hwh ?_
     refine tq 7 rfl hwh ?_
     refine tOz 8 rfl fun K hK=>?_
     have ho1':=ho1
     rw [if_pos (by rfl)]
     obtain ⟨g5,hg5⟩ :∃k,(wh).heap.size=k:=⟨_,rfl⟩
     have hz5:Blk (wh.alloc (.cells #[.slice none 0 0,.int .u32 0] 29)) g5 29 #[.slice none 0 0,.int .u32 0]:=by rw [← hg5]; exact Blk.new wh _ _
     have h5g:w3.heap.size≤g5:=by rw [← hg5]; exact hwh.size
     refine ZaT 29 rfl (ZaB _) ?_
     have ha:Below w3.heap.size w3 (wh.alloc (.cells #[.slice none 0 0,.int .u32 0] 29)):=hwh.alloc hwh.size _
     refine hK.out _ _ ha (fun _=>?_)
     clear hK K
     try simp only [Act.put,zA,zB,zC]
     rw [hg5]
     clear hg5
     have ho1:=ho1.alloc (.cells #[.slice none 0 0,.int .u32 0] 29)
     have ho2:=ho2.alloc (.cells #[.slice none 0 0,.int .u32 0] 29)
     refine tOz 9 rfl fun K hK=>?_
     refine Zaf (by rfl) 29 (.tmp 5) (.tmp 32) rfl g5 29 _ #[.slice A 1 c,.int .u32 2] rfl rfl hz5 rfl (by kernel_rfl) (oZz rfl rfl) ?_
     intro w9 hb9 hg9
     have h9:Below w3.heap.size w3 w9:=ha.grown hg9 ha.size (fun j e=>by injection e with e; omega)
     have ho1:=World.ownsRow.kept ho1 hg9 (.inr (Zad ho1 hz5 (by decide)))
     have ho2:=World.ownsRow.kept ho2 hg9 (.inr (Zad ho2 hz5 (by decide)))
     refine hK.out _ _ h9 (fun _=>?_)
     clear hK K
     try simp only [Act.put]
     refine tq 10 rfl h9 ?_
     refine tq 11 rfl h9 ?_
     refine tDz ?_
     go_wp2_with fail
     go_meet
     exact ⟨A,c,Bd,bd,g5,rfl,rfl,rfl,hb9,h5g,ho1,ho2,hc1,hc2,h9⟩
   · skip
     rw [if_pos (by rfl)]
     obtain ⟨g5,hg5⟩ :∃k,(wn).heap.size=k:=⟨_,rfl⟩
     have hz5:Blk (wn.alloc (.cells #[.slice none 0 0,.int .u32 0] 29)) g5 29 #[.slice none 0 0,.int .u32 0]:=by rw [← hg5]; exact Blk.new wn _ _
     have h5g:w3.heap.size≤g5:=by rw [← hg5]; exact hwn.size
     refine ZaT 29 rfl (ZaB _) ?_
     have ha:Below w3.heap.size w3 (wn.alloc (.cells #[.slice none 0 0,.int .u32 0] 29)):=hwn.alloc hwn.size _
     refine hK.out _ _ ha (fun _=>?_)
     clear hK K
     try simp only [Act.put,zA,zB,zC]
     rw [hg5]
     clear hg5
     refine tCz 3 rfl fun K hK=>?_
     go_simp
     refine (Zff (wn.alloc (.cells #[.slice none 0 0,.int .u32 0] 29)) w.heap.size (w.heap.size+1) ((uh U3).below ha (uh U3).lt) ((uh H3).below ha (uh H3).lt) Ab cb (((Zaj.of_own (uh OB3)).below ha).more ha.size) hb1c hb2c).mono ?_
     rintro e wh ⟨A,c,Bd,bd,rfl,ho1,ho2,hc1,hc2,hbn⟩
     have hwh:Below w3.heap.size w3 wh:=ha.trans (hbn.mono ha.size)
     have ho1:=Zak ho1 ha.size
     have ho2:=Zak ho2 ha.size
     have hz5:=hz5.below hbn hz5.lt
     refine hK.out _ _ hwh (fun _=>?_)
     clear hK K
     try simp only [Act.put,zA,zB,zC]
     refine tq 4 rfl hwh ?_
     refine tq 5 rfl hwh ?_
     refine tq 6 rfl hwh ?_
     refine tq 7 rfl hwh ?_
     refine tOz 9 rfl fun K hK=>?_
     refine Zaf (by rfl) 29 (.tmp 5) (.tmp 32) rfl g5 29 _ #[.slice A 1 c,.int .u32 2] rfl rfl hz5 rfl (by kernel_rfl) (oZz rfl rfl) ?_
     intro w9 hb9 hg9
     have h9:Below w3.heap.size w3 w9:=hwh.grown hg9 hwh.size (fun j e=>by injection e with e; omega)
     have ho1:=World.ownsRow.kept ho1 hg9 (.inr (Zad ho1 hz5 (by decide)))
     have ho2:=World.ownsRow.kept ho2 hg9 (.inr (Zad ho2 hz5 (by decide)))
     refine hK.out _ _ h9 (fun _=>?_)
     clear hK K
     try simp only [Act.put]
     refine tq 10 rfl h9 ?_
     refine tq 11 rfl h9 ?_
     refine tDz ?_
     go_wp2_with fail
     go_meet
     exact ⟨A,c,Bd,bd,g5,rfl,rfl,rfl,hb9,h5g,ho1,ho2,hc1,hc2,h9⟩
  ·skip
   rw [if_pos (by rfl)]
   obtain ⟨g5,hg5⟩ :∃k,(w3.drew).heap.size=k:=⟨_,rfl⟩
   have hz5:Blk (w3.drew.alloc (.cells #[.slice none 0 0,.int .u32 0] 29)) g5 29 #[.slice none 0 0,.int .u32 0]:=by rw [← hg5]; exact Blk.new w3.drew _ _
   have h5g:w3.heap.size≤g5:=by rw [← hg5]; exact hS0.size
   refine ZaT 29 rfl (ZaB _) ?_
   have ha:Below w3.heap.size w3 (w3.drew.alloc (.cells #[.slice none 0 0,.int .u32 0] 29)):=hS0.alloc hS0.size _
   refine hK.out _ _ ha (fun _=>?_)
   clear hK K
   try simp only [Act.put,zA,zB,zC]
   rw [hg5]
   clear hg5
   refine tCz 0 rfl fun K hK=>?_
   go_simp
   refine (new_sx (w3.drew.alloc (.cells #[.slice none 0 0,.int .u32 0] 29))).mono ?_
   rintro e wn ⟨rfl,hbn⟩
   have hwn:Below w3.heap.size w3 wn:=ha.trans (hbn.mono ha.size)
   refine hK.out _ _ hwn (fun _=>?_)
   clear hK K
   try simp only [Act.put,zA,zB,zC]
   have hz5:=hz5.below hbn hz5.lt
   refine tCz 3 rfl fun K hK=>?_
   go_simp
   refine (Zff wn w.heap.size (w.heap.size+1) ((uh U3).below hwn (uh U3).lt) ((uh H3).below hwn (uh H3).lt) Ab cb (((Zaj.of_own (uh OB3)).below hwn).more hwn.size) hb1c hb2c).mono ?_
   rintro e wh ⟨A,c,Bd,bd,rfl,ho1,ho2,hc1,hc2,hbn⟩
   have hwh:Below w3.heap.size w3 wh:=hwn.trans (hbn.mono hwn.size)
   have ho1:=Zak ho1 hwn.size
   have ho2:=Zak ho2 hwn.size
   have hz5:=hz5.below hbn hz5.lt
   refine hK.out _ _ hwh (fun _=>?_)
   clear hK K
   try simp only [Act.put,zA,zB,zC]
   refine tq 4 rfl hwh ?_
   refine tq 5 rfl hwh ?_
   refine tq 6 rfl hwh ?_
   refine tq 7 rfl hwh ?_
   refine tOz 9 rfl fun K hK=>?_
   refine Zaf (by rfl) 29 (.tmp 5) (.tmp 32) rfl g5 29 _ #[.slice A 1 c,.int .u32 2] rfl rfl hz5 rfl (by kernel_rfl) (oZz rfl rfl) ?_
   intro w9 hb9 hg9
   have h9:Below w3.heap.size w3 w9:=hwh.grown hg9 hwh.size (fun j e=>by injection e with e; omega)
   have ho1:=World.ownsRow.kept ho1 hg9 (.inr (Zad ho1 hz5 (by decide)))
   have ho2:=World.ownsRow.kept ho2 hg9 (.inr (Zad ho2 hz5 (by decide)))
   refine hK.out _ _ h9 (fun _=>?_)
   clear hK K
   try simp only [Act.put]
   refine tq 10 rfl h9 ?_
   refine tq 11 rfl h9 ?_
   refine tDz ?_
   go_wp2_with fail
   go_meet
   exact ⟨A,c,Bd,bd,g5,rfl,rfl,rfl,hb9,h5g,ho1,ho2,hc1,hc2,h9⟩
 case rest =>
  obtain ⟨A,c,Bd,bd,g5,rfl,rfl,rfl,hb9,h5g,ho1,ho2,hc1,hc2,h9⟩:=hcut
  have S4:=jd hb9
  have O4:=jd ho1
  have P4:=jd ho2
  have C4:=jd ((uh C3').below h9 hs3')
  have X4:=jd ((uh X3).trans (h9.mono (by omega)))
  have hs4:w3.heap.size≤wc.heap.size:=h9.size
  clear hb9 ho1 ho2 h9 OB3 U3 H3 A3 C3'
  clear A2 U2 H2 OB2 X2 A1 U1 H1 X1 WB WU WH WX hsq0
  have h25:g2≠g5:=by omega
  have g2b:w.heap.size≤g2:=by omega
  go_wp2_with (first
   | (refine wpList_load_row rfl 65 _ rfl g2 rfl 65 _ _ _ (uh C4) Tryz.underlying65 rfl (Zai ZeC) ?_)
   | fail)
  refine (ex_answer wc Bd bd (Zaj.of_own (uh P4)) hc1).mono ?_
  rintro e w5 ⟨vb,rfl,hob,hb⟩
  rw [show exB3.length=13 from ZbY _ _ _ _ _ _] at hob
  obtain ⟨Be,be,hvb,he1,he2⟩:=Zac hob
  subst hvb
  have P5:=jd hob
  have S5:=jd ((uh S4).below hb (uh S4).lt)
  have C5:=jd ((uh C4).below hb (uh C4).lt)
  have X5:=jd ((uh X4).trans (hb.mono (uh X4).size))
  have O5:=jd (Zam (uh O4) hb)
  clear hb hob
  have hsq6:exC1.cs.toArray.size=exC0.cs.toArray.size:=by rw [Cli.size Zbd,Cli.size ZeC]
  go_upto_region 5 with (first
   | (refine Zaa rfl 65 (.tmp 2) (.tmp 39) rfl g2 65 _ exC1.cs.toArray rfl rfl (uh C5) hsq6 (Zai Zbd) (fun v hv=>Cli.one v (by simpa using hv)) ?_
      intro w6 hb hg
      have C6:=jd hb
      have S6:=jd ((uh S5).gb hg)
      have O6:=jd (World.ownsRow.kept (uh O5) hg (.inr (Zad (uh O5) (uh C5) (by decide))))
      have P6:=jd (World.ownsRow.kept (uh P5) hg (.inr (Zad (uh P5) (uh C5) (by decide))))
      have X6:=jd ((uh X5).grown hg (uh X5).size (fun j e=>by injection e with e; have:=g2b; omega))
      clear hb hg)
   | fail)
  go_wp2_with (first
   | (refine wpList_load_row rfl 29 _ rfl g5 rfl 29 _ _ _ (uh S6) Tryz.underlying29 rfl (by kernel_rfl) ?_)
   | fail)
  refine (ex_proofC w6 A c (ZaA.of_own (uh O6) (fun x hx=>by simp at hx; subst hx; exact Zdw)) Be be (Zaj.of_own (uh P6)) he1 he2).mono ?_
  rintro e w7 ⟨Ag,cg,Bf,bf,rfl,hos,hob,hf1,hf2,hb⟩
  have hl4:exB4.length=13:=ZbY _ _ _ _ _ _
  rw [hl4] at hob hf1
  rw [hl4]
  have P7:=jd hob
  have O7:=jd hos
  have S7:=jd ((uh S6).below hb (uh S6).lt)
  have C7:=jd ((uh C6).below hb (uh C6).lt)
  have X7:=jd ((uh X6).trans (hb.mono (uh X6).size))
  clear hb hob hos hl4
  go_upto_region 6 with (first
   | (refine Zaa rfl 29 (.tmp 5) (.tmp 46) rfl g5 29 _ #[.slice Ag 1 cg,.int .u32 2] rfl rfl (uh S7) rfl (by kernel_rfl) (oZz rfl rfl) ?_
      intro w8 hb hg
      have S8:=jd hb
      have C8:=jd ((uh C7).gb hg)
      have O8:=jd (World.ownsRow.kept (uh O7) hg (.inr (Zad (uh O7) (uh S7) (by decide))))
      have P8:=jd (World.ownsRow.kept (uh P7) hg (.inr (Zad (uh P7) (uh S7) (by decide))))
      have X8:=jd ((uh X7).grown hg (uh X7).size (fun j e=>by injection e with e; have:=g2b; omega))
      clear hb hg)
   | fail)
  go_wp2_with (first
   | (refine wpList_load_row rfl 65 _ rfl g2 rfl 65 _ _ _ (uh C8) Tryz.underlying65 rfl (Zai Zbd) ?_)
   | fail)
  refine (ex_accept w8 Bf bf (Zaj.of_own (uh P8)) hf1).mono ?_
  rintro e w9 ⟨rfl,hb⟩
  have S9:=jd ((uh S8).below hb (uh S8).lt)
  have C9:=jd ((uh C8).below hb (uh C8).lt)
  have X9:=jd ((uh X8).trans (hb.mono (uh X8).size))
  have O9:=jd (Zam (uh O8) hb)
  have P9:=jd (Zam (uh P8) hb)
  clear hb
  have hsq10:exC2.cs.toArray.size=exC1.cs.toArray.size:=by rw [Cli.size Zfo,Cli.size Zbd]
  go_upto_region 7 with (first
   | (refine Zaa rfl 65 (.tmp 2) (.tmp 53) rfl g2 65 _ exC2.cs.toArray rfl rfl (uh C9) hsq10 (Zai Zfo) (fun v hv=>Cli.one v (by simpa using hv)) ?_
      intro w10 hb hg
      have C10:=jd hb
      have S10:=jd ((uh S9).gb hg)
      have O10:=jd (World.ownsRow.kept (uh O9) hg (.inr (Zad (uh O9) (uh C9) (by decide))))
      have P10:=jd (World.ownsRow.kept (uh P9) hg (.inr (Zad (uh P9) (uh C9) (by decide))))
      have X10:=jd ((uh X9).grown hg (uh X9).size (fun j e=>by injection e with e; have:=g2b; omega))
      clear hb hg)
   | fail)
  go_wp2_with (first
   | (refine wpList_load_row rfl 65 _ rfl g2 rfl 65 _ _ _ (uh C10) Tryz.underlying65 rfl (Zai Zfo) ?_)
   | (refine ZaD rfl 22 1 _ rfl [(0,.int .u8 9)] rfl _ _ (run_b9 w10) ?_)
   | fail)
  have hz9:Blk (w10.alloc (.cells (bsV [9]).toArray 5)) w10.heap.size 5 (bsV [9]).toArray:=Blk.new w10 _ _
  have hr9:Zaj (w10.alloc (.cells (bsV [9]).toArray 5)) (w10.alloc (.cells (bsV [9]).toArray 5)).heap.size 1 (some ⟨w10.heap.size,0,none⟩) 1 (bsV [9]):=Zaj.of_blk (cs:=bsV [9]) hz9 0 1 (by decide) hz9.lt
  refine (ex_post _ (some ⟨w10.heap.size,0,none⟩) 1 hr9 (by decide) (by decide)).mono ?_
  clear hr9 hz9
  rintro e w11 ⟨vb,rfl,hob,hb⟩
  rw [exB5_len] at hob
  obtain ⟨Bh,bh,hvb,hh1,hh2⟩:=Zac hob
  subst hvb
  have hb:Below w10.heap.size w10 w11:=((Below.refl _ _).alloc (Nat.le_refl _) _).trans (hb.mono (by rw [Zae]; omega))
  have P11:=jd hob
  have S11:=jd ((uh S10).below hb (uh S10).lt)
  have C11:=jd ((uh C10).below hb (uh C10).lt)
  have X11:=jd ((uh X10).trans (hb.mono (uh X10).size))
  have O11:=jd (Zam (uh O10) hb)
  clear hb hob
  have hsq12:exC3.cs.toArray.size=exC2.cs.toArray.size:=by rw [Cli.size exC3_ok,Cli.size Zfo]
  go_upto_region 8 with (first
   | (refine Zaa rfl 65 (.tmp 2) (.tmp 59) rfl g2 65 _ exC3.cs.toArray rfl rfl (uh C11) hsq12 (Zai exC3_ok) (fun v hv=>Cli.one v (by simpa using hv)) ?_
      intro w12 hb hg
      have C12:=jd hb
      have S12:=jd ((uh S11).gb hg)
      have O12:=jd (World.ownsRow.kept (uh O11) hg (.inr (Zad (uh O11) (uh C11) (by decide))))
      have P12:=jd (World.ownsRow.kept (uh P11) hg (.inr (Zad (uh P11) (uh C11) (by decide))))
      have X12:=jd ((uh X11).grown hg (uh X11).size (fun j e=>by injection e with e; have:=g2b; omega))
      clear hb hg)
   | fail)
  go_wp2_with (first
   | (refine wpList_load_row rfl 29 _ rfl g5 rfl 29 _ _ _ (uh S12) Tryz.underlying29 rfl (by kernel_rfl) ?_)
   | fail)
  refine (ex_recvC w12 Ag cg (ZaA.of_own (uh O12) (fun x hx=>by simp at hx; subst hx; exact exS1_ok)) Bh bh (Zaj.of_own (uh P12)) hh1 hh2).mono ?_
  rintro e w13 ⟨Ak,ck,Bk,bk,rfl,hos,hob,hk1,hk2,hb⟩
  have P13:=jd hob
  have O13:=jd hos
  have S13:=jd ((uh S12).below hb (uh S12).lt)
  have C13:=jd ((uh C12).below hb (uh C12).lt)
  have X13:=jd ((uh X12).trans (hb.mono (uh X12).size))
  clear hb hob hos
  go_upto_region 9 with (first
   | (refine Zaa rfl 29 (.tmp 5) (.tmp 66) rfl g5 29 _ #[.slice Ak 1 ck,.int .u32 2] rfl rfl (uh S13) rfl (by kernel_rfl) (oZz rfl rfl) ?_
      intro w14 hb hg
      have S14:=jd hb
      have C14:=jd ((uh C13).gb hg)
      have O14:=jd (World.ownsRow.kept (uh O13) hg (.inr (Zad (uh O13) (uh S13) (by decide))))
      have P14:=jd (World.ownsRow.kept (uh P13) hg (.inr (Zad (uh P13) (uh S13) (by decide))))
      have X14:=jd ((uh X13).grown hg (uh X13).size (fun j e=>by injection e with e; have:=g2b; omega))
      clear hb hg)
   | fail)
  have h37:w14.cell? ⟨g2,37,none⟩=some (.bool true):=(Cli.blk exC3_ok (uh C14)).opn
  have h40:w14.cell? ⟨g2,40,none⟩=some (.int .u32 1):=(Cli.blk exC3_ok (uh C14)).out
  have h50:w14.cell? ⟨g5,0,none⟩=some (.slice Ak 1 ck):=(uh S14).cell 0
  obtain ⟨g9,o9,hBk,_,hcell⟩:=Zcr (Zaj.of_own (uh P14)) (by decide)
  subst hBk
  have h90:w14.cell? ⟨g9,o9,none⟩=some (.int .u8 9):=hcell 0 9 rfl
  clear hcell
  go_wp2_with fail
  go_ret
  exact ⟨rfl,uh X14⟩
end Go.Proofs.YtfbkkmnkpjgciaaGreat
