/- Joined of TMade TStepAll SAwakeP SAwakeC. No condition. -/
import Derived.Test.YtfbkkmnkpjgciaaGreatPG33
import Derived.Deep.CutBlock
import Derived.Test.YtfbkkmnkpjgciaaGreatPG34
import Derived.Test.YtfbkkmnkpjgciaaGreatPG32
import Derived.Test.YtfbkkmnkpjgciaaGreatPG26
namespace Go.Proofs.YtfbkkmnkpjgciaaGreat
open Go.RowKit
def meN:List UInt8:=[109,101]
def meU:Usr:=⟨meN,[1,0,0,0,0,0,0,0,0,0,0,0,0,0,0,0],true,3⟩
def meC:List Chn:=[⟨0,3⟩,⟨1,2⟩]
theorem build_mek:Tryz.prog.built 46 [(0,.int .u8 1)]=some (bsV meU.key).toArray:=by kernel_rfl
theorem build_me:Tryz.prog.built 52 [(0,.string ⟨meN.toArray⟩),(1,.agg (bsV meU.key).toArray),(2,.bool true),(3,.int .i64 3)]=some meU.cs.toArray:=by kernel_rfl
theorem build_c0:Tryz.prog.built 54 [(0,.int .i64 0),(1,.int .i64 3)]=some (Chn.mk 0 3).cs.toArray:=by kernel_rfl
theorem build_c1:Tryz.prog.built 54 [(0,.int .i64 1),(1,.int .i64 2)]=some (Chn.mk 1 2).cs.toArray:=by kernel_rfl
theorem run_mes (w:World):(Instr.buildSlice 30 1 #[(0,.agg meU.cs.toArray)]).run Tryz.prog w=.ok (.slice (some ⟨w.heap.size,0,none⟩) 1 1) (w.alloc (.cells meU.cs.toArray 52)):=by kernel_rfl
theorem run_mec (w:World):(Instr.buildSlice 31 2 #[(0,.agg (Chn.mk 0 3).cs.toArray),(1,.agg (Chn.mk 1 2).cs.toArray)]).run Tryz.prog w=.ok (.slice (some ⟨w.heap.size,0,none⟩) 2 2) (w.alloc (.cells (meC.flatMap Chn.cs).toArray 54)):=by kernel_rfl
def zWd:Array Value:=#[.slice none 0 0,.int .u32 0,.slice none 0 0,.slice none 0 0,.slice none 0 0,.slice none 0 0,.int .i64 0]
theorem alloc_wd (w:World):(Instr.alloc 37 true (.tuple #[])).run Tryz.prog w=.ok (.pointer (some ⟨w.heap.size,0,none⟩)) (w.alloc (.cells zWd 37)):=by kernel_rfl
theorem build_wd (A A2:Option Addr) (n c n2 c2:Nat):Tryz.prog.built 37 [(0,.agg #[.slice none 0 0,.int .u32 1]),(1,.agg #[.slice A n c,.slice A2 n2 c2])]=some #[.slice none 0 0,.int .u32 1,.slice A n c,.slice A2 n2 c2,.slice none 0 0,.slice none 0 0,.int .i64 0]:=by kernel_rfl
theorem wd_info:(Tryz.prog.info? 37).map (·.size)=some 7:=by kernel_rfl
def MadeP (w:World) (B g:Nat) (e:Ending) (w':World):Prop :=
 ∃ d vs vu vc vx vp V,e=.returned (.agg (ZaQ d vs vu vc vx vp))∧WdM w' w.heap.size d vs vu vc vx vp V∧WdOk d 13 39 13∧Zaq w' B g∧Below g w w'
def StepAll:Prop:=∀ (w:World) (base B g gw:Nat) (d:Wd) (vs vu vc vx vp:Value) (V:List Value) (kx kp kn:Nat),Zaq w B g→WdAt w base gw d vs vu vc vx vp V→WdOk d kx kp kn→g < base→base≤gw→kx≤100→kp≤300→kn≤100 →
 Calls Tryz.prog 42 #[.pointer (some ⟨gw,0,none⟩),.pointer (some ⟨g,0,none⟩)] w (StepP w base B g gw d.U d.C kx kp kn)
theorem one7 {a b c d e f h:Value} (ha:a.oneCell'=true) (hb:b.oneCell'=true) (hc:c.oneCell'=true) (hd:d.oneCell'=true) (he:e.oneCell'=true) (hf:f.oneCell'=true) (hh:h.oneCell'=true):∀ v∈#[a,b,c,d,e,f,h].toList,v.oneCell'=true:=by
 intro v hv
 simp only [List.mem_cons,List.not_mem_nil,or_false] at hv
 rcases hv with rfl | rfl | rfl | rfl | rfl | rfl | rfl<;>assumption
def wd0 (U:List Usr) (C:List Chn):Wd:=⟨[],1,U,C,[],[],0⟩
theorem tab0:ZbQ [] 1:=⟨fun x hx=>(by cases hx),rfl,by decide⟩
theorem wd0_ok {U:List Usr} {C:List Chn} (hu:∀ u∈U,u.Ok∧u.name.length≤17) (h1:U.length≤8) (h2:0 < U.length) (h3:C.length≤5):WdOk (wd0 U C) 0 0 0 :=
 ⟨tab0,hu,h1,h2,h3,fun x hx=>(by cases hx),Nat.le_refl _,fun x hx=>(by cases hx),Nat.le_refl _,Int.le_refl _,by show (0:Int)≤_; omega⟩
theorem wd0_m {w:World} {base:Nat} {vu vc:Value} {U:List Usr} {C:List Chn} (h:AcOk w base vu vc U C):WdM w base (wd0 U C) (.slice none 0 0) vu vc (.slice none 0 0) (.slice none 0 0) [] :=
 ⟨World.ownsRow_nil _ _ _ _,h.u,h.c,World.ownsRow_nil _ _ _ _,World.ownsRow_nil _ _ _ _,Zc4.nil _ _⟩
theorem meU_ok:meU.Ok∧meU.name.length≤17:=⟨⟨by show 2≤maxLen; decide,rfl⟩,by decide⟩
theorem AcOk.more {w:World} {base base':Nat} {vu vc:Value} {U:List Usr} {C:List Chn} (h:AcOk w base vu vc U C) (hb:base'≤base):AcOk w base' vu vc U C:=⟨Zak h.u hb,Zak h.c hb,h.uok⟩
theorem AcOk.below {w w':World} {base:Nat} {vu vc:Value} {U:List Usr} {C:List Chn} (h:AcOk w base vu vc U C) (hb:Below w.heap.size w w'):AcOk w' base vu vc U C:=⟨Zam h.u hb,Zam h.c hb,h.uok⟩
theorem AcOk.storedW {w w':World} {base q:Nat} {vu vc:Value} {U:List Usr} {C:List Chn} {cs:Array Value} (h:AcOk w base vu vc U C) (hq:Blk w q 37 cs) (hb:w.grownBy w' (some q)):AcOk w' base vu vc U C :=
 h.kept hb (Zad h.u hq (by decide)) (Zad h.c hq (by decide))
theorem AcOk.newU {w:World} {base:Nat} {vu vc:Value} {U:List Usr} {C:List Chn} (h:AcOk w base vu vc U C) (hb:base≤w.heap.size):AcOk (w.alloc (.cells meU.cs.toArray 52)) base (.slice (some ⟨w.heap.size,0,none⟩) 1 1) vc [meU] C :=
 have hb2:=(Below.refl w.heap.size w).alloc (Nat.le_refl _) (.cells meU.cs.toArray 52)
 ⟨⟨rfl,.inr ⟨w.heap.size,1,_,rfl,hb,heap_alloc_new w _,Nat.le_refl _,by unfold maxLen; omega,rfl,rfl⟩⟩,Zam h.c hb2,fun x hx=>by simp at hx; subst hx; exact meU_ok⟩
theorem AcOk.newC {w:World} {base:Nat} {vu vc:Value} {U:List Usr} {C:List Chn} (h:AcOk w base vu vc U C) (hb:base≤w.heap.size):AcOk (w.alloc (.cells (meC.flatMap Chn.cs).toArray 54)) base vu (.slice (some ⟨w.heap.size,0,none⟩) 2 2) U meC :=
 have hb2:=(Below.refl w.heap.size w).alloc (Nat.le_refl _) (.cells (meC.flatMap Chn.cs).toArray 54)
 ⟨Zam h.u hb2,⟨rfl,.inr ⟨w.heap.size,2,_,rfl,hb,heap_alloc_new w _,Nat.le_refl _,by unfold maxLen; omega,rfl,rfl⟩⟩,h.uok⟩
structure MI (w wi:World) (B g gw q:Nat) (vu vc:Value) (U:List Usr) (C:List Chn):Prop where
 ac:AcOk wi w.heap.size vu vc U C
 blk:Blk wi gw 37 #[.slice none 0 0,.int .u32 1,vu,vc,.slice none 0 0,.slice none 0 0,.int .i64 0]
 res:Blk wi q 37 zWd
 c:Zaq wi B g
 low:Below g w wi
section
variable {w wi wj:World} {B g gw q:Nat} {vu vc:Value} {U:List Usr} {C:List Chn}
theorem MI.cj (h:MI w wi B g gw q vu vc U C) (hc:Zaq wj B g) (hg:wi.grownBy wj (some g)):MI w wj B g gw q vu vc U C :=
 ⟨h.ac.cj h.c hg,h.blk.grown hg (fun e=>ZbG h.c h.blk (by decide) (by injection e)),h.res.grown hg (fun e=>ZbG h.c h.res (by decide) (by injection e)),hc,h.low.grown hg (by have:=h.c.lt; omega) (fun j hj=>by injection hj with hj; omega)⟩
theorem MI.put {vu' vc':Value} {U':List Usr} {C':List Chn} {wk:World} (h:MI w wi B g gw q vu vc U C) (hb:Below wi.heap.size wi wj) (hac:AcOk wj w.heap.size vu' vc' U' C') (hblk:Blk wk gw 37 #[.slice none 0 0,.int .u32 1,vu',vc',.slice none 0 0,.slice none 0 0,.int .i64 0]) (hg:wj.grownBy wk (some gw)) (hgw:g < gw) (hq:q≠gw):MI w wk B g gw q vu' vc' U' C' :=
 have h1:=h.blk.below hb h.blk.lt
 ⟨hac.storedW h1 hg,hblk,(h.res.below hb h.res.lt).grown hg (fun e=>hq (by injection e)),(h.c.below_ hb).grown_ hg (fun j hj=>by injection hj with hj; omega),(h.low.trans (hb.mono (by have:=h.c.lt; omega))).grown hg (by have:=(h.c.below_ hb).lt; omega) (fun j hj=>by injection hj with hj; omega)⟩
end
set_option maxRecDepth 100000 in
set_option maxHeartbeats 4000000 in
theorem made_cx (hstep:StepAll) (w:World) (B g:Nat) (h:Zaq w B g):Calls Tryz.prog 9 #[.pointer (some ⟨g,0,none⟩)] w (MadeP w B g):=by
 have hgl:=h.lt
 obtain ⟨W0,hW0⟩ :∃W0,w.alloc (.cells #[.slice none 0 0,.int .u32 0,.slice none 0 0,.slice none 0 0,.slice none 0 0,.slice none 0 0,.int .i64 0] 37)=W0:=⟨_,rfl⟩
 have hbl0:Below w.heap.size w W0:=hW0 ▸ (Below.refl _ _).alloc (Nat.le_refl _) _
 have HZ0:=jd (show Blk W0 w.heap.size 37 zWd from hW0 ▸ Blk.new w _ _)
 have hs0:w.heap.size < W0.heap.size:=(uh HZ0).lt
 have HC0:=jd (h.below_ hbl0)
 have HL0:=jd hbl0
 have HSTEP:=jd hstep
 clear h hbl0 hstep
 go_enter Tryz.func9,Tryz.ntmps9
 go_upto_region 1 with fail
 clear hW0
 go_wp2_with fail
 refine (rnew_sx W0).mono ?_
 rintro e w1 ⟨rfl,hb1⟩
 have HL1:=jd ((uh HL0).trans (hb1.mono (by omega)))
 have HZ1:=jd ((uh HZ0).below hb1 (uh HZ0).lt)
 have HC1:=jd ((uh HC0).below_ hb1)
 have hs1:W0.heap.size≤w1.heap.size:=hb1.size
 clear hb1 HL0 HZ0 HC0
 go_wp2_with fail
 refine (accounts_cx w1 B g (uh HC1)).mono ?_
 rintro e w2 ⟨vu,vc,U,C,rfl,hU7,hC5,hac,hj2⟩
 obtain ⟨Au,cu,e1,_,_⟩:=Zac hac.u
 obtain ⟨Ac,cc,e2,_,_⟩:=Zac hac.c
 subst e1 e2
 have hs2:w1.heap.size≤w2.heap.size:=hj2.1.size
 have HA2:=jd (hac.more (show w.heap.size≤w1.heap.size by omega))
 have HZ2:=jd ((uh HZ1).grown hj2.1 (fun e=>by injection e with e; omega))
 have HC2:=jd hj2.2
 have HL2:Hid (Below g w w2):=jd (((uh HL1).mono (by omega)).grown hj2.1 (by omega) (fun j hj=>by injection hj with hj; omega))
 obtain ⟨W3,hW3⟩ :∃W3,w2.alloc (.cells zWd 37)=W3:=⟨_,rfl⟩
 have hb3:Below w2.heap.size w2 W3:=hW3 ▸ (Below.refl _ _).alloc (Nat.le_refl _) _
 have HB3:=jd (hW3 ▸ Blk.new w2 _ _:Blk W3 w2.heap.size 37 zWd)
 have HW3:=jd hW3
 have HA3:=jd ((uh HA2).below hb3)
 have HZ3:=jd ((uh HZ2).below hb3 (uh HZ2).lt)
 have HC3:=jd ((uh HC2).below_ hb3)
 have HL3:=jd ((uh HL2).trans (hb3.mono (by omega)))
 clear hac hj2 hb3 hW3 HL1 HZ1 HC1 HA2 HZ2 HC2 HL2
 go_upto_region 2 with (first
  | (refine Zab rfl 37 _ rfl [(0,.agg #[.slice none 0 0,.int .u32 1]),(1,.agg #[.slice Au U.length cu,.slice Ac C.length cc])] rfl _ (build_wd Au Ac U.length cu C.length cc) ?_)
  |(refine Zag rfl 37 rfl zWd w2.heap.size rfl (alloc_wd _) ?_
    rw [uh HW3])
  |(refine Zaa rfl 37 (.tmp 3) (.tmp 8) rfl w2.heap.size 37 _ #[.slice none 0 0,.int .u32 1,.slice Au U.length cu,.slice Ac C.length cc,.slice none 0 0,.slice none 0 0,.int .i64 0] rfl rfl (uh HB3) rfl (by kernel_rfl) (one7 rfl rfl rfl rfl rfl rfl rfl) ?_
    intro w4 hb4 hg4
    have MI4:Hid (MI w w4 B g w2.heap.size w.heap.size (.slice Au U.length cu) (.slice Ac C.length cc) U C):=jd ⟨(uh HA3).storedW (uh HB3) hg4,hb4,(uh HZ3).gb hg4,(uh HC3).grown_ hg4 (fun j hj=>by injection hj with hj; omega),(uh HL3).grown hg4 (by have:=(uh HC3).lt; omega) (fun j hj=>by injection hj with hj; omega)⟩
    clear hb4 hg4)
  | fail)
 obtain ⟨gw,hgwe⟩ :∃gw,w2.heap.size=gw:=⟨_,rfl⟩
 rw [hgwe] at MI4 ⊢
 simp only [Act.put,zA,zB,zC]
 have hgw:w.heap.size < gw:=by omega
 clear HA3 HB3 HW3 HZ3 HC3 HL3 hgwe hs2 hs1 hs0
 have c2:w4.cell? ⟨gw,2,none⟩=some (.slice Au U.length cu):=(uh MI4).blk.cell 2
 go_upto_if 13 with fail
 go_cut [] from 9 to 18 (fun W5=>∃ (Au:Option Addr) (cu:Nat) (U:List Usr),MI w W5 B g gw w.heap.size (.slice Au U.length cu) (.slice Ac C.length cc) U C∧U.length≤8∧0 < U.length)
 case first =>
  by_cases h0:U.length=0
  ·have e0:((U.length:Int)==0)=true:=by simp [h0]
   clear h0
   have hgs:w.heap.size≤w4.heap.size:=by have:=(uh MI4).blk.lt; omega
   have HA5:=jd ((uh MI4).ac.newU hgs)
   obtain ⟨W5,hW5⟩ :∃W5,w4.alloc (.cells meU.cs.toArray 52)=W5:=⟨_,rfl⟩
   rw [hW5] at HA5
   have hb5:Below w4.heap.size w4 W5:=hW5 ▸ (Below.refl _ _).alloc (Nat.le_refl _) _
   have HL5:=jd hb5
   have HW5:=jd hW5
   have HB5:=jd ((uh MI4).blk.below hb5 (uh MI4).blk.lt)
   clear hW5 hb5
   go_wp2_with (first
     | (refine Zab rfl 46 _ rfl [(0,.int .u8 1)] rfl _ build_mek ?_)
     | (refine Zab rfl 52 _ rfl [(0,.string ⟨meN.toArray⟩),(1,.agg (bsV meU.key).toArray),(2,.bool true),(3,.int .i64 3)] rfl _ build_me ?_)
     |(refine ZaD rfl 30 1 _ rfl [(0,.agg meU.cs.toArray)] rfl _ _ (run_mes w4) ?_
       rw [uh HW5])
     |(refine Zal rfl 30 (.tmp 18) (.tmp 16) rfl gw 2 37 _ (.slice (some ⟨w4.heap.size,0,none⟩) 1 1) [.slice (some ⟨w4.heap.size,0,none⟩) 1 1] [.slice none 0 0,.int .u32 1,.slice (some ⟨w4.heap.size,0,none⟩) 1 1,.slice Ac C.length cc,.slice none 0 0,.slice none 0 0,.int .i64 0] rfl rfl (uh HB5) rfl (by simp) (by kernel_rfl) (one1 rfl) rfl ?_
       intro w6 hb6 hg6
       have MI6:=jd ((uh MI4).put (uh HL5) (uh HA5) hb6 hg6 (by omega) (by omega))
       clear hb6 hg6
       simp only [Act.put])
     | fail)
   go_meet
   exact ⟨_,_,[meU],uh MI6,by decide,by decide⟩
  ·have e0:((U.length:Int)==0)=false:=by simp [h0]
   go_wp2_with fail
   go_meet
   exact ⟨_,_,U,uh MI4,by omega,by omega⟩
 case rest =>
  obtain ⟨w5,rfl⟩ :∃w5:World,w5=wc:=⟨_,rfl⟩
  obtain ⟨Au5,cu5,U5,hmi,hu8,hu0⟩:=hcut
  have MI5:=jd hmi
  clear hmi MI4 c2
  go_wp2_with fail
  refine (Zav w5 B g 4 (uh MI5).c (by decide) (by decide)).mono ?_
  rintro e w6 ⟨r,rfl,hr0,hr1,hc6,hg6⟩
  have MI6:=jd ((uh MI5).cj hc6 hg6)
  clear hc6 hg6 MI5
  go_upto_if 21 with fail
  go_cut [] from 20 to 26 (fun W7=>∃ (Ac:Option Addr) (cc:Nat) (C:List Chn),MI w W7 B g gw w.heap.size (.slice Au5 U5.length cu5) (.slice Ac C.length cc) U5 C∧C.length≤5)
  case first =>
   by_cases h3:r < 3
   · have e3:decide (r < 3)=true:=by simp [h3]
     have hgs:w.heap.size≤w6.heap.size:=by have:=(uh MI6).blk.lt; omega
     have HA7:=jd ((uh MI6).ac.newC hgs)
     obtain ⟨W7,hW7⟩ :∃W7,w6.alloc (.cells (meC.flatMap Chn.cs).toArray 54)=W7:=⟨_,rfl⟩
     rw [hW7] at HA7
     have hb7:Below w6.heap.size w6 W7:=hW7 ▸ (Below.refl _ _).alloc (Nat.le_refl _) _
     have HL7:=jd hb7
     have HW7:=jd hW7
     have HB7:=jd ((uh MI6).blk.below hb7 (uh MI6).blk.lt)
     clear hW7 hb7 hr1
     go_wp2_with (first
      | (refine Zab rfl 54 _ rfl [(0,.int .i64 0),(1,.int .i64 3)] rfl _ build_c0 ?_)
      | (refine Zab rfl 54 _ rfl [(0,.int .i64 1),(1,.int .i64 2)] rfl _ build_c1 ?_)
      | (refine ZaD rfl 31 2 _ rfl [(0,.agg (Chn.mk 0 3).cs.toArray),(1,.agg (Chn.mk 1 2).cs.toArray)] rfl _ _ (run_mec w6) ?_
         rw [uh HW7])
      | (refine Zal rfl 31 (.tmp 26) (.tmp 24) rfl gw 3 37 _ (.slice (some ⟨w6.heap.size,0,none⟩) 2 2) [.slice (some ⟨w6.heap.size,0,none⟩) 2 2] [.slice none 0 0,.int .u32 1,.slice Au5 U5.length cu5,.slice (some ⟨w6.heap.size,0,none⟩) 2 2,.slice none 0 0,.slice none 0 0,.int .i64 0] rfl rfl (uh HB7) rfl (by simp) (by kernel_rfl) (one1 rfl) rfl ?_
         intro w8 hb8 hg8
         have MI8:=jd ((uh MI6).put (uh HL7) (uh HA7) hb8 hg8 (by omega) (by omega))
         clear hb8 hg8
         simp only [Act.put])
      | fail)
     go_meet
     exact ⟨_,_,meC,uh MI8,by decide⟩
   · have e3:decide (r < 3)=false:=by simp [h3]
     clear hr1
     go_wp2_with fail
     go_meet
     exact ⟨_,_,C,uh MI6,hC5⟩
  case rest =>
   obtain ⟨w7,rfl⟩ :∃w7:World,w7=wc:=⟨_,rfl⟩
   obtain ⟨Ac7,cc7,C7,hmi,hc5⟩:=hcut
   have MI7:=jd hmi
   clear hmi MI6 hr0 hr1 hC5 hU7
   go_wp2_with fail
   refine (Zav w7 B g 14 (uh MI7).c (by decide) (by decide)).mono ?_
   rintro e w8 ⟨r,rfl,hr0,hr1,hc8,hg8⟩
   have MI8:=jd ((uh MI7).cj hc8 hg8)
   obtain ⟨k0,rfl⟩ :∃k0:Nat,r=(k0:Int):=⟨r.toNat,by omega⟩
   have hk0:k0≤13:=by omega
   clear hc8 hg8 MI7 hr1
   go_wp2_with fail
   go_loopw [4] (fun i wr=>∃ (k m:Nat) (d:Wd) (vs vu vc vx vp:Value) (V:List Value),i=.int .i64 (k:Int)∧k+m≤13∧WdAt wr w.heap.size gw d vs vu vc vx vp V∧WdOk d m (3*m) m∧Blk wr w.heap.size 37 zWd∧Zaq wr B g∧Below g w wr) (fun i _=>(intOf i).toNat)
   case atStart=>exact ⟨k0,0,wd0 U5 C7,_,_,_,_,_,_,rfl,by omega,⟨(uh MI8).blk,wd0_m (uh MI8).ac⟩,wd0_ok (uh MI8).ac.uok hu8 hu0 hc5,(uh MI8).res,(uh MI8).c,(uh MI8).low⟩
   case round =>
     obtain ⟨k,m,d,vs,vu,vc,vx,vp,V,rfl,hkm,hwd,hok,hres,hc,hlow⟩:=hrel
     have HWD:=jd hwd
     have HOK:=jd hok
     have HRES:=jd hres
     have HC:=jd hc
     have HLOW:=jd hlow
     have hm13:m≤13:=by omega
     clear hwd hok hres hc hlow MI8
     rcases Nat.eq_zero_or_pos k with rfl | hlt
     ·obtain ⟨As,cs,e1,_,_⟩:=Zac (uh HWD).m.s
      obtain ⟨Au,cu,e2,_,_⟩:=Zac (uh HWD).m.u
      obtain ⟨Ac,cc,e3,_,_⟩:=Zac (uh HWD).m.c
      obtain ⟨Ax,cx,e4,_,_⟩:=Zac (uh HWD).m.x
      obtain ⟨Ap,cp,e5,_,_⟩:=Zac (uh HWD).m.p
      subst e1 e2 e3 e4 e5
      have hsw:w.heap.size≤wr.heap.size:=(uh HLOW).size
      go_wp2_with (first
        | (refine wpList_load_row rfl 37 _ rfl gw rfl 37 _ _ _ (uh HWD).blk Tryz.underlying37 rfl wd_info ?_)
        |(refine Zaa rfl 37 (.tmp 2) (.tmp 35) rfl w.heap.size 37 _ (ZaQ d (.slice As d.L.length cs) (.slice Au d.U.length cu) (.slice Ac d.C.length cc) (.slice Ax d.X.length cx) (.slice Ap d.P.length cp)) rfl rfl (uh HRES) rfl wd_info (one7 rfl rfl rfl rfl rfl rfl rfl) ?_
          intro w9 hb9 hg9
          have Z9:=jd hb9
          have E9:Hid (MadeP w B g (.returned (.agg (ZaQ d (.slice As d.L.length cs) (.slice Au d.U.length cu) (.slice Ac d.C.length cc) (.slice Ax d.X.length cx) (.slice Ap d.P.length cp)))) w9):=jd ⟨d,_,_,_,_,_,_,rfl,(uh HWD).m.stored (uh HRES) hg9 (by decide),(uh HOK).more (by omega) (by omega) (by omega),(uh HC).grown_ hg9 (fun j hj=>by injection hj with hj; omega),(uh HLOW).grown hg9 (by omega) (fun j hj=>by injection hj with hj; omega)⟩
          clear hb9 hg9)
        | fail)
      exact bodyPost_ret (v:=.agg (ZaQ d (.slice As d.L.length cs) (.slice Au d.U.length cu) (.slice Ac d.C.length cc) (.slice Ax d.X.length cx) (.slice Ap d.P.length cp))) (Zba rfl _ w.heap.size 37 _ _ rfl (uh Z9) Tryz.underlying37 rfl wd_info) rfl (uh E9)
     ·have hk1:(0:Int) < (k:Int):=by omega
      go_wp2_with fail
      refine ((uh HSTEP) wr w.heap.size B g gw d vs vu vc vx vp V m (3*m) m (uh HC) (uh HWD) (uh HOK) hgl (by omega) (by omega) (by omega) (by omega)).mono ?_
      rintro e w9 ⟨rfl,d9,vs9,vu9,vc9,vx9,vp9,V9,si,ok,_,_⟩
      have HWD9:=jd si.wd
      have HOK9:=jd (ok.more (Nat.le_refl _) (show 3*m+3≤3*(m+1) by omega) (Nat.le_refl _))
      have HRES9:=jd (si.kb _ _ _ (uh HRES) (by omega) (by omega) (by decide) (by decide))
      have HC9:=jd si.c
      have HLOW9:=jd ((uh HLOW).trans si.low)
      clear si ok
      go_wp2_with fail
      go_roundw
      case rel=>exact ⟨k - 1,m+1,d9,vs9,vu9,vc9,vx9,vp9,V9,by congr 1; omega,by omega,uh HWD9,uh HOK9,uh HRES9,uh HC9,uh HLOW9⟩
      case measure=>simp [intOf]; omega
theorem step_all:StepAll:=fun w base B g gw d vs vu vc vx vp V kx kp kn h1 h2 h3 h4 h5 h6 h7 h8=>step_cx w base B g gw d vs vu vc vx vp V kx kp kn h1 h2 h3 h4 h5 h6 h7 h8
def k7:List UInt8:=[7,0,0,0,0,0,0,0,0,0,0,0,0,0,0,0]
def opN:List UInt8:=[111,112,101,114]
def exC0:Cli:=ZbF opN k7 ((2:UInt8).toNat:Int) 5
def exB1:List UInt8:=Zdm opN 2 5
def exU:List Usr:=[⟨opN,k7,true,2⟩]
def exC:List Chn:=[⟨1,3⟩]
def exB2:List UInt8:=ZdZ 1 6
def exS0:Sess:=newS exU exB1 6 1 0
theorem ex_hello:ZbI [] 1 exU exC 1 exB1 6 0=⟨0,[exS0],2,exB2⟩:=by kernel_rfl
def exC1:Cli:=ansC exC0 exB2
def exB3:List UInt8:=ZbB 3 exC0.key exC1.id exC0.nonce exC1.server (levB exC0.level)
def exB4:List UInt8:=ZbB 4 exS0.key exS0.id exS0.client exS0.server (levB exS0.level)
theorem ex_key:exS0.key=exC0.key:=by kernel_rfl
theorem ex_id:exS0.id=exC1.id:=by kernel_rfl
theorem ex_cl:exS0.client=exC0.nonce:=by kernel_rfl
theorem ex_sv:exS0.server=exC1.server:=by kernel_rfl
theorem ex_lv:levB exS0.level=levB exC0.level:=by kernel_rfl
theorem ex_id1:exC1.id=1:=by kernel_rfl
theorem ex_proof:ZbN [exS0] 2 exB3 1=⟨0,[ZeI exS0 1],2,exB4⟩:=by
 have e3:exB3=ZbB 3 exS0.key exS0.id exS0.client exS0.server (levB exS0.level):=by
  rw [ex_key,ex_id,ex_cl,ex_sv,ex_lv]; rfl
 have hl:exB3.length=13:=ZbY _ _ _ _ _ _
 have h0:exB3[0]?=some 3:=provF_head _ _ _ _ _ _
 have hi:leW ((exB3.drop 1).take 4)=1:=by
  unfold exB3
  rw [provF_id _ _ _ _ _ _ (by rw [ex_id1]; decide),ex_id1]
 unfold ZbN
 rw [if_neg (by rw [show ZaS [exS0] 2=true by kernel_rfl]; simp),if_neg (by rw [show ZcR 1=true by kernel_rfl]; simp),if_neg (by rw [hl,h0]; simp),hi,show Zcs (idP 1) (expF [exS0] 2 1) 0=some (0,exS0) by kernel_rfl]
 dsimp only
 rw [if_neg (by rw [show exS0.opn=false by kernel_rfl]; simp),if_neg (by rw [← e3]; simp),show (expF [exS0] 2 1)=[exS0] by kernel_rfl]
 rfl
def exC2:Cli:={ exC1 with opn:=true }
theorem ex_b4:exB4=ZbB 4 exC1.key exC1.id exC1.nonce exC1.server (levB exC1.level):=by
 unfold exB4
 rw [ex_key,ex_id,ex_cl,ex_sv,ex_lv]
 rfl
def exC3:Cli:={ exC2 with out:=exC2.out+1 }
def exS1:Sess:=ZeI exS0 1
def exB5:List UInt8:=Zb0 5 exC2.sess exC2.id (exC2.out+1) 0 [9]
theorem ex_sess:exS1.key=exC2.sess:=by
 show derF exS0.key ZdW (exS0.client:Int) (exS0.server:Int)=derF exC0.key ZdW (exC0.nonce:Int) (exC1.server:Int)
 rw [ex_key,ex_cl,ex_sv]
def exS2:Sess:=took exS1 1 2
theorem ex_recv:Zcj [exS1] 2 exB5 2=⟨0,[exS2],2,1,0,[9]⟩:=by
 have hp:Zay exB5=⟨1,1,0,[9]⟩:=by
  unfold exB5
  rw [parts_pack 5 exC2.sess exC2.id (exC2.out+1) 0 [9] (show exC1.id < 4294967296 by rw [ex_id1]; decide) (by show (0:Nat)+1 < 4294967296; decide)]
  show (⟨exC1.id,0+1,0,[9]⟩:Prt)=_
  rw [ex_id1]
 have hf:Zcv 5 exB5=true:=form_pack _ _ _ _ _ _ (by simp)
 have hg:genF exS1.key exB5=true:=by rw [ex_sess]; exact gen_pack _ _ _ _ _ _
 unfold Zcj
 rw [if_neg (by rw [show ZaS [exS1] 2=true by kernel_rfl]; simp),if_neg (by rw [show ZcR 2=true by kernel_rfl]; simp),if_neg (by rw [hf]; simp),hp]
 dsimp only
 rw [if_neg (by rw [show Zb6 0=true by kernel_rfl]; simp),show Zcs (idP 1) (expF [exS1] 2 2) 0=some (0,exS1) by kernel_rfl]
 dsimp only
 rw [if_neg (by rw [show exS1.opn=true by kernel_rfl]; simp),if_neg (by rw [hg]; simp),show ZbS exS1.hi exS1.se 1=(1,0,0) by kernel_rfl,show (expF [exS1] 2 2)=[exS1] by kernel_rfl]
 rfl
def exU0:Usr:=⟨opN,k7,true,2⟩
def exH0:Chn:=⟨1,3⟩
theorem ZeC:exC0.Ok:=ZcZ (by decide) rfl (by decide)
theorem Zbd:exC1.Ok:=ansC_ok ZeC rfl
theorem Zfo:exC2.Ok:=⟨Zbd.user,Zbd.key,Zbd.sess,Zbd.nonce,Zbd.server,Zbd.id,Zbd.hi,Zbd.se,Zbd.out⟩
theorem exC3_ok:exC3.Ok:=⟨Zbd.user,Zbd.key,Zbd.sess,Zbd.nonce,Zbd.server,Zbd.id,Zbd.hi,Zbd.se,by show 0+1 < 4294967296; decide⟩
theorem Zdw:exS0.Ok:=⟨by show 1 < 4294967296; decide,by show 4≤maxLen; decide,by rw [ex_cl]; decide,by show 6 < 18446744073709551616; decide,by rw [ex_key]; rfl,by show 0 < 4294967296; decide,by show 0 < 4294967296; decide,by show 0 < 4294967296; decide⟩
theorem exS1_ok:exS1.Ok:=⟨Zdw.id,Zdw.user,Zdw.client,Zdw.server,ZbK _ _ _ _,Zdw.hi,Zdw.se,Zdw.out⟩
theorem build_k7:Tryz.prog.built 46 [(0,.int .u8 7)]=some (bsV k7).toArray:=by kernel_rfl
theorem build_u0:Tryz.prog.built 52 [(0,.string ⟨opN.toArray⟩),(1,.agg (bsV k7).toArray),(2,.bool true),(3,.int .i64 2)]=some exU0.cs.toArray:=by kernel_rfl
theorem build_h0:Tryz.prog.built 54 [(0,.int .i64 1),(1,.int .i64 3)]=some exH0.cs.toArray:=by kernel_rfl
theorem run_us (w:World):(Instr.buildSlice 30 1 #[(0,.agg exU0.cs.toArray)]).run Tryz.prog w=.ok (.slice (some ⟨w.heap.size,0,none⟩) 1 1) (w.alloc (.cells exU0.cs.toArray 52)):=by kernel_rfl
theorem run_hs (w:World) (g:Nat) (hg:w.heap.size=g):(Instr.buildSlice 31 1 #[(0,.agg exH0.cs.toArray)]).run Tryz.prog w=.ok (.slice (some ⟨g,0,none⟩) 1 1) (w.alloc (.cells exH0.cs.toArray 54)):=by subst hg; kernel_rfl
theorem run_b9 (w:World):(Instr.buildSlice 22 1 #[(0,.int .u8 9)]).run Tryz.prog w=.ok (.slice (some ⟨w.heap.size,0,none⟩) 1 1) (w.alloc (.cells (bsV [9]).toArray 5)):=by kernel_rfl
theorem alloc_acc (w:World):(Instr.alloc 33 true (.tuple #[])).run Tryz.prog w=.ok (.pointer (some ⟨w.heap.size,0,none⟩)) (w.alloc (.cells #[.slice none 0 0,.slice none 0 0] 33)):=by kernel_rfl
theorem ex_begin (w:World):Calls Tryz.prog 19 #[.string ⟨opN.toArray⟩,.agg (bsV k7).toArray,.int .i64 2,.int .u64 5] w (ZcQ w exC0 exB1) :=
 begin_ok w opN k7 rfl 2 5 (by decide) (by kernel_rfl) (by decide)
def SesOk (w:World) (L:List Sess) (nx:Nat) (b:List UInt8) (e:Ending) (w':World):Prop :=
 ∃ A c A2 c2,e=.returned (.tuple #[.agg #[.slice A L.length c,.int .u32 (nx:Int)],.slice A2 b.length c2,.int .i64 0])∧w'.ownsRow w.heap.size 50 26 (.slice A L.length c) L.length (Zat L)∧w'.ownsRow w.heap.size 5 1 (.slice A2 b.length c2) b.length (bsV b)∧b.length≤c2∧c2≤maxLen∧Below w.heap.size w w'
theorem ZaH.ok {w w':World} {L:List Sess} {nx:Nat} {b:List UInt8} {e:Ending} (h:ZaH w ⟨0,L,nx,b⟩ e w'):SesOk w L nx b e w':=by
 unfold ZaH at h
 rw [if_pos rfl] at h
 obtain ⟨vS,vD,he,h1,h2,h3⟩:=h
 obtain ⟨A,c,e1,_,_⟩:=Zac h1
 obtain ⟨A2,c2,e2,h4,h5⟩:=Zac h2
 subst e1 e2
 exact ⟨A,c,A2,c2,he,h1,h2,h4,h5,h3⟩
def RcvOk (w:World) (L:List Sess) (nx id kind:Nat) (b:List UInt8) (e:Ending) (w':World):Prop :=
 ∃ A c A2 c2,e=.returned (.tuple #[.agg #[.slice A L.length c,.int .u32 (nx:Int)],.int .u32 (id:Int),.int .i64 (kind:Int),.slice A2 b.length c2,.int .i64 0])∧w'.ownsRow w.heap.size 50 26 (.slice A L.length c) L.length (Zat L)∧w'.ownsRow w.heap.size 5 1 (.slice A2 b.length c2) b.length (bsV b)∧b.length≤c2∧c2≤maxLen∧Below w.heap.size w w'
theorem ZbP.ok {w w':World} {L:List Sess} {nx id kind:Nat} {b:List UInt8} {e:Ending} (h:ZbP w ⟨0,L,nx,id,kind,b⟩ e w'):RcvOk w L nx id kind b e w':=by
 unfold ZbP at h
 rw [if_pos rfl] at h
 obtain ⟨vS,vD,he,h1,h2,h3⟩:=h
 obtain ⟨A,c,e1,_,_⟩:=Zac h1
 obtain ⟨A2,c2,e2,h4,h5⟩:=Zac h2
 subst e1 e2
 exact ⟨A,c,A2,c2,he,h1,h2,h4,h5,h3⟩
theorem Zff (w:World) (gu gc:Nat) (hu:Blk w gu 52 exU0.cs.toArray) (hc:Blk w gc 54 exH0.cs.toArray) (Ab:Option Addr) (cb:Nat) (hb:Zaj w w.heap.size 1 Ab 14 (bsV exB1)) (hbc:14≤cb) (hbm:cb≤maxLen) :
  Calls Tryz.prog 11 #[.agg #[.slice none 0 0,.int .u32 1],.agg #[.slice (some ⟨gu,0,none⟩) 1 1,.slice (some ⟨gc,0,none⟩) 1 1],.int .i64 1,.slice Ab 14 cb,.int .u64 6,.int .i64 0] w (SesOk w [exS0] 2 exB2):=by
 have hU:UsrL w w.heap.size (some ⟨gu,0,none⟩) 1 exU:=by
  refine ⟨⟨rfl,fun _=>⟨⟨gu,0,none⟩,rfl,hu.lt,fun j u hj=>?_⟩⟩,fun x hx=>?_,fun x hx=>?_⟩
  ·rw [ZbM,hu.cell]
   simpa [exU,exU0] using hj
  · simp [exU] at hx; subst hx; exact ⟨by show 4≤maxLen; decide,rfl⟩
  · simp [exU] at hx; subst hx; rfl
 have hC:ChnL w w.heap.size (some ⟨gc,0,none⟩) 1 exC:=by
  refine ⟨⟨rfl,fun _=>⟨⟨gc,0,none⟩,rfl,hc.lt,fun j u hj=>?_⟩⟩,fun x hx=>trivial,fun x hx=>?_⟩
  ·rw [ZbM,hc.cell]
   simpa [exC,exH0] using hj
  · simp [exC] at hx; subst hx; rfl
 exact (hello_sx w none 0 0 [] 1 ⟨Zaj.none_,fun x hx=>by cases hx⟩ (by decide) (by decide) (some ⟨gu,0,none⟩) 1 1 (some ⟨gc,0,none⟩) 1 1 exU exC hU hC (by decide) (by decide) 1 Ab 14 cb exB1 hb hbc hbm 6 (by decide) 0 _ ex_hello).mono fun e w' h=>h.ok
theorem ex_answer (w:World) (A:Option Addr) (cc:Nat) (hr:Zaj w w.heap.size 1 A 13 (bsV exB2)) (hnc:13≤cc) :
  Calls Tryz.prog 37 #[.agg exC0.cs.toArray,.slice A 13 cc] w (ZcQ w exC1 exB3) :=
 answer_ok w exC0 ZeC A cc exB2 hr hnc (by kernel_rfl) rfl rfl
theorem ex_proofC (w:World) (A:Option Addr) (c:Nat) (hS:ZaA w w.heap.size A 1 [exS0]) (Ab:Option Addr) (cb:Nat) (hb:Zaj w w.heap.size 1 Ab 13 (bsV exB3)) (hbc:13≤cb) (hbm:cb≤maxLen) :
  Calls Tryz.prog 12 #[.agg #[.slice A 1 c,.int .u32 2],.slice Ab 13 cb,.int .i64 1] w (SesOk w [exS1] 2 exB4) :=
 (proof_sx w A 1 c [exS0] 2 hS (by decide) (by decide) Ab 13 cb exB3 hb hbc hbm 1 _ ex_proof).mono fun e w' h=>h.ok
theorem ex_accept (w:World) (A:Option Addr) (cc:Nat) (hr:Zaj w w.heap.size 1 A 13 (bsV exB4)) (hnc:13≤cc) :
  Calls Tryz.prog 38 #[.agg exC1.cs.toArray,.slice A 13 cc] w (AccPost w exC2) :=
 accept_ok w exC1 Zbd A cc exB4 hr hnc (by kernel_rfl) rfl (by rw [ex_id1]; decide) ex_b4
theorem ex_post (w:World) (A:Option Addr) (cc:Nat) (hr:Zaj w w.heap.size 1 A 1 (bsV [9])) (hnc:1≤cc) (hcm:cc≤maxLen) :
  Calls Tryz.prog 39 #[.agg exC2.cs.toArray,.int .i64 0,.slice A 1 cc] w (ZcQ w exC3 exB5) :=
 post_ok w exC2 Zfo 0 A 1 cc [9] hr hnc hcm (by kernel_rfl) rfl (by decide) (by decide) (by show 0 < 4294967295; decide)
theorem exB5_len:exB5.length=19:=Zet _ _ _ _ _ _
theorem ex_recvC (w:World) (A:Option Addr) (c:Nat) (hS:ZaA w w.heap.size A 1 [exS1]) (Ab:Option Addr) (cb:Nat) (hb:Zaj w w.heap.size 1 Ab 19 (bsV exB5)) (hbc:19≤cb) (hbm:cb≤maxLen) :
  Calls Tryz.prog 31 #[.agg #[.slice A 1 c,.int .u32 2],.slice Ab 19 cb,.int .i64 2] w (RcvOk w [exS2] 2 1 0 [9]) :=
 (recv_sx w A 1 c [exS1] 2 hS (by decide) (by decide) Ab 19 cb exB5 hb hbc hbm 2 _ ex_recv).mono fun e w' h=>h.ok
end Go.Proofs.YtfbkkmnkpjgciaaGreat
