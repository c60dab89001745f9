/- Joined of SSplit. No condition. -/
import Derived.Test.YtfbkkmnkpjgciaaGreatPG05
namespace Go.Proofs.YtfbkkmnkpjgciaaGreat
open Go.RowKit
def genF (ks l:List UInt8):Bool:=decide (l.drop (l.length - 8)=leB (sumF ks (l.take (l.length - 8))) 8)
def GenR (ks l:List UInt8):Nat→Value→World→Prop
 | 7,v,_=>v=.int .u64 (sumF ks (l.take (l.length - 8)))
 | 8,v,w=>ZaR w 8 (leB (sumF ks (l.take (l.length - 8))) 8) v
 | 9,v,_=>v=.bool (genF ks l)
 | _,_,_=>True
theorem GenR.keep {ks l:List UInt8}:∀ (k:Nat) (v:Value) (w w':World),GenR ks l k v w→Below w.heap.size w w'→GenR ks l k v w':=by
 intro k v w w' h hb
 unfold GenR at *
 split at h
 · exact h
 · exact h.below hb
 · exact h
 · trivial
set_option maxRecDepth 100000 in
set_option maxHeartbeats 8000000 in
theorem genuine_sx (w:World) (ks:List UInt8) (hk:ks.length=16) (A:Option Addr) (n c:Nat) (l:List UInt8) (hr:Zaj w w.heap.size 1 A n (bsV l)) (hnc:n≤c) (hc:c≤maxLen) (h8:8≤n) (hn:n≤1000) :
  Calls Tryz.prog 81 #[.agg (bsV ks).toArray,.slice A n c] w fun e w'=>e=.returned (.bool (genF ks l))∧Below w.heap.size w w':=by
 obtain ⟨W1,hW1⟩ :∃W1,w.alloc (.cells (bsV ks).toArray 46)=W1:=⟨_,rfl⟩
 have K1:Hid (Blk W1 w.heap.size 46 (bsV ks).toArray):=jd (hW1 ▸ Blk.new w _ _)
 have B1:Hid (Below w.heap.size w W1):=jd (hW1 ▸ (Below.refl _ _).alloc (Nat.le_refl _) _)
 have D1:Hid (Zaj W1 W1.heap.size 1 A n (bsV l)):=jd (((hr.below (uh B1))).more (uh B1).size)
 have HW1:=jd hW1
 have HSZ:=jd (Zbo hk)
 have HK:=jd hk
 have hl:l.length=n:=by have:=hr.1; simpa [bsV] using this
 have HL:=jd hl
 have HC:=jd hc
 have HNC:=jd hnc
 have EGL':=jd (ZaO Tryz.func50 (by kernel_rfl) rfl)
 have EGS':=jd (ZaO Tryz.func97 (by kernel_rfl) rfl)
 have EGE':=jd (ZaO Tryz.func51 (by kernel_rfl) rfl)
 have h8z:(8:Int)≤(n:Int):=by omega
 have hnz:(n:Int)≤1000:=by omega
 obtain ⟨m,hm⟩ :∃m,n - 8=m:=⟨_,rfl⟩
 have hmz:(n:Int) - 8=(m:Int):=by omega
 have hwm:IntKind.i64.wrap ((n:Int) - 8)=(m:Int):=by rw [hmz]; exact IntWalk.i64_in _ (by omega)
 have hwm2:IntKind.i64.wrap (m:Int)=(m:Int):=IntWalk.i64_in _ (by omega)
 have SA:∀ W,(Instr.sliceAt 22 (.slice A n c) (some (.int .i64 (m:Int))) none none).run Tryz.prog W=.ok (.slice (subA A m c) 8 (c - m)) W:=fun W=>by
  rw [sl_l W A n c m (m:Int) rfl (by omega),show n - m=8 by omega]
 have SB:∀ W,(Instr.sliceAt 22 (.slice A n c) none (some (.int .i64 (m:Int))) none).run Tryz.prog W=.ok (.slice A m c) W:=fun W=>sl_h W A n c m (m:Int) rfl (by omega)
 have HSA:=jd SA
 have HSB:=jd SB
 have HM:=jd hm
 clear hW1 hr hk hnc hc hl SA SB hm
 go_enter Tryz.func81,Tryz.ntmps81
 go_upto_region 2 with fail
 rw [uh HW1]
 have SA:=uh HSA
 have SB:=uh HSB
 have hS0:Below W1.heap.size W1 W1.drew:=(Below.refl _ _).drew
 refine wp_region_noPanic (wp_region_held_drew (S:=fun wz=>Below W1.heap.size W1 wz) (by kernel_rfl) hS0 (fun _=>?_))
 refine tq 0 rfl hS0 ?_
 refine tq 1 rfl hS0 ?_
 refine tJz (v:=.slice (subA A m c) 8 (c - m)) 2 rfl (Or.inl ⟨by rfl,fun wz hSw=>?_⟩) hS0 ?_
 ·have hq:=SA wz
  go_simp
 refine tJz 3 rfl (Zar 46 (.tmp 2) (by rfl) rfl w.heap.size rfl 46 (bsV ks).toArray _ (fun _ h=>(uh K1).below h (uh K1).lt) Tryz.underlying46 rfl (uh HSZ)) hS0 ?_
 refine tq 4 rfl hS0 ?_
 refine tq 5 rfl hS0 ?_
 refine tJz (v:=.slice A m c) 6 rfl (Or.inl ⟨by rfl,fun wz hSw=>?_⟩) hS0 ?_
 ·have hq:=SB wz
  go_simp
 refine ZbH (GenR ks l) W1 [7,8,9] #[true,true,true,true,true,true,true,true,true,true,false] [(7,some 16),(8,some 17),(9,some 18)] 19 1 (by kernel_rfl) rfl GenR.keep (fun _ h=>h) hS0 ⟨?_,?_,?_,trivial⟩ ?_ rfl
 ·intro a wa hBa hout hin
  have e12:a.eval (.tmp 12)=.agg (bsV ks).toArray:=hout 12 (by kernel_rfl)
  have e15:a.eval (.tmp 15)=.slice A m c:=hout 15 (by kernel_rfl)
  refine ZaI [.agg (bsV ks).toArray,.slice A m c] rfl rfl rfl rfl (uh EGS') ?_ ?_
  ·show [a.eval (.tmp 12),a.eval (.tmp 15)]=_
   rw [e12,e15]
  ·have hx:(l.take (l.length - 8))=l.take m:=by rw [uh HL,uh HM]
   have hr:=(((uh D1).below hBa).more hBa.size).head (j:=m) (by have:=uh HM; omega)
   refine (sum_any ks (l.take m) (uh HK) A m c wa hr (by have:=uh HNC; have:=uh HM; omega) (uh HC)).mono fun e w' ⟨he,hb⟩=>⟨_,he,hb,?_⟩
   show _=Value.int .u64 (sumF ks (l.take (l.length - 8)))
   rw [hx]
 ·intro a wa hBa hout hin
  have e16:a.eval (.tmp 16)=.int .u64 (sumF ks (l.take (l.length - 8))):=hin 7 16 (by kernel_rfl)
  obtain ⟨sm,hsm⟩ :∃sm:Nat,sumF ks (l.take (l.length - 8))=(sm:Int):=⟨_,(Int.toNat_of_nonneg (Zcd _ _)).symm⟩
  refine ZaI [.int .u64 (sm:Int),.int .i64 ((8:Nat):Int)] rfl rfl rfl rfl (uh EGL') ?_ ?_
  ·show [a.eval (.tmp 16),_]=_
   rw [e16,hsm]
   rfl
  ·refine (ZbV wa sm 8 (.inr rfl)).mono fun e w' ⟨v,he,hb,hs⟩=>⟨v,he,hb,?_⟩
   show ZaR w' 8 (leB (sumF ks (l.take (l.length - 8))) 8) v
   rw [hsm]
   exact hs
 ·intro a wa hBa hout hin
  obtain ⟨A8,c8,e8,h81,h82,h83⟩:=hin 8 17 (by kernel_rfl)
  have e11:a.eval (.tmp 11)=.slice (subA A m c) 8 (c - m):=hout 11 (by kernel_rfl)
  refine ZaI [.slice (subA A m c) 8 (c - m),.slice A8 8 c8] rfl rfl rfl rfl (uh EGE') ?_ ?_
  ·show [a.eval (.tmp 11),a.eval (.tmp 17)]=_
   rw [e11,e8]
  ·have hr:=(((uh D1).below hBa).more hBa.size).rest (i:=m) (c:=c) (by have:=uh HM; omega) (uh HNC)
   rw [show n - m=8 by have:=uh HM; omega] at hr
   refine (equal_sx wa 8 (subA A m c) A8 (c - m) c8 (l.drop m) _ wa.heap.size hr h83 (by omega) _ rfl).mono fun e w' ⟨he,hb⟩=>⟨_,he,hb,?_⟩
   show Value.bool _=Value.bool (genF ks l)
   unfold genF
   rw [uh HL,uh HM]
 intro vals ww hBw hRw
 simp only [puts,Act.put,zA,zB,zC]
 have e9:vals 9=.bool (genF ks l):=hRw 9 (by rfl)
 rw [e9]
 refine tq 10 rfl hBw ?_
 refine tDz ?_
 have HB:=jd ((uh B1).trans (hBw.mono (uh B1).size))
 clear hRw hBw e9
 go_wp2_with fail
 go_ret
 exact ⟨rfl,uh HB⟩
structure Prt where
 id:Nat
 n:Nat
 kb:UInt8
 data:List UInt8
def Zay (l:List UInt8):Prt:=⟨leW ((l.drop 1).take 4),leW ((l.drop 5).take 4),l.getD 9 0,(l.drop 10).take (l.length - 18)⟩
def Zcv (f:UInt8) (l:List UInt8):Bool:=decide (18≤l.length) && (decide (l.length≤274) && (l.getD 0 0==f))
def Zb6 (b:UInt8):Bool:=b==0 || b==1
theorem leW4 (l:List UInt8) (i:Nat):leW ((l.drop i).take 4) < 4294967296:=by
 have h:=leW_lt ((l.drop i).take 4)
 have h2:((l.drop i).take 4).length≤4:=List.length_take_le _ _
 have h3:256 ^ ((l.drop i).take 4).length≤256 ^ 4:=Nat.pow_le_pow_right (by omega) h2
 omega
def SplitR (B:Nat) (l:List UInt8):Nat→Value→World→Prop
 | 2,v,_=>v=.int .u64 (leW ((l.drop 1).take 4):Int)
 | 3,v,_=>v=.int .u32 (leW ((l.drop 1).take 4):Int)
 | 6,v,_=>v=.int .u64 (leW ((l.drop 5).take 4):Int)
 | 7,v,_=>v=.int .u32 (leW ((l.drop 5).take 4):Int)
 | 17,v,w=>Zdn B w (l.length - 18) (Zay l).data v
 | 18,v,w=>∃ d,v=.agg #[.int .u32 ((Zay l).id:Int),.int .u32 ((Zay l).n:Int),.int .i64 ((Zay l).kb.toNat:Int),d]∧Zdn B w (l.length - 18) (Zay l).data d
 | 19,v,w=>∃ g,v=.pointer (some ⟨g,0,none⟩)∧Blk w g 123 #[.int .u32 0,.int .u32 0,.int .i64 0,.slice none 0 0]∧B < g
 | _,_,_=>True
theorem SplitR.keep {B:Nat} {l:List UInt8}:∀ (k:Nat) (v:Value) (w w':World),SplitR B l k v w→Below w.heap.size w w'→SplitR B l k v w':=by
 intro k v w w' h hb
 unfold SplitR at *
 split at h
 · exact h
 · exact h
 · exact h
 · exact h
 · exact h.below hb
 ·obtain ⟨d,h1,h2⟩:=h
  exact ⟨d,h1,h2.below hb⟩
 ·obtain ⟨g,h1,h2,h3⟩:=h
  exact ⟨g,h1,h2.below hb h2.lt,h3⟩
 · trivial
def SplitPost (w:World) (l:List UInt8) (e:Ending) (w':World):Prop :=
 ∃ d,e=.returned (.tuple #[.agg #[.int .u32 ((Zay l).id:Int),.int .u32 ((Zay l).n:Int),.int .i64 ((Zay l).kb.toNat:Int),d],.bool (Zb6 (Zay l).kb)])∧w'.ownsRow w.heap.size 5 1 d (l.length - 18) (bsV (Zay l).data)∧Below w.heap.size w w'
theorem bld_parts (w:World) (x y z:Int) (A:Option Addr) (n c:Nat):(Instr.build 123 #[(0,.int .u32 x),(1,.int .u32 y),(2,.int .i64 z),(3,.slice A n c)]).run Tryz.prog w=.ok (.agg #[.int .u32 x,.int .u32 y,.int .i64 z,.slice A n c]) w:=by kernel_rfl
theorem ZdR (w:World):(Instr.alloc 123 true (.tuple #[])).run Tryz.prog w=.ok (.pointer (some ⟨w.heap.size,0,none⟩)) (w.alloc (.cells #[.int .u32 0,.int .u32 0,.int .i64 0,.slice none 0 0] 123)):=by kernel_rfl
set_option maxRecDepth 100000 in
set_option maxHeartbeats 8000000 in
theorem split_ok (w:World) (f:UInt8) (A:Option Addr) (n c:Nat) (l:List UInt8) (hr:Zaj w w.heap.size 1 A n (bsV l)) (hnc:n≤c) (hc:c≤maxLen) (hf:Zcv f l=true) :
  Calls Tryz.prog 80 #[.int .u8 (f.toNat:Int),.slice A n c] w (SplitPost w l):=by
 have hl:l.length=n:=by have:=hr.1; simpa [bsV] using this
 unfold Zcv at hf
 simp only [Bool.and_eq_true,decide_eq_true_eq,beq_iff_eq] at hf
 obtain ⟨h18,h274,hf0⟩:=hf
 rw [hl] at h18 h274
 obtain ⟨g,oo,hA,hgl,hcell⟩:=Zcr hr (by omega)
 subst hA
 obtain ⟨W1,hW1⟩ :∃W1,w.alloc (.cells #[.int .u32 0,.int .u32 0,.int .i64 0,.slice none 0 0] 123)=W1:=⟨_,rfl⟩
 have K1:Hid (Blk W1 w.heap.size 123 #[.int .u32 0,.int .u32 0,.int .i64 0,.slice none 0 0]):=jd (hW1 ▸ Blk.new w _ _)
 have B1:Hid (Below w.heap.size w W1):=jd (hW1 ▸ (Below.refl _ _).alloc (Nat.le_refl _) _)
 have D1:Hid (Zaj W1 W1.heap.size 1 (some ⟨g,oo,none⟩) n (bsV l)):=jd (((hr.below (uh B1))).more (uh B1).size)
 have hsz1:w.heap.size < W1.heap.size:=(uh K1).lt
 have HW1:=jd hW1
 have HL:=jd hl
 have CB:Hid (∀ W,Below W1.heap.size W1 W→∀ (j:Nat) (b:UInt8),l[j]?=some b→W.cell? ⟨g,oo+j,none⟩=some (.int .u8 (b.toNat:Int))):=jd (fun W hW j b hj=>by
  rw [hW.cell (p:=⟨g,oo+j,none⟩) (by show g < _; omega),(uh B1).cell (p:=⟨g,oo+j,none⟩) hgl]
  exact hcell j b hj)
 have g0:l[0]?=some f:=by
  have:l.getD 0 0=l[0]'(by omega):=by simp [List.getD,List.getElem?_eq_getElem (show 0 < l.length by omega)]
  rw [this] at hf0
  rw [List.getElem?_eq_getElem (by omega),hf0]
 obtain ⟨kb,hkb⟩ :∃kb,l.getD 9 0=kb:=⟨_,rfl⟩
 have g9:l[9]?=some kb:=by
  have:l.getD 9 0=l[9]'(by omega):=by simp [List.getD,List.getElem?_eq_getElem (show 9 < l.length by omega)]
  rw [this] at hkb
  rw [List.getElem?_eq_getElem (by omega),hkb]
 have HKB:=jd hkb
 have c0:W1.cell? ⟨g,oo,none⟩=some (.int .u8 (f.toNat:Int)):=(uh CB) W1 (Below.refl _ _) 0 f g0
 have EGN':=jd (ZaO Tryz.func47 (by kernel_rfl) rfl)
 have EGC':=jd (ZaO Tryz.func105 (by kernel_rfl) rfl)
 have h9z:(9:Int) < (n:Int):=by omega
 have h0z:(0:Int) < (n:Int):=by omega
 have h18z:(18:Int)≤(n:Int):=by omega
 have h274z:(n:Int)≤274:=by omega
 have hb1:((n:Int) < 18)=False:=by simp; omega
 have hb2:((274:Int) < (n:Int))=False:=by simp; omega
 obtain ⟨m,hm⟩ :∃m,n - 8=m:=⟨_,rfl⟩
 have hmz:(n:Int) - 8=(m:Int):=by omega
 have hwm:IntKind.i64.wrap ((n:Int) - 8)=(m:Int):=by rw [hmz]; exact IntWalk.i64_in _ (by omega)
 have hwm2:IntKind.i64.wrap (m:Int)=(m:Int):=IntWalk.i64_in _ (by omega)
 have HSA:=jd (fun W=>sl_lh W (some ⟨g,oo,none⟩) n c 1 5 1 5 rfl rfl (by omega) (by omega))
 have HSB:=jd (fun W=>sl_lh W (some ⟨g,oo,none⟩) n c 5 9 5 9 rfl rfl (by omega) (by omega))
 have HSC:=jd (fun W=>sl_lh W (some ⟨g,oo,none⟩) n c 10 m 10 (m:Int) rfl rfl (by omega) (by omega))
 have HC9:Hid (∀ W,Below W1.heap.size W1 W→W.cell? ⟨g,oo+9,none⟩=some (.int .u8 (kb.toNat:Int))):=jd (fun W hW=>(uh CB) W hW 9 kb g9)
 have hkb8:=kb.toNat_lt
 have hkw:IntKind.i64.wrap (kb.toNat:Int)=(kb.toNat:Int):=IntWalk.i64_in _ (by omega)
 have HM:=jd hm
 have HNC:=jd hnc
 have HC:=jd hc
 have EKB:Hid ((Zay l).kb=kb):=jd hkb
 clear hW1 hr hf0 g0 g9 hkb hl hm hc hcell
 have HC9':=jd c0
 clear c0
 go_enter Tryz.func80,Tryz.ntmps80
 go_upto_region 1 with fail
 rw [uh HW1]
 have c0:=uh HC9'
 go_upto_region 3 with fail
 clear c0
 have hS0:Below W1.heap.size W1 W1.drew:=(Below.refl _ _).drew
 refine wp_region_noPanic (wp_region_held_drew (S:=fun wz=>Below W1.heap.size W1 wz) (by kernel_rfl) hS0 (fun _=>?_))
 refine tq 0 rfl hS0 ?_
 refine tJz (v:=.slice (subA (some ⟨g,oo,none⟩) 1 c) 4 (c - 1)) 1 rfl (Or.inl ⟨by rfl,fun wz hSw=>?_⟩) hS0 ?_
 ·have hq:=uh HSA wz
  go_simp
 refine tq 4 rfl hS0 ?_
 refine tJz (v:=.slice (subA (some ⟨g,oo,none⟩) 5 c) 4 (c - 5)) 5 rfl (Or.inl ⟨by rfl,fun wz hSw=>?_⟩) hS0 ?_
 ·have hq:=uh HSB wz
  go_simp
 refine tq 8 rfl hS0 ?_
 refine tq 9 rfl hS0 ?_
 refine tJz (v:=.int .u8 (kb.toNat:Int)) 10 rfl (Or.inl ⟨by rfl,fun wz hSw=>?_⟩) hS0 ?_
 ·have hq:=uh HC9 wz hSw
  go_simp
 refine tJz (v:=.int .i64 (kb.toNat:Int)) 11 rfl (Or.inl ⟨by rfl,fun wz hSw=>?_⟩) hS0 ?_
 ·skip
  go_simp
 refine tq 12 rfl hS0 ?_
 refine tq 13 rfl hS0 ?_
 refine tq 14 rfl hS0 ?_
 refine tJz (v:=.int .i64 (m:Int)) 15 rfl (Or.inl ⟨by rfl,fun wz hSw=>?_⟩) hS0 ?_
 ·skip
  go_simp
 refine tJz (v:=.slice (subA (some ⟨g,oo,none⟩) 10 c) (m - 10) (c - 10)) 16 rfl (Or.inl ⟨by rfl,fun wz hSw=>?_⟩) hS0 ?_
 ·have hq:=uh HSC wz
  go_simp
 refine ZbH (SplitR w.heap.size l) W1 [2,3,6,7,17,18,19] #[true,true,true,true,true,true,true,true,true,true,true,true,true,true,true,true,true,true,true,true,false] [(2,some 25),(3,some 26),(6,some 29),(7,some 30),(17,some 40),(18,some 41),(19,some 6)] 51 1 (by kernel_rfl) rfl SplitR.keep (fun _ h=>h) hS0 ⟨?_,?_,?_,?_,?_,?_,?_,trivial⟩ ?_ rfl
 ·intro a wa hBa hout hin
  have e0:a.eval (.tmp 24)=.slice (subA (some ⟨g,oo,none⟩) 1 c) 4 (c - 1):=hout 24 (by kernel_rfl)
  refine ZaI [.slice (subA (some ⟨g,oo,none⟩) 1 c) 4 (c - 1)] rfl rfl rfl rfl (uh EGN') ?_ ?_
  ·show [a.eval (.tmp 24)]=_
   rw [e0]
  ·have hr:=((uh D1).below hBa).part (i:=1) (j:=5) (c:=c) (by omega) (by omega) (uh HNC)
   exact (ZcE _ 4 (c - 1) ((l.drop 1).take 4) wa _ hr (by omega)).mono fun e w' ⟨he,hw⟩=>⟨_,he,by subst hw; exact Below.refl _ _,rfl⟩
 ·intro a wa hBa hout hin
  have e0:a.eval (.tmp 25)=.int .u64 (leW ((l.drop 1).take 4):Int):=hin 2 25 (by kernel_rfl)
  have hw:IntKind.u32.wrap (leW ((l.drop 1).take 4):Int)=(leW ((l.drop 1).take 4):Int):=IntWalk.u32_in _ (by have:=leW4 l 1; omega)
  refine ZaF rfl rfl (v:=.int .u32 (leW ((l.drop 1).take 4):Int)) (w':=wa) ?_ ⟨Below.refl _ _,rfl⟩
  generalize leW ((l.drop 1).take 4)=x at e0 hw ⊢
  unfold execOp
  simp only [e0]
  go_simp
 ·intro a wa hBa hout hin
  have e0:a.eval (.tmp 28)=.slice (subA (some ⟨g,oo,none⟩) 5 c) 4 (c - 5):=hout 28 (by kernel_rfl)
  refine ZaI [.slice (subA (some ⟨g,oo,none⟩) 5 c) 4 (c - 5)] rfl rfl rfl rfl (uh EGN') ?_ ?_
  ·show [a.eval (.tmp 28)]=_
   rw [e0]
  ·have hr:=((uh D1).below hBa).part (i:=5) (j:=9) (c:=c) (by omega) (by omega) (uh HNC)
   exact (ZcE _ 4 (c - 5) ((l.drop 5).take 4) wa _ hr (by omega)).mono fun e w' ⟨he,hw⟩=>⟨_,he,by subst hw; exact Below.refl _ _,rfl⟩
 ·intro a wa hBa hout hin
  have e0:a.eval (.tmp 29)=.int .u64 (leW ((l.drop 5).take 4):Int):=hin 6 29 (by kernel_rfl)
  have hw:IntKind.u32.wrap (leW ((l.drop 5).take 4):Int)=(leW ((l.drop 5).take 4):Int):=IntWalk.u32_in _ (by have:=leW4 l 5; omega)
  refine ZaF rfl rfl (v:=.int .u32 (leW ((l.drop 5).take 4):Int)) (w':=wa) ?_ ⟨Below.refl _ _,rfl⟩
  generalize leW ((l.drop 5).take 4)=x at e0 hw ⊢
  unfold execOp
  simp only [e0]
  go_simp
 ·intro a wa hBa hout hin
  have e0:a.eval (.tmp 39)=.slice (subA (some ⟨g,oo,none⟩) 10 c) (m - 10) (c - 10):=hout 39 (by kernel_rfl)
  refine ZaI [.slice (subA (some ⟨g,oo,none⟩) 10 c) (m - 10) (c - 10)] rfl rfl rfl rfl (uh EGC') ?_ ?_
  ·show [a.eval (.tmp 39)]=_
   rw [e0]
  ·have hr:=(((uh D1).below hBa).more hBa.size).part (i:=10) (j:=m) (c:=c) (by have:=uh HM; omega) (by have:=uh HM; omega) (uh HNC)
   refine (clone_b wa _ (m - 10) (c - 10) ((l.drop 10).take (m - 10)) hr (by have:=uh HM; omega)).mono fun e w' ⟨v,he,ho,hb⟩=>⟨v,he,hb,?_⟩
   have e1:m - 10=l.length - 18:=by have:=uh HM; have:=uh HL; omega
   rw [e1] at ho
   exact Zak ho (Nat.le_trans (uh B1).size hBa.size)
 ·intro a wa hBa hout hin
  have e3:a.eval (.tmp 26)=_:=hin 3 26 (by kernel_rfl)
  have e7:a.eval (.tmp 30)=_:=hin 7 30 (by kernel_rfl)
  have h17:Zdn w.heap.size wa (l.length - 18) (Zay l).data (a.eval (.tmp 40)):=hin 17 40 (by kernel_rfl)
  have e11:a.eval (.tmp 34)=.int .i64 (kb.toNat:Int):=hout 34 (by kernel_rfl)
  obtain ⟨A0,c0,e0,_,_⟩:=Zac h17
  rw [e0] at h17
  refine ZaF rfl rfl (v:=.agg #[.int .u32 ((Zay l).id:Int),.int .u32 ((Zay l).n:Int),.int .i64 ((Zay l).kb.toNat:Int),.slice A0 (l.length - 18) c0]) (w':=wa) ?_ ⟨Below.refl _ _,_,rfl,h17⟩
  rw [uh EKB]
  simp [execOp,e0,e3,e7,e11,bld_parts,Zay]
 ·intro a wa hBa hout hin
  refine ZaF rfl rfl (v:=.pointer (some ⟨wa.heap.size,0,none⟩)) (w':=wa.alloc (.cells #[.int .u32 0,.int .u32 0,.int .i64 0,.slice none 0 0] 123)) ?_ ⟨(Below.refl _ _).alloc (Nat.le_refl _) _,wa.heap.size,rfl,Blk.new _ _ _,Nat.lt_of_lt_of_le hsz1 hBa.size⟩
  simp [execOp,ZdR]
 intro vals ww hBw hRw
 simp only [puts,Act.put,zA,zB,zC]
 obtain ⟨d,e18,ho18⟩ :∃d,vals 18=.agg #[.int .u32 ((Zay l).id:Int),.int .u32 ((Zay l).n:Int),.int .i64 ((Zay l).kb.toNat:Int),d]∧Zdn w.heap.size ww (l.length - 18) (Zay l).data d:=hRw 18 (by rfl)
 obtain ⟨g6,e19,hb19,hg6⟩ :∃g,vals 19=.pointer (some ⟨g,0,none⟩)∧Blk ww g 123 #[.int .u32 0,.int .u32 0,.int .i64 0,.slice none 0 0]∧w.heap.size < g:=hRw 19 (by rfl)
 obtain ⟨A0,c0,e0,_,_⟩:=Zac ho18
 subst e0
 rw [e18,e19]
 clear e18 e19 hRw
 refine tOz 20 rfl fun K hK=>?_
 refine Zaf (by rfl) 123 (.tmp 6) (.tmp 41) rfl g6 123 _ #[.int .u32 ((Zay l).id:Int),.int .u32 ((Zay l).n:Int),.int .i64 ((Zay l).kb.toNat:Int),.slice A0 (l.length - 18) c0] rfl rfl hb19 rfl (by kernel_rfl) (by intro v hv; simp at hv; rcases hv with rfl | rfl | rfl | rfl<;>rfl) ?_
 intro w2 hb2 hg2
 have hx1:Below w.heap.size w ww:=(uh B1).trans (hBw.mono (uh B1).size)
 have hx2:Below w.heap.size w w2:=hx1.grown hg2 hx1.size (fun j e=>by injection e with e; omega)
 have ho2:Zdn w.heap.size w2 (l.length - 18) (Zay l).data (.slice A0 (l.length - 18) c0):=World.ownsRow.kept ho18 hg2 (.inr (Zad ho18 hb19 (by decide)))
 have hk2:=((uh K1).below hBw hsz1).grown hg2 (fun e=>by injection e with e; omega)
 have hgW:W1.heap.size≤g6:=by
  rcases Nat.lt_or_ge g6 W1.heap.size with h | h
  ·have:Blk W1 g6 123 #[.int .u32 0,.int .u32 0,.int .i64 0,.slice none 0 0]:=(hBw.block g6 h).symm.trans hb19
   exfalso
   have hw1:W1.heap.size=w.heap.size+1:=by rw [← uh HW1,Zae]
   omega
  · exact h
 have hS2:Below W1.heap.size W1 w2:=hBw.grown hg2 hBw.size (fun j e=>by injection e with e; omega)
 refine hK.out _ _ hS2 (fun _=>?_)
 clear hK K
 try simp only [Act.put]
 refine tDz ?_
 have X2:=jd hx2
 have O2:=jd ho2
 have K2:=jd hk2
 have Z2:=jd hb2
 clear hx2 ho2 hk2 hb2 hg2 hx1 ho18 hb19 hBw hS0 hgW hS2
 rw [uh EKB]
 have EKB':=EKB
 obtain ⟨id,hid⟩ :∃id,(Zay l).id=id:=⟨_,rfl⟩
 obtain ⟨nn,hnn⟩ :∃nn,(Zay l).n=nn:=⟨_,rfl⟩
 have zz:=uh Z2
 rw [uh EKB,hid,hnn] at zz
 have Z3:=jd zz
 have HID:=jd hid
 have HNN:=jd hnn
 rw [hid,hnn]
 clear zz Z2 hid hnn
 have d2:w2.cell? ⟨g6,2,none⟩=some (.int .i64 (kb.toNat:Int)):=(uh Z3).cell 2
 have D2:=jd (fun W (hW:Below w2.heap.size w2 W)=>((hW.cell (p:=⟨g6,2,none⟩) (uh Z3).lt).trans d2))
 clear d2
 go_upto_region 4 with fail
 have fin:Zb6 kb=(decide (kb.toNat=0) || decide (kb.toNat=1)):=by
  unfold Zb6
  have e:∀ x:UInt8,(kb==x)=decide (kb.toNat=x.toNat):=fun x=>by
   rw [Bool.eq_iff_iff]; simp [UInt8.toNat_inj]
  rw [e,e]
  rfl
 have FIN:=jd fin
 clear fin
 by_cases hk0:kb.toNat=0
 ·have hkz:((kb.toNat:Int)==0)=true:=by simp; omega
  have hgn:w.heap.size≠g6:=by omega
  have hS0:Blk w2.drew g6 123 #[.int .u32 (id:Int),.int .u32 (nn:Int),.int .i64 (kb.toNat:Int),.slice A0 (l.length - 18) c0]:=uh Z3
  refine wp_region_noPanic (wp_region_held_drew (S:=fun wz=>Blk wz g6 123 #[.int .u32 (id:Int),.int .u32 (nn:Int),.int .i64 (kb.toNat:Int),.slice A0 (l.length - 18) c0]) (by kernel_rfl) hS0 (fun _=>?_))
  refine tJz 0 rfl (Zar 123 (.tmp 6) (by rfl) rfl g6 rfl 123 #[.int .u32 (id:Int),.int .u32 (nn:Int),.int .i64 (kb.toNat:Int),.slice A0 (l.length - 18) c0] _ (fun _ h=>h) Tryz.underlying123 rfl (by kernel_rfl)) hS0 ?_
  refine tq 1 rfl hS0 ?_
  refine tJz (v:=.int .i64 (kb.toNat:Int)) 2 rfl (Or.inl ⟨by rfl,fun wz hSw=>?_⟩) hS0 ?_
  ·have hq:wz.cell? ⟨g6,2,none⟩=some (.int .i64 (kb.toNat:Int)):=hSw.cell 2
   go_simp
  refine tJz (v:=.bool true) 3 rfl (Or.inl ⟨by rfl,fun wz hSw=>?_⟩) hS0 ?_
  ·skip
   go_simp
  refine tq 4 rfl hS0 ?_
  refine tJz (v:=undef) 5 rfl (Or.inr ⟨by rfl,rfl⟩) hS0 ?_
  refine tJz (v:=undef) 6 rfl (Or.inr ⟨by rfl,rfl⟩) hS0 ?_
  refine tJz (v:=undef) 7 rfl (Or.inr ⟨by rfl,rfl⟩) hS0 ?_
  refine tJz (v:=.bool true) 8 rfl (Or.inl ⟨by rfl,fun wz hSw=>?_⟩) hS0 ?_
  ·skip
   go_simp
  refine tOz 9 rfl fun K hK=>?_
  have hk2:Blk w2.drew w.heap.size 123 #[.int .u32 0,.int .u32 0,.int .i64 0,.slice none 0 0]:=uh K2
  refine Zaf (by rfl) 123 (.tmp 4) (.tmp 42) rfl w.heap.size 123 _ #[.int .u32 (id:Int),.int .u32 (nn:Int),.int .i64 (kb.toNat:Int),.slice A0 (l.length - 18) c0] rfl rfl hk2 rfl (by kernel_rfl) (by intro v hv; simp at hv; rcases hv with rfl | rfl | rfl | rfl<;>rfl) ?_
  intro w5 hb5 hg5
  have hx5:Below w.heap.size w w5:=(uh X2).drew.grown hg5 (uh X2).size (fun j e=>by injection e with e; omega)
  have ho5:Zdn w.heap.size w5 (l.length - 18) (Zay l).data (.slice A0 (l.length - 18) c0):=World.ownsRow.kept (w:=w2.drew) (uh O2) hg5 (.inr (Zad (w:=w2.drew) (uh O2) hk2 (by decide)))
  have hz5:Blk w5 g6 123 #[.int .u32 (id:Int),.int .u32 (nn:Int),.int .i64 (kb.toNat:Int),.slice A0 (l.length - 18) c0]:=hS0.grown hg5 (fun e=>by injection e with e; omega)
  refine hK.out _ _ hz5 (fun _=>?_)
  clear hK K
  try simp only [Act.put]
  refine tq 10 rfl hz5 ?_
  refine tDz ?_
  have H5:=jd hb5
  have O5:=jd ho5
  have X5:=jd hx5
  clear hb5 ho5 hx5 hz5 hg5 hk2 hS0
  go_wp2_with fail
  refine bodyPost_ret (v:=.tuple #[.agg #[.int .u32 (id:Int),.int .u32 (nn:Int),.int .i64 (kb.toNat:Int),.slice A0 (l.length - 18) c0],.bool true]) (res2 rfl _ w.heap.size 123 #[.int .u32 (id:Int),.int .u32 (nn:Int),.int .i64 (kb.toNat:Int),.slice A0 (l.length - 18) c0] _ _ rfl rfl (uh H5) Tryz.underlying123 rfl (by kernel_rfl)) rfl ⟨.slice A0 (l.length - 18) c0,?_,uh O5,uh X5⟩
  rw [uh HID,uh HNN,uh EKB,uh FIN]
  simp [hk0]
 ·have hkz:((kb.toNat:Int)==0)=false:=by simp; omega
  have hgn:w.heap.size≠g6:=by omega
  have hS0:Blk w2.drew g6 123 #[.int .u32 (id:Int),.int .u32 (nn:Int),.int .i64 (kb.toNat:Int),.slice A0 (l.length - 18) c0]:=uh Z3
  refine wp_region_noPanic (wp_region_held_drew (S:=fun wz=>Blk wz g6 123 #[.int .u32 (id:Int),.int .u32 (nn:Int),.int .i64 (kb.toNat:Int),.slice A0 (l.length - 18) c0]) (by kernel_rfl) hS0 (fun _=>?_))
  refine tJz 0 rfl (Zar 123 (.tmp 6) (by rfl) rfl g6 rfl 123 #[.int .u32 (id:Int),.int .u32 (nn:Int),.int .i64 (kb.toNat:Int),.slice A0 (l.length - 18) c0] _ (fun _ h=>h) Tryz.underlying123 rfl (by kernel_rfl)) hS0 ?_
  refine tq 1 rfl hS0 ?_
  refine tJz (v:=.int .i64 (kb.toNat:Int)) 2 rfl (Or.inl ⟨by rfl,fun wz hSw=>?_⟩) hS0 ?_
  ·have hq:wz.cell? ⟨g6,2,none⟩=some (.int .i64 (kb.toNat:Int)):=hSw.cell 2
   go_simp
  refine tJz (v:=.bool false) 3 rfl (Or.inl ⟨by rfl,fun wz hSw=>?_⟩) hS0 ?_
  ·skip
   go_simp
  refine tq 4 rfl hS0 ?_
  refine tq 5 rfl hS0 ?_
  refine tJz (v:=.int .i64 (kb.toNat:Int)) 6 rfl (Or.inl ⟨by rfl,fun wz hSw=>?_⟩) hS0 ?_
  ·have hq:wz.cell? ⟨g6,2,none⟩=some (.int .i64 (kb.toNat:Int)):=hSw.cell 2
   go_simp
  refine tJz (v:=.bool ((kb.toNat:Int)==1)) 7 rfl (Or.inl ⟨by rfl,fun wz hSw=>?_⟩) hS0 ?_
  ·skip
   go_simp
  refine tJz (v:=.bool ((kb.toNat:Int)==1)) 8 rfl (Or.inl ⟨by rfl,fun wz hSw=>?_⟩) hS0 ?_
  ·skip
   go_simp
  refine tOz 9 rfl fun K hK=>?_
  have hk2:Blk w2.drew w.heap.size 123 #[.int .u32 0,.int .u32 0,.int .i64 0,.slice none 0 0]:=uh K2
  refine Zaf (by rfl) 123 (.tmp 4) (.tmp 42) rfl w.heap.size 123 _ #[.int .u32 (id:Int),.int .u32 (nn:Int),.int .i64 (kb.toNat:Int),.slice A0 (l.length - 18) c0] rfl rfl hk2 rfl (by kernel_rfl) (by intro v hv; simp at hv; rcases hv with rfl | rfl | rfl | rfl<;>rfl) ?_
  intro w5 hb5 hg5
  have hx5:Below w.heap.size w w5:=(uh X2).drew.grown hg5 (uh X2).size (fun j e=>by injection e with e; omega)
  have ho5:Zdn w.heap.size w5 (l.length - 18) (Zay l).data (.slice A0 (l.length - 18) c0):=World.ownsRow.kept (w:=w2.drew) (uh O2) hg5 (.inr (Zad (w:=w2.drew) (uh O2) hk2 (by decide)))
  have hz5:Blk w5 g6 123 #[.int .u32 (id:Int),.int .u32 (nn:Int),.int .i64 (kb.toNat:Int),.slice A0 (l.length - 18) c0]:=hS0.grown hg5 (fun e=>by injection e with e; omega)
  refine hK.out _ _ hz5 (fun _=>?_)
  clear hK K
  try simp only [Act.put]
  refine tq 10 rfl hz5 ?_
  refine tDz ?_
  have H5:=jd hb5
  have O5:=jd ho5
  have X5:=jd hx5
  clear hb5 ho5 hx5 hz5 hg5 hk2 hS0
  go_wp2_with fail
  refine bodyPost_ret (v:=.tuple #[.agg #[.int .u32 (id:Int),.int .u32 (nn:Int),.int .i64 (kb.toNat:Int),.slice A0 (l.length - 18) c0],.bool ((kb.toNat:Int)==1)]) (res2 rfl _ w.heap.size 123 #[.int .u32 (id:Int),.int .u32 (nn:Int),.int .i64 (kb.toNat:Int),.slice A0 (l.length - 18) c0] _ _ rfl rfl (uh H5) Tryz.underlying123 rfl (by kernel_rfl)) rfl ⟨.slice A0 (l.length - 18) c0,?_,uh O5,uh X5⟩
  rw [uh HID,uh HNN,uh EKB,uh FIN]
  have e1:((kb.toNat:Int)==1)=decide (kb.toNat=1):=by
   rw [Bool.eq_iff_iff]; simp; omega
  simp [hk0,e1]
end Go.Proofs.YtfbkkmnkpjgciaaGreat
