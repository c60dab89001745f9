/- Joined of SSip. No condition. -/
import Derived.Test.YtfbkkmnkpjgciaaGreatPG02
import Derived.StillTailTactics
import Derived.BigRegion
import Derived.BigQuiet
import Derived.Deep.CutRange
import Derived.Deep.DeepCutAuto
namespace Go.Proofs.YtfbkkmnkpjgciaaGreat
open Go.RowKit
structure Sip where
 a:Int
 b:Int
 c:Int
 d:Int
def Sip.cells (s:Sip):Array Value:=#[.int .u64 s.a,.int .u64 s.b,.int .u64 s.c,.int .u64 s.d]
abbrev add64 (x y:Int):Int:=IntKind.u64.wrap (x+y)
abbrev xor64 (x y:Int):Int:=bits .xor .u64 x y
def Sip.step (s:Sip):Sip :=
 let a1:=add64 s.a s.b
 let b1:=xor64 (rotl s.b 13) a1
 let a2:=rotl a1 32
 let c1:=add64 s.c s.d
 let d1:=xor64 (rotl s.d 16) c1
 let a3:=add64 a2 d1
 let d2:=xor64 (rotl d1 21) a3
 let c2:=add64 c1 b1
 let b2:=xor64 (rotl b1 17) c2
 ⟨a3,b2,rotl c2 32,d2⟩
def Sip.run:Nat→Sip→Sip
 | 0,s=>s
 | n+1,s=>(Sip.run n s).step
set_option maxRecDepth 100000 in
set_option maxHeartbeats 1000000 in
theorem rounds_any (g:Nat) (n:Nat) (s:Sip) (w:World) (hn:n≤8) (hs:Blk w g 148 s.cells) :
  Calls Tryz.prog 111 #[.pointer (some ⟨g,0,none⟩),.int .i64 n] w
   fun e w'=>e=.returned (.tuple #[])∧Blk w' g 148 (Sip.run n s).cells∧w.grownBy w' (some g):=by
 go_enter Tryz.func111,Tryz.ntmps111
 go_wp2
 go_loopw [5] (fun i wr=>∃ k:Nat,k≤n∧i=.int .i64 k∧Blk wr g 148 (Sip.run k s).cells∧w.grownBy wr (some g)) (fun i _=>n - (intOf i).toNat)
 case atStart=>exact ⟨0,Nat.zero_le _,rfl,hs,World.grownBy.refl w _⟩
 case round =>
  obtain ⟨k,hk,rfl,hb,hg⟩:=hrel
  by_cases hlt:k < n
  ·generalize hT:Sip.run k s=T at hb
   have HT:=Lib.hid hT
   clear hT
   obtain ⟨a,b,c,d⟩:=T
   simp only [Sip.cells] at hb
   go_upto_region 2 with fail
   go_cut [] from 6 to 119 (fun wx=>Blk wx g 148 #[.int .u64 (add64 a b),.int .u64 b,.int .u64 c,.int .u64 d]∧w.grownBy wx (some g))
   case first =>
    have c0:=hb.cell 0
    have c1:=hb.cell 1
    have c2:=hb.cell 2
    have c3:=hb.cell 3
    simp only [List.getElem?_toArray,List.getElem?_cons_zero,List.getElem?_cons_succ] at c0 c1 c2 c3
    have f0:=hb.frozen 0
    have f1:=hb.frozen 1
    have f2:=hb.frozen 2
    have f3:=hb.frozen 3
    go_region
    go_wp2_with fail
    go_meet
    case rel=>exact ⟨(hb.set_ 0 _).drew,ZbW (ZaC (p:=⟨g,0,none⟩) hg (.inl rfl) _)⟩
   clear hb hg
   obtain ⟨hb,hg⟩:=hcut
   obtain ⟨a1,Ha1⟩ :∃x,Hid (x=add64 a b):=⟨_,Lib.hid rfl⟩
   rw [← Ha1.out] at hb
   go_upto_region 3 with fail
   go_cut [] from 6 to 119 (fun wx=>Blk wx g 148 #[.int .u64 a1,.int .u64 (xor64 (rotl b 13) a1),.int .u64 c,.int .u64 d]∧w.grownBy wx (some g))
   case first =>
    have c0:=hb.cell 0
    have c1:=hb.cell 1
    have c2:=hb.cell 2
    have c3:=hb.cell 3
    simp only [List.getElem?_toArray,List.getElem?_cons_zero,List.getElem?_cons_succ] at c0 c1 c2 c3
    have f0:=hb.frozen 0
    have f1:=hb.frozen 1
    have f2:=hb.frozen 2
    have f3:=hb.frozen 3
    refine Zbg 13 (by kernel_rfl) (by kernel_rfl) ?_
    simp only [List.take_succ_cons,List.take_zero,List.drop_succ_cons,List.drop_zero]
    repeat still_step
    still_call (ZcN (ZeA _ _ _ (by omega)))
    repeat still_step
    refine wpStill_nil ?_
    go_wp2_with fail
    go_meet
    case rel=>exact ⟨(hb.set_ 1 _).drew,ZbW (ZaC (p:=⟨g,1,none⟩) hg (.inl rfl) _)⟩
   clear hb hg
   obtain ⟨hb,hg⟩:=hcut
   obtain ⟨b1,Hb1⟩ :∃x,Hid (x=xor64 (rotl b 13) a1):=⟨_,Lib.hid rfl⟩
   rw [← Hb1.out] at hb
   go_upto_region 4 with fail
   go_cut [] from 6 to 119 (fun wx=>Blk wx g 148 #[.int .u64 (rotl a1 32),.int .u64 b1,.int .u64 c,.int .u64 d]∧w.grownBy wx (some g))
   case first =>
    have c0:=hb.cell 0
    have c1:=hb.cell 1
    have c2:=hb.cell 2
    have c3:=hb.cell 3
    simp only [List.getElem?_toArray,List.getElem?_cons_zero,List.getElem?_cons_succ] at c0 c1 c2 c3
    have f0:=hb.frozen 0
    have f1:=hb.frozen 1
    have f2:=hb.frozen 2
    have f3:=hb.frozen 3
    go_wp2_with (go_at_call 114; refine (ZeA _ _ _ (by omega)).mono ?_; rintro e w1 ⟨rfl,rfl⟩)
    go_meet
    case rel=>exact ⟨(hb.set_ 0 _),(ZaC (p:=⟨g,0,none⟩) hg (.inl rfl) _)⟩
   clear hb hg
   obtain ⟨hb,hg⟩:=hcut
   obtain ⟨a2,Ha2⟩ :∃x,Hid (x=rotl a1 32):=⟨_,Lib.hid rfl⟩
   rw [← Ha2.out] at hb
   go_upto_region 5 with fail
   go_cut [] from 6 to 119 (fun wx=>Blk wx g 148 #[.int .u64 a2,.int .u64 b1,.int .u64 (add64 c d),.int .u64 d]∧w.grownBy wx (some g))
   case first =>
    have c0:=hb.cell 0
    have c1:=hb.cell 1
    have c2:=hb.cell 2
    have c3:=hb.cell 3
    simp only [List.getElem?_toArray,List.getElem?_cons_zero,List.getElem?_cons_succ] at c0 c1 c2 c3
    have f0:=hb.frozen 0
    have f1:=hb.frozen 1
    have f2:=hb.frozen 2
    have f3:=hb.frozen 3
    go_region
    go_wp2_with fail
    go_meet
    case rel=>exact ⟨(hb.set_ 2 _).drew,ZbW (ZaC (p:=⟨g,2,none⟩) hg (.inl rfl) _)⟩
   clear hb hg
   obtain ⟨hb,hg⟩:=hcut
   obtain ⟨c1,Hc1⟩ :∃x,Hid (x=add64 c d):=⟨_,Lib.hid rfl⟩
   rw [← Hc1.out] at hb
   go_upto_region 6 with fail
   go_cut [] from 6 to 119 (fun wx=>Blk wx g 148 #[.int .u64 a2,.int .u64 b1,.int .u64 c1,.int .u64 (xor64 (rotl d 16) c1)]∧w.grownBy wx (some g))
   case first =>
    have c0:=hb.cell 0
    have c1:=hb.cell 1
    have c2:=hb.cell 2
    have c3:=hb.cell 3
    simp only [List.getElem?_toArray,List.getElem?_cons_zero,List.getElem?_cons_succ] at c0 c1 c2 c3
    have f0:=hb.frozen 0
    have f1:=hb.frozen 1
    have f2:=hb.frozen 2
    have f3:=hb.frozen 3
    refine Zbg 13 (by kernel_rfl) (by kernel_rfl) ?_
    simp only [List.take_succ_cons,List.take_zero,List.drop_succ_cons,List.drop_zero]
    repeat still_step
    still_call (ZcN (ZeA _ _ _ (by omega)))
    repeat still_step
    refine wpStill_nil ?_
    go_wp2_with fail
    go_meet
    case rel=>exact ⟨(hb.set_ 3 _).drew,ZbW (ZaC (p:=⟨g,3,none⟩) hg (.inl rfl) _)⟩
   clear hb hg
   obtain ⟨hb,hg⟩:=hcut
   obtain ⟨d1,Hd1⟩ :∃x,Hid (x=xor64 (rotl d 16) c1):=⟨_,Lib.hid rfl⟩
   rw [← Hd1.out] at hb
   go_upto_region 7 with fail
   go_cut [] from 6 to 119 (fun wx=>Blk wx g 148 #[.int .u64 (add64 a2 d1),.int .u64 b1,.int .u64 c1,.int .u64 d1]∧w.grownBy wx (some g))
   case first =>
    have c0:=hb.cell 0
    have c1:=hb.cell 1
    have c2:=hb.cell 2
    have c3:=hb.cell 3
    simp only [List.getElem?_toArray,List.getElem?_cons_zero,List.getElem?_cons_succ] at c0 c1 c2 c3
    have f0:=hb.frozen 0
    have f1:=hb.frozen 1
    have f2:=hb.frozen 2
    have f3:=hb.frozen 3
    go_region
    go_wp2_with fail
    go_meet
    case rel=>exact ⟨(hb.set_ 0 _).drew,ZbW (ZaC (p:=⟨g,0,none⟩) hg (.inl rfl) _)⟩
   clear hb hg
   obtain ⟨hb,hg⟩:=hcut
   obtain ⟨a3,Ha3⟩ :∃x,Hid (x=add64 a2 d1):=⟨_,Lib.hid rfl⟩
   rw [← Ha3.out] at hb
   go_upto_region 8 with fail
   go_cut [] from 6 to 119 (fun wx=>Blk wx g 148 #[.int .u64 a3,.int .u64 b1,.int .u64 c1,.int .u64 (xor64 (rotl d1 21) a3)]∧w.grownBy wx (some g))
   case first =>
    have c0:=hb.cell 0
    have c1:=hb.cell 1
    have c2:=hb.cell 2
    have c3:=hb.cell 3
    simp only [List.getElem?_toArray,List.getElem?_cons_zero,List.getElem?_cons_succ] at c0 c1 c2 c3
    have f0:=hb.frozen 0
    have f1:=hb.frozen 1
    have f2:=hb.frozen 2
    have f3:=hb.frozen 3
    refine Zbg 13 (by kernel_rfl) (by kernel_rfl) ?_
    simp only [List.take_succ_cons,List.take_zero,List.drop_succ_cons,List.drop_zero]
    repeat still_step
    still_call (ZcN (ZeA _ _ _ (by omega)))
    repeat still_step
    refine wpStill_nil ?_
    go_wp2_with fail
    go_meet
    case rel=>exact ⟨(hb.set_ 3 _).drew,ZbW (ZaC (p:=⟨g,3,none⟩) hg (.inl rfl) _)⟩
   clear hb hg
   obtain ⟨hb,hg⟩:=hcut
   obtain ⟨d2,Hd2⟩ :∃x,Hid (x=xor64 (rotl d1 21) a3):=⟨_,Lib.hid rfl⟩
   rw [← Hd2.out] at hb
   go_upto_region 9 with fail
   go_cut [] from 6 to 119 (fun wx=>Blk wx g 148 #[.int .u64 a3,.int .u64 b1,.int .u64 (add64 c1 b1),.int .u64 d2]∧w.grownBy wx (some g))
   case first =>
    have c0:=hb.cell 0
    have c1:=hb.cell 1
    have c2:=hb.cell 2
    have c3:=hb.cell 3
    simp only [List.getElem?_toArray,List.getElem?_cons_zero,List.getElem?_cons_succ] at c0 c1 c2 c3
    have f0:=hb.frozen 0
    have f1:=hb.frozen 1
    have f2:=hb.frozen 2
    have f3:=hb.frozen 3
    go_region
    go_wp2_with fail
    go_meet
    case rel=>exact ⟨(hb.set_ 2 _).drew,ZbW (ZaC (p:=⟨g,2,none⟩) hg (.inl rfl) _)⟩
   clear hb hg
   obtain ⟨hb,hg⟩:=hcut
   obtain ⟨c2,Hc2⟩ :∃x,Hid (x=add64 c1 b1):=⟨_,Lib.hid rfl⟩
   rw [← Hc2.out] at hb
   go_upto_region 10 with fail
   go_cut [] from 6 to 119 (fun wx=>Blk wx g 148 #[.int .u64 a3,.int .u64 (xor64 (rotl b1 17) c2),.int .u64 c2,.int .u64 d2]∧w.grownBy wx (some g))
   case first =>
    have c0:=hb.cell 0
    have c1:=hb.cell 1
    have c2:=hb.cell 2
    have c3:=hb.cell 3
    simp only [List.getElem?_toArray,List.getElem?_cons_zero,List.getElem?_cons_succ] at c0 c1 c2 c3
    have f0:=hb.frozen 0
    have f1:=hb.frozen 1
    have f2:=hb.frozen 2
    have f3:=hb.frozen 3
    refine Zbg 13 (by kernel_rfl) (by kernel_rfl) ?_
    simp only [List.take_succ_cons,List.take_zero,List.drop_succ_cons,List.drop_zero]
    repeat still_step
    still_call (ZcN (ZeA _ _ _ (by omega)))
    repeat still_step
    refine wpStill_nil ?_
    go_wp2_with fail
    go_meet
    case rel=>exact ⟨(hb.set_ 1 _).drew,ZbW (ZaC (p:=⟨g,1,none⟩) hg (.inl rfl) _)⟩
   clear hb hg
   obtain ⟨hb,hg⟩:=hcut
   obtain ⟨b2,Hb2⟩ :∃x,Hid (x=xor64 (rotl b1 17) c2):=⟨_,Lib.hid rfl⟩
   rw [← Hb2.out] at hb
   have c0:=hb.cell 0
   have c1:=hb.cell 1
   have c2:=hb.cell 2
   have c3:=hb.cell 3
   simp only [List.getElem?_toArray,List.getElem?_cons_zero,List.getElem?_cons_succ] at c0 c1 c2 c3
   have f0:=hb.frozen 0
   have f1:=hb.frozen 1
   have f2:=hb.frozen 2
   have f3:=hb.frozen 3
   go_wp2_with (go_at_call 114; refine (ZeA _ _ _ (by omega)).mono ?_; rintro e w1 ⟨rfl,rfl⟩)
   go_roundw
   case rel=>exact ⟨k+1,by omega,by go_num,by rw [Sip.run,HT.out]; cases Ha1.out; cases Hb1.out; cases Ha2.out; cases Hc1.out; cases Hd1.out; cases Ha3.out; cases Hd2.out; cases Hc2.out; cases Hb2.out; exact hb.set_ 2 _,ZaC (p:=⟨g,2,none⟩) hg (.inl rfl) _⟩
   case measure=>simp [intOf]; omega
  ·go_wp2_with fail
   go_end0
   obtain rfl:n=k:=by omega
   exact ⟨rfl,hb,hg⟩
end Go.Proofs.YtfbkkmnkpjgciaaGreat
