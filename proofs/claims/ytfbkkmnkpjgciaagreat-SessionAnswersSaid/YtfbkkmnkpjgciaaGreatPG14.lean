/- Joined of GSip. No condition. -/
import Derived.Test.YtfbkkmnkpjgciaaGreatPG13
import Derived.Test.YtfbkkmnkpjgciaaGreatPG03
namespace Go.Proofs.YtfbkkmnkpjgciaaGreat
open Go.RowKit
set_option maxRecDepth 100000 in
set_option maxHeartbeats 1000000 in
theorem ZdO (n:Nat) (s:Sip) (w:World) (hn:n≤8) :
  Calls Tryz.prog 113 #[.agg s.cells,.int .i64 n] w
   fun e w'=>e=.returned (.agg (Sip.run n s).cells)∧Below w.heap.size w w':=by
 go_enter Tryz.func113,Tryz.ntmps113
 go_wp2
 go_loopw [1] (fun i wr=>∃ m:Nat,m≤n∧i=.int .i64 m∧Blk wr w.heap.size 152 (Sip.run (n - m) s).cells∧Blk wr (w.heap.size+1) 152 #[.int .u64 0,.int .u64 0,.int .u64 0,.int .u64 0]∧Below w.heap.size w wr) (fun i _=>(intOf i).toNat)
 case atStart=>exact ⟨n,Nat.le_refl _,rfl,by rw [Nat.sub_self]; exact (Blk.new _ _ _).alloc _,by have:=Blk.new (w.alloc (.cells s.cells 152)) 152 #[.int .u64 0,.int .u64 0,.int .u64 0,.int .u64 0]; simpa using this,((Below.refl _ _).alloc (Nat.le_refl _) _).alloc (by simp) _⟩
 case round =>
  obtain ⟨m,hm,rfl,hb,hz,hg⟩:=hrel
  by_cases hlt:0 < m
  ·generalize hT:Sip.run (n - m) s=T at hb
   have HT:=Lib.hid hT
   clear hT
   obtain ⟨a,b,c,d⟩:=T
   simp only [Sip.cells] at hb
   go_upto_region 3 with fail
   go_cut [] from 5 to 68 (fun wx=>Blk wx w.heap.size 152 #[.int .u64 (add64 a b),.int .u64 b,.int .u64 c,.int .u64 d]∧Blk wx (w.heap.size+1) 152 #[.int .u64 0,.int .u64 0,.int .u64 0,.int .u64 0]∧Below w.heap.size w wx)
   case first =>
    have c0:=hb.cell 0
    have c1:=hb.cell 1
    have c2:=hb.cell 2
    have c3:=hb.cell 3
    simp only [List.getElem?_toArray,List.getElem?_cons_zero,List.getElem?_cons_succ] at c0 c1 c2 c3
    have f0:=hb.frozen 0
    have f1:=hb.frozen 1
    have f2:=hb.frozen 2
    have f3:=hb.frozen 3
    go_wp2_with (go_at_call 115; refine (Zcg _ _ _ (by omega)).mono ?_; rintro e w1 ⟨rfl,rfl⟩)
    go_meet
    case rel=>exact ⟨((hb.set_ 0 _)),(((hz.far (p:=⟨w.heap.size,0,none⟩) (by simp) _))),(((hg.setCell (p:=⟨w.heap.size,0,none⟩) (Nat.le_refl _) _)))⟩
   clear hb hz hg
   obtain ⟨hb,hz,hg⟩:=hcut
   obtain ⟨a1,Ha1⟩ :∃x,Hid (x=add64 a b):=⟨_,Lib.hid rfl⟩
   rw [← Ha1.out] at hb
   go_upto_region 4 with fail
   go_cut [] from 5 to 68 (fun wx=>Blk wx w.heap.size 152 #[.int .u64 a1,.int .u64 (xor64 (rotl b 13) a1),.int .u64 c,.int .u64 d]∧Blk wx (w.heap.size+1) 152 #[.int .u64 0,.int .u64 0,.int .u64 0,.int .u64 0]∧Below w.heap.size w wx)
   case first =>
    have c0:=hb.cell 0
    have c1:=hb.cell 1
    have c2:=hb.cell 2
    have c3:=hb.cell 3
    simp only [List.getElem?_toArray,List.getElem?_cons_zero,List.getElem?_cons_succ] at c0 c1 c2 c3
    have f0:=hb.frozen 0
    have f1:=hb.frozen 1
    have f2:=hb.frozen 2
    have f3:=hb.frozen 3
    refine Zbg 7 (by kernel_rfl) (by kernel_rfl) ?_
    simp only [List.take_succ_cons,List.take_zero,List.drop_succ_cons,List.drop_zero]
    repeat still_step
    still_call (ZcN (Zcg _ _ _ (by omega)))
    repeat still_step
    refine wpStill_nil ?_
    go_wp2_with fail
    go_meet
    case rel=>exact ⟨((hb.set_ 1 _).drew),(((hz.far (p:=⟨w.heap.size,1,none⟩) (by simp) _)).drew),(((hg.setCell (p:=⟨w.heap.size,1,none⟩) (Nat.le_refl _) _)).drew)⟩
   clear hb hz hg
   obtain ⟨hb,hz,hg⟩:=hcut
   obtain ⟨b1,Hb1⟩ :∃x,Hid (x=xor64 (rotl b 13) a1):=⟨_,Lib.hid rfl⟩
   rw [← Hb1.out] at hb
   go_upto_region 5 with fail
   go_cut [] from 5 to 68 (fun wx=>Blk wx w.heap.size 152 #[.int .u64 (rotl a1 32),.int .u64 b1,.int .u64 c,.int .u64 d]∧Blk wx (w.heap.size+1) 152 #[.int .u64 0,.int .u64 0,.int .u64 0,.int .u64 0]∧Below w.heap.size w wx)
   case first =>
    have c0:=hb.cell 0
    have c1:=hb.cell 1
    have c2:=hb.cell 2
    have c3:=hb.cell 3
    simp only [List.getElem?_toArray,List.getElem?_cons_zero,List.getElem?_cons_succ] at c0 c1 c2 c3
    have f0:=hb.frozen 0
    have f1:=hb.frozen 1
    have f2:=hb.frozen 2
    have f3:=hb.frozen 3
    go_wp2_with (go_at_call 115; refine (Zcg _ _ _ (by omega)).mono ?_; rintro e w1 ⟨rfl,rfl⟩)
    go_meet
    case rel=>exact ⟨((hb.set_ 0 _)),(((hz.far (p:=⟨w.heap.size,0,none⟩) (by simp) _))),(((hg.setCell (p:=⟨w.heap.size,0,none⟩) (Nat.le_refl _) _)))⟩
   clear hb hz hg
   obtain ⟨hb,hz,hg⟩:=hcut
   obtain ⟨a2,Ha2⟩ :∃x,Hid (x=rotl a1 32):=⟨_,Lib.hid rfl⟩
   rw [← Ha2.out] at hb
   go_upto_region 6 with fail
   go_cut [] from 5 to 68 (fun wx=>Blk wx w.heap.size 152 #[.int .u64 a2,.int .u64 b1,.int .u64 (add64 c d),.int .u64 d]∧Blk wx (w.heap.size+1) 152 #[.int .u64 0,.int .u64 0,.int .u64 0,.int .u64 0]∧Below w.heap.size w wx)
   case first =>
    have c0:=hb.cell 0
    have c1:=hb.cell 1
    have c2:=hb.cell 2
    have c3:=hb.cell 3
    simp only [List.getElem?_toArray,List.getElem?_cons_zero,List.getElem?_cons_succ] at c0 c1 c2 c3
    have f0:=hb.frozen 0
    have f1:=hb.frozen 1
    have f2:=hb.frozen 2
    have f3:=hb.frozen 3
    go_wp2_with (go_at_call 115; refine (Zcg _ _ _ (by omega)).mono ?_; rintro e w1 ⟨rfl,rfl⟩)
    go_meet
    case rel=>exact ⟨((hb.set_ 2 _)),(((hz.far (p:=⟨w.heap.size,2,none⟩) (by simp) _))),(((hg.setCell (p:=⟨w.heap.size,2,none⟩) (Nat.le_refl _) _)))⟩
   clear hb hz hg
   obtain ⟨hb,hz,hg⟩:=hcut
   obtain ⟨c1,Hc1⟩ :∃x,Hid (x=add64 c d):=⟨_,Lib.hid rfl⟩
   rw [← Hc1.out] at hb
   go_upto_region 7 with fail
   go_cut [] from 5 to 68 (fun wx=>Blk wx w.heap.size 152 #[.int .u64 a2,.int .u64 b1,.int .u64 c1,.int .u64 (xor64 (rotl d 16) c1)]∧Blk wx (w.heap.size+1) 152 #[.int .u64 0,.int .u64 0,.int .u64 0,.int .u64 0]∧Below w.heap.size w wx)
   case first =>
    have c0:=hb.cell 0
    have c1:=hb.cell 1
    have c2:=hb.cell 2
    have c3:=hb.cell 3
    simp only [List.getElem?_toArray,List.getElem?_cons_zero,List.getElem?_cons_succ] at c0 c1 c2 c3
    have f0:=hb.frozen 0
    have f1:=hb.frozen 1
    have f2:=hb.frozen 2
    have f3:=hb.frozen 3
    refine Zbg 7 (by kernel_rfl) (by kernel_rfl) ?_
    simp only [List.take_succ_cons,List.take_zero,List.drop_succ_cons,List.drop_zero]
    repeat still_step
    still_call (ZcN (Zcg _ _ _ (by omega)))
    repeat still_step
    refine wpStill_nil ?_
    go_wp2_with fail
    go_meet
    case rel=>exact ⟨((hb.set_ 3 _).drew),(((hz.far (p:=⟨w.heap.size,3,none⟩) (by simp) _)).drew),(((hg.setCell (p:=⟨w.heap.size,3,none⟩) (Nat.le_refl _) _)).drew)⟩
   clear hb hz hg
   obtain ⟨hb,hz,hg⟩:=hcut
   obtain ⟨d1,Hd1⟩ :∃x,Hid (x=xor64 (rotl d 16) c1):=⟨_,Lib.hid rfl⟩
   rw [← Hd1.out] at hb
   go_upto_region 8 with fail
   go_cut [] from 5 to 68 (fun wx=>Blk wx w.heap.size 152 #[.int .u64 (add64 a2 d1),.int .u64 b1,.int .u64 c1,.int .u64 d1]∧Blk wx (w.heap.size+1) 152 #[.int .u64 0,.int .u64 0,.int .u64 0,.int .u64 0]∧Below w.heap.size w wx)
   case first =>
    have c0:=hb.cell 0
    have c1:=hb.cell 1
    have c2:=hb.cell 2
    have c3:=hb.cell 3
    simp only [List.getElem?_toArray,List.getElem?_cons_zero,List.getElem?_cons_succ] at c0 c1 c2 c3
    have f0:=hb.frozen 0
    have f1:=hb.frozen 1
    have f2:=hb.frozen 2
    have f3:=hb.frozen 3
    go_wp2_with (go_at_call 115; refine (Zcg _ _ _ (by omega)).mono ?_; rintro e w1 ⟨rfl,rfl⟩)
    go_meet
    case rel=>exact ⟨((hb.set_ 0 _)),(((hz.far (p:=⟨w.heap.size,0,none⟩) (by simp) _))),(((hg.setCell (p:=⟨w.heap.size,0,none⟩) (Nat.le_refl _) _)))⟩
   clear hb hz hg
   obtain ⟨hb,hz,hg⟩:=hcut
   obtain ⟨a3,Ha3⟩ :∃x,Hid (x=add64 a2 d1):=⟨_,Lib.hid rfl⟩
   rw [← Ha3.out] at hb
   go_upto_region 9 with fail
   go_cut [] from 5 to 68 (fun wx=>Blk wx w.heap.size 152 #[.int .u64 a3,.int .u64 b1,.int .u64 c1,.int .u64 (xor64 (rotl d1 21) a3)]∧Blk wx (w.heap.size+1) 152 #[.int .u64 0,.int .u64 0,.int .u64 0,.int .u64 0]∧Below w.heap.size w wx)
   case first =>
    have c0:=hb.cell 0
    have c1:=hb.cell 1
    have c2:=hb.cell 2
    have c3:=hb.cell 3
    simp only [List.getElem?_toArray,List.getElem?_cons_zero,List.getElem?_cons_succ] at c0 c1 c2 c3
    have f0:=hb.frozen 0
    have f1:=hb.frozen 1
    have f2:=hb.frozen 2
    have f3:=hb.frozen 3
    refine Zbg 7 (by kernel_rfl) (by kernel_rfl) ?_
    simp only [List.take_succ_cons,List.take_zero,List.drop_succ_cons,List.drop_zero]
    repeat still_step
    still_call (ZcN (Zcg _ _ _ (by omega)))
    repeat still_step
    refine wpStill_nil ?_
    go_wp2_with fail
    go_meet
    case rel=>exact ⟨((hb.set_ 3 _).drew),(((hz.far (p:=⟨w.heap.size,3,none⟩) (by simp) _)).drew),(((hg.setCell (p:=⟨w.heap.size,3,none⟩) (Nat.le_refl _) _)).drew)⟩
   clear hb hz hg
   obtain ⟨hb,hz,hg⟩:=hcut
   obtain ⟨d2,Hd2⟩ :∃x,Hid (x=xor64 (rotl d1 21) a3):=⟨_,Lib.hid rfl⟩
   rw [← Hd2.out] at hb
   go_upto_region 10 with fail
   go_cut [] from 5 to 68 (fun wx=>Blk wx w.heap.size 152 #[.int .u64 a3,.int .u64 b1,.int .u64 (add64 c1 b1),.int .u64 d2]∧Blk wx (w.heap.size+1) 152 #[.int .u64 0,.int .u64 0,.int .u64 0,.int .u64 0]∧Below w.heap.size w wx)
   case first =>
    have c0:=hb.cell 0
    have c1:=hb.cell 1
    have c2:=hb.cell 2
    have c3:=hb.cell 3
    simp only [List.getElem?_toArray,List.getElem?_cons_zero,List.getElem?_cons_succ] at c0 c1 c2 c3
    have f0:=hb.frozen 0
    have f1:=hb.frozen 1
    have f2:=hb.frozen 2
    have f3:=hb.frozen 3
    go_wp2_with (go_at_call 115; refine (Zcg _ _ _ (by omega)).mono ?_; rintro e w1 ⟨rfl,rfl⟩)
    go_meet
    case rel=>exact ⟨((hb.set_ 2 _)),(((hz.far (p:=⟨w.heap.size,2,none⟩) (by simp) _))),(((hg.setCell (p:=⟨w.heap.size,2,none⟩) (Nat.le_refl _) _)))⟩
   clear hb hz hg
   obtain ⟨hb,hz,hg⟩:=hcut
   obtain ⟨c2,Hc2⟩ :∃x,Hid (x=add64 c1 b1):=⟨_,Lib.hid rfl⟩
   rw [← Hc2.out] at hb
   go_upto_region 11 with fail
   go_cut [] from 5 to 68 (fun wx=>Blk wx w.heap.size 152 #[.int .u64 a3,.int .u64 (xor64 (rotl b1 17) c2),.int .u64 c2,.int .u64 d2]∧Blk wx (w.heap.size+1) 152 #[.int .u64 0,.int .u64 0,.int .u64 0,.int .u64 0]∧Below w.heap.size w wx)
   case first =>
    have c0:=hb.cell 0
    have c1:=hb.cell 1
    have c2:=hb.cell 2
    have c3:=hb.cell 3
    simp only [List.getElem?_toArray,List.getElem?_cons_zero,List.getElem?_cons_succ] at c0 c1 c2 c3
    have f0:=hb.frozen 0
    have f1:=hb.frozen 1
    have f2:=hb.frozen 2
    have f3:=hb.frozen 3
    refine Zbg 7 (by kernel_rfl) (by kernel_rfl) ?_
    simp only [List.take_succ_cons,List.take_zero,List.drop_succ_cons,List.drop_zero]
    repeat still_step
    still_call (ZcN (Zcg _ _ _ (by omega)))
    repeat still_step
    refine wpStill_nil ?_
    go_wp2_with fail
    go_meet
    case rel=>exact ⟨((hb.set_ 1 _).drew),(((hz.far (p:=⟨w.heap.size,1,none⟩) (by simp) _)).drew),(((hg.setCell (p:=⟨w.heap.size,1,none⟩) (Nat.le_refl _) _)).drew)⟩
   clear hb hz hg
   obtain ⟨hb,hz,hg⟩:=hcut
   obtain ⟨b2,Hb2⟩ :∃x,Hid (x=xor64 (rotl b1 17) c2):=⟨_,Lib.hid rfl⟩
   rw [← Hb2.out] at hb
   have c0:=hb.cell 0
   have c1:=hb.cell 1
   have c2:=hb.cell 2
   have c3:=hb.cell 3
   simp only [List.getElem?_toArray,List.getElem?_cons_zero,List.getElem?_cons_succ] at c0 c1 c2 c3
   have f0:=hb.frozen 0
   have f1:=hb.frozen 1
   have f2:=hb.frozen 2
   have f3:=hb.frozen 3
   go_wp2_with (go_at_call 115; refine (Zcg _ _ _ (by omega)).mono ?_; rintro e w1 ⟨rfl,rfl⟩)
   go_roundw
   case rel=>exact ⟨m - 1,by omega,by go_num,by rw [show n - (m - 1)=(n - m)+1 from by omega,Sip.run,HT.out]; cases Ha1.out; cases Hb1.out; cases Ha2.out; cases Hc1.out; cases Hd1.out; cases Ha3.out; cases Hd2.out; cases Hc2.out; cases Hb2.out; exact hb.set_ 2 _,(((hz.far (p:=⟨w.heap.size,2,none⟩) (by simp) _))),(((hg.setCell (p:=⟨w.heap.size,2,none⟩) (Nat.le_refl _) _)))⟩
   case measure=>simp [intOf]; omega
  ·obtain rfl:m=0:=by omega
   rw [Nat.sub_zero] at hb
   generalize hT:Sip.run n s=T at hb
   have HT:=Lib.hid hT
   clear hT
   obtain ⟨a,b,c,d⟩:=T
   simp only [Sip.cells] at hb
   have c0:=hb.cell 0
   have c1:=hb.cell 1
   have c2:=hb.cell 2
   have c3:=hb.cell 3
   simp only [List.getElem?_toArray,List.getElem?_cons_zero,List.getElem?_cons_succ] at c0 c1 c2 c3
   have f0:=hb.frozen 0
   have f1:=hb.frozen 1
   have f2:=hb.frozen 2
   have f3:=hb.frozen 3
   have z0:=hz.cell 0
   have z1:=hz.cell 1
   have z2:=hz.cell 2
   have z3:=hz.cell 3
   simp only [List.getElem?_toArray,List.getElem?_cons_zero,List.getElem?_cons_succ] at z0 z1 z2 z3
   have y0:=hz.frozen 0
   have y1:=hz.frozen 1
   have y2:=hz.frozen 2
   have y3:=hz.frozen 3
   go_wp2_with fail
   refine bodyPost_ret (v:=.agg #[.int .u64 a,.int .u64 b,.int .u64 c,.int .u64 d]) (by simp [results,Tryz.results113,go_sem,z0,z1,z2,z3]) rfl ⟨by rw [HT.out]; rfl,?_⟩
   exact (((hg.setCell (p:=⟨w.heap.size+1,0,none⟩) (by simp) _).setCell (p:=⟨w.heap.size+1,1,none⟩) (by simp) _).setCell (p:=⟨w.heap.size+1,2,none⟩) (by simp) _).setCell (p:=⟨w.heap.size+1,3,none⟩) (by simp) _
end Go.Proofs.YtfbkkmnkpjgciaaGreat
