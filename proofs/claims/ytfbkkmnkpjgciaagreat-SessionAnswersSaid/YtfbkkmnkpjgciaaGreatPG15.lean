/- Joined of GSum GNum GSeal GOpens GOpen GDerive GName. No condition. -/
import Derived.Test.YtfbkkmnkpjgciaaGreatPG14
import Derived.Test.YtfbkkmnkpjgciaaGreatPG04
import Derived.Test.YtfbkkmnkpjgciaaGreatPG00
import Derived.Test.YtfbkkmnkpjgciaaGreatPG02
import Derived.BigRegion
import Derived.Test.YtfbkkmnkpjgciaaGreatPG07
namespace Go.Proofs.YtfbkkmnkpjgciaaGreat
open Go.RowKit
def Sip.all (s:Sip) (bs:List UInt8) (i:Nat):Sip :=
 if i≤bs.length / 8 then s.feed bs i else (s.feed bs (bs.length / 8)).absorb (lastW bs)
def chunkW (bs:List UInt8) (i:Nat):Int:=if i < bs.length / 8 then (leW ((bs.drop (8*i)).take 8):Int) else lastW bs
theorem all_step (s:Sip) (bs:List UInt8) (i:Nat) (h:i≤bs.length / 8):s.all bs (i+1)=(s.all bs i).absorb (chunkW bs i):=by
 unfold Sip.all chunkW
 by_cases h1:i < bs.length / 8
 · rw [if_pos (by omega),if_pos h,if_pos h1]; rfl
 ·rw [if_neg (by omega),if_pos h,if_neg h1]
  congr 2
  omega
theorem lastW_eq' (bs:List UInt8) (n i:Nat) (hn:bs.length=n) (hi:i=n / 8) :
  bits .or .u64 (leW (bs.drop (8*i)):Int) ((n:Int) % 256*72057594037927936)=lastW bs:=by
 subst hi hn
 have h:=leW_lt64 (bs.drop (8*(bs.length / 8))) (by rw [List.length_drop]; omega)
 have e:((bs.length:Int) % 256*72057594037927936)=((bs.length % 256*72057594037927936:Nat):Int):=by omega
 rw [e,or_u64 _ _ h (by omega),Nat.or_comm]
 rfl
theorem all_zero (s:Sip) (bs:List UInt8):s.all bs 0=s:=by simp [Sip.all,Sip.feed]
theorem all_last (s:Sip) (bs:List UInt8) (i:Nat) (h:i=bs.length / 8+1):s.all bs i=(s.feed bs (bs.length / 8)).absorb (lastW bs):=by
 unfold Sip.all; rw [if_neg (by omega)]
theorem leW_up {bs:List UInt8} {k:Nat} {b:UInt8} (h:bs[k]?=some b) (hl:bs.length≤8) :
  bits .or .u64 (IntKind.u64.wrap ((leW (bs.drop (k+1)):Int)*256)) (b.toNat:Int)=(leW (bs.drop k):Int):=by
 have hk:k < bs.length:=(List.getElem?_eq_some_iff.1 h).1
 have hb:bs[k]=b:=(List.getElem?_eq_some_iff.1 h).2
 have h1:=leW_lt (bs.drop (k+1))
 rw [List.length_drop] at h1
 have h2:256 ^ (bs.length - (k+1))≤256 ^ 7:=pow_le _ _ (by omega)
 have h3:(256:Nat) ^ 7=72057594037927936:=rfl
 have hbl:=b.toNat_lt
 have e:bs.drop k=b::bs.drop (k+1):=by rw [List.drop_eq_getElem_cons hk,hb]
 rw [e,leW,IntKind.wrap_u64]
 have e1:(leW (bs.drop (k+1)):Int)*256 % 18446744073709551616=((leW (bs.drop (k+1))*256:Nat):Int):=by omega
 rw [e1,or_u64 _ _ (by omega) (by omega)]
 congr 1
 rw [Nat.mul_comm,show (256:Nat)=2 ^ 8 from rfl,← Nat.two_pow_add_eq_or_of_lt (by simpa using hbl)]
 omega
set_option maxHeartbeats 400000 in
theorem Zb4 (A:Option Addr) (n c:Nat) (bs:List UInt8) (w:World) (B:Nat) (h:Zaj w B 1 A n (bsV bs)) (hn:n≤8) :
  Calls Tryz.prog 102 #[.slice A n c] w fun e w'=>e=.returned (.int .u64 (leW bs:Int))∧w=w':=by
 have hlen:bs.length=n:=by have:=h.1; simpa using this
 have HL:=Lib.hid hlen
 clear hlen
 go_enter Tryz.func102,Tryz.ntmps102
 go_wp2
 go_loop [3,4] (fun x i=>∃ k:Nat,k≤n∧i=.int .i64 ((k:Int) - 1)∧x=.int .u64 (leW (bs.drop k):Int)) (fun _ i=>(intOf i+1).toNat)
 case atStart=>exact ⟨n,Nat.le_refl _,rfl,by rw [List.drop_of_length_le (by rw [HL.out]; omega)]; rfl⟩
 case round =>
  obtain ⟨k,hk,rfl,rfl⟩:=hrel
  by_cases hlt:0 < k
  ·obtain ⟨k,rfl⟩ :∃j,k=j+1:=⟨k - 1,by omega⟩
   obtain ⟨ad,u,rfl,_,hx,hc⟩:=h.at_ (show k < n by omega)
   obtain ⟨b,hb,rfl,hb0,hb1⟩:=Zd0 hx
   have HB:=Lib.hid hb
   clear hb hx
   have ek:((k+1:Nat):Int) - 1=(k:Int):=by omega
   rw [ek]
   clear ek
   go_wp2
   go_round
   case rel=>exact ⟨k,by omega,rfl,by rw [leW_up HB.out (by rw [HL.out]; omega)]⟩
   case measure=>simp [intOf]
  ·obtain rfl:k=0:=by omega
   go_wp2
   go_ret
   exact ⟨rfl,rfl⟩
set_option maxHeartbeats 1000000 in
theorem Zde (ks bs:List UInt8) (hk:ks.length=16) (A:Option Addr) (n c:Nat) (w:World) (h:Zaj w w.heap.size 1 A n (bsV bs)) (hn:n≤c) (hc:c≤maxLen) :
  Calls Tryz.prog 103 #[.agg (bsV ks).toArray,.slice A n c] w
   fun e w'=>e=.returned (.int .u64 (sumF ks bs))∧Below w.heap.size w w':=by
 have hlen:bs.length=n:=by have:=h.1; simpa using this
 have HLn:=Lib.hid hlen
 clear hlen
 have hK:=Blk.new w 46 (bsV ks).toArray
 have r1:=Zaj.of_blk hK 0 8 (by simp [hk]) (Nat.lt_succ_self _)
 have r2:=Zaj.of_blk hK 8 8 (by simp [hk]) (Nat.lt_succ_self _)
 have e1:((bsV ks).drop 0).take 8=bsV (ks.take 8):=by simp [bsV,List.map_take]
 have e2:((bsV ks).drop 8).take 8=bsV (ks.drop 8):=by
  rw [List.take_of_length_le (by simp [hk])]; simp [bsV,List.map_drop]
 rw [e1] at r1
 rw [e2] at r2
 clear e1 e2
 have k1:=fun m=>Zb4 _ 8 16 _ ((w.alloc (.cells (bsV ks).toArray 46)).drewN m) _ (r1.drewN m) (by omega)
 have k2:=fun m=>Zb4 _ 8 8 _ ((w.alloc (.cells (bsV ks).toArray 46)).drewN m) _ (r2.drewN m) (by omega)
 have HK:=jd hK
 have K1:=jd k1
 have K2:=jd k2
 have HL:=jd hk
 clear hK r1 r2 k1 k2 hk
 unfold maxLen at hc
 go_enter Tryz.func103,Tryz.ntmps103
 go_wp2_with fail
 go_quiet (first | (go_at_call 102; with_reducible exact ZdF ((uh K1) _)) | (go_at_call 102; with_reducible exact ZdF ((uh K2) _)))
 go_wp2_with fail
 go_loopw [8] (fun x wr=>∃ i:Nat,i≤n / 8+1∧x=.int .i64 i∧Blk wr (w.heap.size+1) 152 ((Sip.start ks).all bs i).cells∧Below w.heap.size w wr)
  (fun x _=>n / 8+1 - (intOf x).toNat)
 case atStart =>
  refine ⟨0,by omega,rfl,?_,?_⟩
  · exact Blk.new' (by rw [World.heap_drewN,Zae])
  · exact (ZaK ((Below.refl _ _).alloc (Nat.le_refl _) _) _).alloc (by rw [World.heap_drewN,Zae]; omega) _
 case round =>
  obtain ⟨i,hi,rfl,hb,hg⟩:=hrel
  have hr:=h.below hg
  generalize hT:(Sip.start ks).all bs i=T at hb
  have HT:=Lib.hid hT
  clear hT
  obtain ⟨s0,s1,s2,s3⟩:=T
  have z0:=hb.cell 0
  have z1:=hb.cell 1
  have z2:=hb.cell 2
  have z3:=hb.cell 3
  have y0:=hb.frozen 0
  have y1:=hb.frozen 1
  have y2:=hb.frozen 2
  have y3:=hb.frozen 3
  simp only [Sip.cells,List.getElem?_toArray,List.getElem?_cons_zero,List.getElem?_cons_succ] at z0 z1 z2 z3
  have HR:=jd hr
  have HB:=jd hb
  have HG:=jd hg
  have HH:=jd h
  clear hr hb hg h
  by_cases h0:i≤n / 8
  ·obtain ⟨M,HM⟩ :∃M:Int,Hid (M=chunkW bs i):=⟨_,Lib.hid rfl⟩
   go_upto_if 34 with fail
   go_cut [9] from 23 to 65 (fun x wx=>x=.int .u64 M∧wr=wx)
   case first =>
    by_cases h1:i < n / 8
    ·obtain ⟨ad,rfl⟩:=(uh HH).some_ (by omega)
     have hs:Zaj wr w.heap.size 1 (some (ad.add (8*i))) 8 (bsV ((bs.drop (8*i)).take 8)):=by
      have:=(uh HR).sub (k:=8*i) (m:=8) (by omega)
      simpa [bsV,List.map_take,List.map_drop] using this
     have HS:=jd hs
     clear hs
     go_wp2_with fail
     refine (Zb4 _ _ _ _ _ _ (uh HS) (by omega)).mono ?_
     rintro e w1 ⟨rfl,rfl⟩
     go_wp2_with fail
     go_meet
     case rel=>exact ⟨by rw [HM.out,chunkW,HLn.out,if_pos h1],rfl⟩
    ·have hA3:(A=none)∨(∃ ad,A=some ad∧8*i=c)∨(∃ ad,A=some ad∧¬ c=8*i):=by
      rcases A with _ | ad
      · exact .inl rfl
      ·by_cases e:8*i=c
       · exact .inr (.inl ⟨ad,rfl,e⟩)
       · exact .inr (.inr ⟨ad,rfl,fun h=>e h.symm⟩)
     have ht:∀ A',(8*i < n→A'=A.map (·.add (8*i)))→Zaj wr w.heap.size 1 A' (n - 8*i) (bsV (bs.drop (8*i))):=fun A' h'=>by
      have:=(uh HR).tail_ (k:=8*i) (A':=A') (by omega) h'
      simpa [bsV,List.map_drop] using this
     have HT2:=jd ht
     clear ht
     have h8:n - 8*i≤8:=by omega
     rcases hA3 with rfl | ⟨ad,rfl,rfl⟩ | ⟨ad,rfl,hne⟩
     all_goals
      go_wp2_with fail
      refine (Zb4 _ _ _ (bs.drop (8*i)) _ w.heap.size ?_ (by omega)).mono ?_
      · first
        | exact (uh HT2) _ (fun _=>rfl)
        |(have h2:=(uh HT2) (some ad) (fun h=>absurd h (by omega))
          rw [show n - 8*i=0 from by omega] at h2
          exact h2)
      rintro e w1 ⟨rfl,rfl⟩
      go_wp2_with fail
      go_meet
      case rel=>exact ⟨by rw [HM.out,chunkW,HLn.out,if_neg h1,lastW_eq' bs n i HLn.out (by omega)],rfl⟩
   case rest =>
    obtain ⟨rfl,rfl⟩:=hcut
    have hcell:=ZdO 2 ⟨s0,s1,s2,xor64 s3 M⟩
    have hb0:=(uh HB).set_ 3 (.int .u64 (xor64 s3 M))
    have hg0:=(uh HG).setCell (p:=⟨w.heap.size+1,3,none⟩) (by simp) (.int .u64 (xor64 s3 M))
    have HC:=jd hcell
    have HB0:=jd hb0
    have HG0:=jd hg0
    clear hcell hb0 hg0
    go_wp2_with fail
    refine (uh HC _ (by omega)).mono ?_
    rintro e w1 ⟨rfl,hl1⟩
    have hb1:=(uh HB0).below hl1 (uh HB0).lt
    have hg1:=(uh HG0).trans (hl1.mono (uh HG0).size)
    generalize hT1:Sip.run 2 ⟨s0,s1,s2,xor64 s3 M⟩=T1
    have HT1:=Lib.hid hT1
    clear hT1 hl1
    obtain ⟨t0,t1,t2,t3⟩:=T1
    simp only [Sip.cells]
    have x0:=hb1.cell 0
    have x1:=hb1.cell 1
    have x2:=hb1.cell 2
    have x3:=hb1.cell 3
    have v0:=hb1.frozen 0
    have v1:=hb1.frozen 1
    have v2:=hb1.frozen 2
    have v3:=hb1.frozen 3
    simp [Sip.cells] at x0 x1 x2 x3
    have HB5:=jd (((((hb1.set_ 0 (.int .u64 t0)).set_ 1 (.int .u64 t1)).set_ 2 (.int .u64 t2)).set_ 3 (.int .u64 t3)).set_ 0 (.int .u64 (xor64 t0 M)))
    have HG5:=jd (((((hg1.setCell (p:=⟨w.heap.size+1,0,none⟩) (by simp) (.int .u64 t0)).setCell (p:=⟨w.heap.size+1,1,none⟩) (by simp) (.int .u64 t1)).setCell (p:=⟨w.heap.size+1,2,none⟩) (by simp) (.int .u64 t2)).setCell (p:=⟨w.heap.size+1,3,none⟩) (by simp) (.int .u64 t3)).setCell (p:=⟨w.heap.size+1,0,none⟩) (by simp) (.int .u64 (xor64 t0 M)))
    clear hb1 hg1
    go_wp2_with fail
    go_roundw
    case rel =>
     refine ⟨i+1,by omega,by go_num,?_,uh HG5⟩
     rw [all_step _ _ _ (by rw [HLn.out]; exact h0),HT.out,← HM.out]
     simp only [Sip.absorb,HT1.out]
     exact uh HB5
    case measure=>simp [intOf]; omega
  ·have HI:=Lib.hid (show i=n / 8+1 by omega)
   have HR4:=jd (ZdO 4 ⟨s0,s1,xor64 s2 255,s3⟩)
   have HB0:=jd ((uh HB).set_ 2 (.int .u64 (xor64 s2 255)))
   have HG0:=jd ((uh HG).setCell (p:=⟨w.heap.size+1,2,none⟩) (by simp) (.int .u64 (xor64 s2 255)))
   go_wp2_with fail
   refine (uh HR4 _ (by omega)).mono ?_
   rintro e w1 ⟨rfl,hl1⟩
   have hb1:=(uh HB0).below hl1 (uh HB0).lt
   have hg1:=(uh HG0).trans (hl1.mono (uh HG0).size)
   generalize hT1:Sip.run 4 ⟨s0,s1,xor64 s2 255,s3⟩=T1
   have HT1:=Lib.hid hT1
   clear hT1 hl1
   obtain ⟨t0,t1,t2,t3⟩:=T1
   simp only [Sip.cells]
   have x0:=hb1.cell 0
   have x1:=hb1.cell 1
   have x2:=hb1.cell 2
   have x3:=hb1.cell 3
   have v0:=hb1.frozen 0
   have v1:=hb1.frozen 1
   have v2:=hb1.frozen 2
   have v3:=hb1.frozen 3
   simp [Sip.cells] at x0 x1 x2 x3
   have HG5:=jd ((((hg1.setCell (p:=⟨w.heap.size+1,0,none⟩) (by simp) (.int .u64 t0)).setCell (p:=⟨w.heap.size+1,1,none⟩) (by simp) (.int .u64 t1)).setCell (p:=⟨w.heap.size+1,2,none⟩) (by simp) (.int .u64 t2)).setCell (p:=⟨w.heap.size+1,3,none⟩) (by simp) (.int .u64 t3))
   clear hb1 hg1
   go_wp2_with fail
   go_ret
   refine ⟨?_,uh HG5⟩
   have e1:sumF ks bs=xor64 (xor64 (xor64 t0 t1) t2) t3:=by
    unfold sumF
    rw [← all_last _ _ i (by rw [HLn.out]; exact HI.out),HT.out]
    simp only [Sip.fin,HT1.out]
   rw [e1]
   rfl
set_option maxRecDepth 100000 in
set_option maxHeartbeats 1000000 in
theorem ZdE (x:Int) (_hx0:0≤x) (w:World):Calls Tryz.prog 99 #[.int .u64 x,.int .i64 8] w fun e w'=>∃ v,e=.returned v∧w'.ownsRow w.heap.size 5 1 v 8 (bsV (leB x 8))∧Below w.heap.size w w':=by
 obtain ⟨i0,hi,hz0,hz1,hz2⟩:=info_parts ZcF
 go_enter Tryz.func99,Tryz.ntmps99
 go_wp2_with fail
 go_loopw [5,6] (fun v i wr=>∃ k:Nat,k≤8∧i=.int .i64 k∧wr.ownsRow w.heap.size 5 1 v k (bsV (leB x k))∧Below w.heap.size w wr) (fun _ i _=>8 - (intOf i).toNat)
 case atStart=>exact ⟨0,by omega,rfl,World.ownsRow_nil _ _ _ _,Below.refl _ _⟩
 case round =>
  obtain ⟨k,hk,rfl,hown,hg⟩:=hrel
  have hsz:=hg.size
  by_cases hlt:k < 8
  ·have HO:=jd hown
   have HG:=jd hg
   clear hown hg
   go_wp2_with (at_builtin; refine ZcT _ rfl (.tmp 12) (.tmp 19) 22 rfl w.heap.size 5 i0 _ 1 Tryz.underlying22 hi hz0 hz1 hz2 rfl _ k (bsV (leB x k)) rfl (uh HO) _ rfl (by rfl) (by unfold maxLen; omega) (by omega) (by omega) ?_; intro v' w1 hown1 hbel1)
   go_roundw
   case rel=>exact ⟨k+1,by omega,by go_num,by rw [leB_snoc]; exact hown1,(uh HG).trans hbel1⟩
   case measure=>simp [intOf]; omega
  ·obtain rfl:k=8:=by omega
   have HO:=jd hown
   have HG:=jd hg
   clear hown hg
   go_wp2_with fail
   go_ret
   exact ⟨_,rfl,uh HO,uh HG⟩
set_option maxRecDepth 100000 in
set_option maxHeartbeats 1000000 in
theorem num_any (x:Int) (w:World) (n:Nat) (hn:n≤8):Calls Tryz.prog 99 #[.int .u64 x,.int .i64 (n:Int)] w fun e w'=>∃ v,e=.returned v∧w'.ownsRow w.heap.size 5 1 v n (bsV (leB x n))∧Below w.heap.size w w':=by
 obtain ⟨i0,hi,hz0,hz1,hz2⟩:=info_parts ZcF
 go_enter Tryz.func99,Tryz.ntmps99
 go_wp2_with fail
 go_loopw [5,6] (fun v i wr=>∃ k:Nat,k≤n∧i=.int .i64 k∧wr.ownsRow w.heap.size 5 1 v k (bsV (leB x k))∧Below w.heap.size w wr) (fun _ i _=>n - (intOf i).toNat)
 case atStart=>exact ⟨0,by omega,rfl,World.ownsRow_nil _ _ _ _,Below.refl _ _⟩
 case round =>
  obtain ⟨k,hk,rfl,hown,hg⟩:=hrel
  have hsz:=hg.size
  by_cases hlt:k < n
  ·have HO:=jd hown
   have HG:=jd hg
   clear hown hg
   go_wp2_with (at_builtin; refine ZcT _ rfl (.tmp 12) (.tmp 19) 22 rfl w.heap.size 5 i0 _ 1 Tryz.underlying22 hi hz0 hz1 hz2 rfl _ k (bsV (leB x k)) rfl (uh HO) _ rfl (by rfl) (by unfold maxLen; omega) (by omega) (by omega) ?_; intro v' w1 hown1 hbel1)
   go_roundw
   case rel=>exact ⟨k+1,by omega,by go_num,by rw [leB_snoc]; exact hown1,(uh HG).trans hbel1⟩
   case measure=>simp [intOf]; omega
  ·obtain rfl:k=n:=by omega
   have HO:=jd hown
   have HG:=jd hg
   clear hown hg
   go_wp2_with fail
   go_ret
   exact ⟨_,rfl,uh HO,uh HG⟩
set_option maxRecDepth 100000 in
set_option maxHeartbeats 2000000 in
theorem ref_seal_any (ks bs:List UInt8) (hk:ks.length=16) (A:Option Addr) (n c:Nat) (w:World) (h:Zaj w w.heap.size 1 A n (bsV bs)) (hn:n≤c) (hc:c≤maxLen) (hlen:n≤1000000) :
  Calls Tryz.prog 107 #[.agg (bsV ks).toArray,.slice A n c] w
   fun e w'=>∃ v,e=.returned v∧w'.ownsRow w.heap.size 5 1 v (n+8) (bsV bs++bsV (leB (sumF ks bs) 8))∧Below w.heap.size w w':=by
 obtain ⟨i0,hi,hz0,hz1,hz2⟩:=info_parts ZcF
 have hKB:=Blk.new w 46 (bsV ks).toArray
 have hS0:Below (w.heap.size+1) (w.alloc (.cells (bsV ks).toArray 46)) (w.alloc (.cells (bsV ks).toArray 46)).drew∧(w.alloc (.cells (bsV ks).toArray 46)).drew.rangeAt w.heap.size 0 (bsV ks) :=
  ⟨(Below.refl _ _).drew,ZdB hKB⟩
 have hu23:=Tryz.underlying46
 have hsz23:(Tryz.prog.info? 46).map (·.size)=some (bsV ks).length:=by
  have e:(bsV ks).length=16:=by simp [hk]
  rw [e]
  exact (by kernel_rfl:(Tryz.prog.info? 46).map (·.size)=some 16)
 have hR0:=(h.alloc (Nat.le_refl _) (.cells (bsV ks).toArray 46))
 have hbel0:=(Below.refl w.heap.size w).alloc (Nat.le_refl _) (.cells (bsV ks).toArray 46)
 have hO5:=World.ownsRow_nil (w.alloc (.cells (bsV ks).toArray 46)).drew (w.heap.size+1) 5 1
 have HO5:=jd hO5
 have HR5:=jd hR0.drew
 have HBEL0:=jd hbel0
 have HR0:=jd hR0
 have HK:=jd hk
 clear hKB h hk hR0 hbel0 hO5
 go_enter Tryz.func107,Tryz.ntmps107
 go_wp2_with fail
 go_region_held3 (fun W=>Below (w.heap.size+1) (w.alloc (.cells (bsV ks).toArray 46)) W∧W.rangeAt w.heap.size 0 (bsV ks)) (first | assumption | exact ZeE (by assumption) (Nat.lt_succ_self _) (by simp) _) (first
  |(refine Zb9 _ (.const (.slice none 0 0)) (.tmp 5) 22 (.slice none 0 0) A n c rfl rfl rfl rfl (w.heap.size+1) 5 i0 (.int .u8 0) 1 Tryz.underlying22 hi hz0 hz1 hz2 rfl 0 [] (uh HO5) w.heap.size (bsV bs) (uh HR5) (ZaL _) (by unfold maxLen; omega) (by omega) (by simp) ?_
    intro v1 w5 hown5 hb5
    have hS5:Below (w.heap.size+1) (w.alloc (.cells (bsV ks).toArray 46)) w5∧w5.rangeAt w.heap.size 0 (bsV ks):=ZaY (by assumption) hb5 (Nat.le_refl _) (Nat.lt_succ_self _)
    have HO6:=jd hown5
    have HR6:=jd (((uh HR0).keep (fun p hp=>hS5.1.cell (by omega))).more (show w.heap.size≤w5.heap.size by have:=hS5.1.size; simp at this; omega))
    clear hown5 hb5)
  |(go_simp; go_at_call 103; refine (Zde ks bs (uh HK) A n c w5 (uh HR6) hn hc).mono ?_
    rintro e w6 ⟨rfl,hb6⟩
    have hS6:Below (w.heap.size+1) (w.alloc (.cells (bsV ks).toArray 46)) w6∧w6.rangeAt w.heap.size 0 (bsV ks):=ZaY (by assumption) hb6 (by have:=hS5.1.size; simp at this; omega) (Nat.lt_succ_self _)
    have HO7:=jd (Zam (uh HO6) hb6)
    clear hb6)
  |(go_simp; go_at_call 99; refine (ZdE (sumF ks bs) (Zcd ks bs) w6).mono ?_
    rintro e w7 ⟨v2,rfl,hown7,hb7⟩
    have hS7:Below (w.heap.size+1) (w.alloc (.cells (bsV ks).toArray 46)) w7∧w7.rangeAt w.heap.size 0 (bsV ks):=ZaY (by assumption) hb7 (by have:=hS6.1.size; simp at this; omega) (Nat.lt_succ_self _)
    have HO8:=jd (Zam (uh HO7) hb7)
    obtain ⟨A2,c2,rfl,hc2,hm2⟩:=Zac hown7
    have HR8:=jd (Zaj.of_own hown7)
    clear hb7 hown7)
  |(refine Zb9 _ (.tmp 6) (.tmp 10) 22 v1 A2 8 c2 rfl rfl rfl rfl (w.heap.size+1) 5 i0 (.int .u8 0) 1 Tryz.underlying22 hi hz0 hz1 hz2 rfl (0+n) ([]++bsV bs) (uh HO8) w7.heap.size (bsV (leB (sumF ks bs) 8)) (uh HR8) (ZaL _) (by unfold maxLen; omega) (by omega) (by have:=hS7.1.size; simp at this; omega) ?_
    intro v3 w8 hown9 hb9
    have hS8:Below (w.heap.size+1) (w.alloc (.cells (bsV ks).toArray 46)) w8∧w8.rangeAt w.heap.size 0 (bsV ks):=ZaY (by assumption) hb9 (Nat.le_refl _) (Nat.lt_succ_self _)
    have HO9:=jd hown9
    clear hb9 hown9))
 have HE:=jd hS8
 clear hS8 hS7 hS6 hS5
 go_wp2_with fail
 go_ret
 refine ⟨v3,rfl,?_,(uh HBEL0).trans ((uh HE).1.mono (by omega))⟩
 have:=uh HO9
 rw [Nat.zero_add,List.nil_append] at this
 exact Zak this (by omega)
def OpenPost (w:World) (bs:List UInt8) (m:Nat) (ok:Bool) (e:Ending) (w':World):Prop :=
 Below w.heap.size w w'∧match ok with
  | true=>∃ v,e=.returned (.tuple #[v,.int .i64 0])∧w'.ownsRow w.heap.size 5 1 v m (bsV (bs.take m))
  | false=>e=.returned (.tuple #[.slice none 0 0,.int .i64 50])
set_option maxRecDepth 100000 in
set_option maxHeartbeats 1000000 in
theorem ref_open_short (ks bs:List UInt8) (A:Option Addr) (n c:Nat) (w:World) (hlen:n < 8) :
  Calls Tryz.prog 84 #[.agg (bsV ks).toArray,.slice A n c] w
   fun e w'=>e=.returned (.tuple #[.slice none 0 0,.int .i64 4])∧Below w.heap.size w w':=by
 have hbs:bs=bs:=rfl
 clear hbs
 go_enter Tryz.func84,Tryz.ntmps84
 go_wp2_with fail
 go_ret2
 exact ⟨rfl,(Below.refl _ _).alloc (Nat.le_refl _) _⟩
set_option maxRecDepth 100000 in
set_option maxHeartbeats 1000000 in
theorem Zc7 (ks bs:List UInt8) (hk:ks.length=16) (A:Option Addr) (m c:Nat) (w:World) (h:Zaj w w.heap.size 1 A (m+8) (bsV bs)) (hn:m+8≤c) (hc:c≤maxLen) (hlen:m≤1000000) (ok:Bool)
  (hok:decide ((leW (bs.drop m):Int)=sumF ks (bs.take m))=ok) :
  Calls Tryz.prog 84 #[.agg (bsV ks).toArray,.slice A (m+8) c] w
   fun e w'=>OpenPost w bs m ok e w':=by
 obtain ⟨i0,hi,hz0,hz1,hz2⟩:=info_parts ZcF
 obtain ⟨ad,rfl⟩:=h.some_ (by omega)
 have hKB:=Blk.new w 46 (bsV ks).toArray
 have hR0:=(h.alloc (Nat.le_refl _) (.cells (bsV ks).toArray 46))
 have hbel0:=(Below.refl w.heap.size w).alloc (Nat.le_refl _) (.cells (bsV ks).toArray 46)
 have hlo:=hR0.take (m:=m) (by omega)
 have hhi:=hR0.tail_ (k:=m) (A':=some (ad.add m)) (by omega) (fun _=>rfl)
 have e1:(bsV bs).take m=bsV (bs.take m):=by simp [bsV,List.map_take]
 have e2:(bsV bs).drop m=bsV (bs.drop m):=by simp [bsV,List.map_drop]
 rw [e1] at hlo
 rw [e2,Nat.add_sub_cancel_left] at hhi
 clear e1 e2
 have hbase:∀ x:Zcz (fun W=>Below (w.heap.size+1) (w.alloc (.cells (bsV ks).toArray 46)) W),w.heap.size≤x.val.heap.size:=fun x=>by have:=x.ok.size; rw [Zae] at this; omega
 have h1:∀ x:Zcz (fun W=>Below (w.heap.size+1) (w.alloc (.cells (bsV ks).toArray 46)) W),Calls Tryz.prog 102 #[.slice (some (ad.add m)) 8 (c - m)] x.val fun e w''=>e=.returned (.int .u64 (leW (bs.drop m):Int))∧∃ y:Zcz (fun W=>Below (w.heap.size+1) (w.alloc (.cells (bsV ks).toArray 46)) W),w''=y.val:=fun x=>by
  have hx:=x.ok
  refine (Zb4 (some (ad.add m)) 8 (c - m) (bs.drop m) x.val w.heap.size (hhi.keep fun p hp=>hx.cell (by omega)) (by omega)).mono ?_
  rintro e w' ⟨rfl,rfl⟩
  exact ⟨rfl,x,rfl⟩
 have h2:∀ x:Zcz (fun W=>Below (w.heap.size+1) (w.alloc (.cells (bsV ks).toArray 46)) W),Calls Tryz.prog 103 #[.agg (bsV ks).toArray,.slice (some ad) m c] x.val fun e w''=>e=.returned (.int .u64 (sumF ks (bs.take m)))∧∃ y:Zcz (fun W=>Below (w.heap.size+1) (w.alloc (.cells (bsV ks).toArray 46)) W),w''=y.val:=fun x=>by
  have hx:=x.ok
  have hxs:=hx.size
  rw [Zae] at hxs
  exact class_call (Zde ks (bs.take m) hk _ _ _ _ ((hlo.keep fun p hp=>hx.cell (by omega)).more (hbase x)) (by omega) hc) (fun w' h=>hx.trans (h.mono hxs))
 have hin:Nonempty (Zcz (fun W=>Below (w.heap.size+1) (w.alloc (.cells (bsV ks).toArray 46)) W)):=⟨⟨_,Below.refl _ _⟩⟩
 have H1:=jd h1
 have H2:=jd h2
 have HKB:=jd hKB
 have HK:=jd hk
 have HLO:=jd hlo
 have HB0:=jd hbel0
 have HOK:=jd hok
 have hS0:=jd ((Below.refl (w.heap.size+1) (w.alloc (.cells (bsV ks).toArray 46))).drew)
 have hcm:¬ c=m:=by omega
 have hc63:=hc
 unfold maxLen at hc63
 have hm0:(0:Int)≤(m:Int):=by omega
 have hm1:(m:Int)≤(c:Int):=by omega
 have hm2:(m:Int)≤(m:Int)+8:=by omega
 clear h1 h2 hKB hk hlo hhi hR0 hbel0 h hbase hok
 go_enter Tryz.func84,Tryz.ntmps84
 go_wp2_with fail
 refine Zfg (fun W=>Below (w.heap.size+1) (w.alloc (.cells (bsV ks).toArray 46)) W) (by kernel_rfl) (by kernel_rfl) (uh hS0) ?_
 repeat (go_big_quiet_step ((first | (go_at_call 102; exact (uh H1) _))))
 refine BigFrame.wpQuiet_want rfl (fun K hK=>quiet_load_row _ _ rfl w.heap.size rfl 46 (bsV ks).toArray _ (fun W hW=>by obtain ⟨x,rfl⟩:=hW; exact (uh HKB).below x.ok (Nat.lt_succ_self _)) Tryz.underlying46 rfl (Zbo (uh HK)) (hK _ ?_))
 simp only [Act.put,zA,zB,zC]
 repeat (go_big_quiet_step ((first | (go_at_call 103; exact (uh H2) _))))
 refine wpQuiet_nil ?_
 intro _ hw'
 obtain ⟨x,hw''⟩:=hw'
 subst hw''
 have hx:=x.ok
 have HX:=jd hx
 have hxs:=hx.size
 rw [Zae] at hxs
 have HR3:=jd ((uh HLO).keep fun p hp=>hx.cell (by omega))
 have HO3:=jd (World.ownsRow_nil x.val w.heap.size 5 1)
 clear hx
 cases ok
 ·have hne:((leW (bs.drop m):Int) != sumF ks (bs.take m))=true:=by
   have:=uh HOK
   simpa using this
  have hne2:=jd hne
  clear hne
  simp only [hne2.out]
  go_wp2_with fail
  go_ret2
  exact ⟨(uh HB0).trans ((uh HX).mono (by omega)),rfl⟩
 ·have hne:((leW (bs.drop m):Int) != sumF ks (bs.take m))=false:=by
   have:=uh HOK
   simpa using this
  have hne2:=jd hne
  clear hne
  simp only [hne2.out]
  go_wp2_with (refine ZbJ _ (.const (.slice none 0 0)) (.tmp 24) 22 (.slice none 0 0) (some ad) m c rfl rfl rfl rfl w.heap.size 5 i0 (.int .u8 0) 1 Tryz.underlying22 hi hz0 hz1 hz2 rfl 0 [] (uh HO3) w.heap.size (bsV (bs.take m)) (uh HR3) (ZaL _) (by unfold maxLen; omega) (by omega) (by omega) ?_; intro v1 w5 hown5 hb5)
  go_ret2
  refine ⟨((uh HB0).trans ((uh HX).mono (by omega))).trans hb5,v1,rfl,?_⟩
  simpa using hown5
def codeO (ks bs:List UInt8):Int:=if bs.length < 8 then 4 else if (leW (bs.drop (bs.length - 8)):Int)=sumF ks (bs.take (bs.length - 8)) then 0 else 50
def outO (ks bs:List UInt8):List UInt8:=if codeO ks bs=0 then bs.take (bs.length - 8) else []
def OpenAll (w:World) (ks bs:List UInt8) (e:Ending) (w':World):Prop :=
 Below w.heap.size w w'∧∃ A n c,e=.returned (.tuple #[.slice A n c,.int .i64 (codeO ks bs)])∧Zaj w' w'.heap.size 1 A n (bsV (outO ks bs))∧n≤c∧c≤maxLen
set_option maxRecDepth 100000 in
theorem ref_open_all (ks bs:List UInt8) (hk:ks.length=16) (A:Option Addr) (n c:Nat) (w:World) (h:Zaj w w.heap.size 1 A n (bsV bs)) (hn:n≤c) (hc:c≤maxLen) (hlen:n≤1000000) :
  Calls Tryz.prog 84 #[.agg (bsV ks).toArray,.slice A n c] w fun e w'=>OpenAll w ks bs e w':=by
 have hb:bs.length=n:=by have:=h.1; simpa using this
 by_cases h8:n < 8
 ·refine (ref_open_short ks bs A n c w h8).mono ?_
  rintro e w' ⟨rfl,hbe⟩
  refine ⟨hbe,none,0,0,?_,?_,by omega,by simp [maxLen]⟩
  · rw [codeO,hb,if_pos h8]
  ·rw [outO,codeO,hb,if_pos h8,if_neg (by omega)]
   exact ⟨by simp,fun h=>by omega⟩
 ·obtain ⟨m,rfl⟩ :∃m,n=m+8:=⟨n - 8,by omega⟩
  have hm:bs.length - 8=m:=by omega
  refine (Zc7 ks bs hk A m c w h hn hc (by omega) _ rfl).mono ?_
  rintro e w' ⟨hbe,hp⟩
  refine ⟨hbe,?_⟩
  by_cases hq:(leW (bs.drop m):Int)=sumF ks (bs.take m)
  ·rw [decide_eq_true hq] at hp
   obtain ⟨v,rfl,ho⟩:=hp
   obtain ⟨A',c',rfl,hc',hm'⟩:=Zac ho
   have hcode:codeO ks bs=0:=by rw [codeO,if_neg (by omega),hm,if_pos hq]
   have hout:outO ks bs=bs.take m:=by rw [outO,hcode,if_pos rfl,hm]
   refine ⟨A',m,c',?_,?_,hc',hm'⟩
   · rw [hcode]
   ·rw [hout]
    exact Zaj.of_own ho
  ·rw [decide_eq_false hq] at hp
   obtain rfl:=hp
   have hcode:codeO ks bs=50:=by rw [codeO,if_neg (by omega),hm,if_neg hq]
   have hout:outO ks bs=[]:=by rw [outO,hcode]; rfl
   refine ⟨none,0,0,?_,?_,by omega,by simp [maxLen]⟩
   · rw [hcode]
   ·rw [hout]
    exact ⟨by simp,fun h=>by omega⟩
def outJ (d:List UInt8) (j:Nat):List UInt8:=d.take j++List.replicate (16 - j) 0
theorem outJ_len (d:List UInt8) (hd:d.length=16) (j:Nat) (hj:j≤16):(outJ d j).length=16:=by simp [outJ,hd]; omega
theorem outJ_step (d:List UInt8) (hd:d.length=16) (j:Nat) (b:UInt8) (hb:d[j]?=some b) (hj:j < 16):(outJ d j).set j b=outJ d (j+1):=by
 unfold outJ
 have h1:(d.take j).length=j:=by simp [hd]; omega
 rw [List.set_append_right _ _ (by omega),h1,Nat.sub_self,List.take_add_one,hb]
 obtain ⟨m,hm⟩ :∃m,16 - j=m+1:=⟨16 - j - 1,by omega⟩
 rw [hm,List.replicate_succ,List.set_cons_zero,show 16 - (j+1)=m from by omega]
 simp
theorem der_at (ks label:List UInt8) (x y:Int) (k i:Nat) (hk:k < 2) (hi:i < 8) (b:UInt8) (hb:(Zfa ks label x y k)[i]?=some b):(derF ks label x y)[8*k+i]?=some b:=by
 have h:k=0∨k=1:=by omega
 unfold derF
 rcases h with rfl | rfl
 ·rw [List.getElem?_append_left (by rw [Zca]; omega)]
  simpa using hb
 ·rw [List.getElem?_append_right (by rw [Zca]; omega),Zca]
  simpa using hb
set_option maxRecDepth 100000 in
set_option maxHeartbeats 4000000 in
theorem ref_derive_any (w:World) (ks:List UInt8) (hk:ks.length=16) (s:ByteArray) (hs:s.size≤1000000) (x y:Int) (hx:0≤x) (hy:0≤y) :
  Calls Tryz.prog 104 #[.agg (bsV ks).toArray,.string s,.int .u64 x,.int .u64 y] w
   fun e w'=>e=.returned (.agg (bsV (derF ks s.data.toList x y)).toArray)∧Below w.heap.size w w':=by
 obtain ⟨i0,hi,hz0,hz1,hz2⟩:=info_parts ZcF
 have hKB:=((Blk.new w 46 (bsV ks).toArray).alloc (.cells (bsV (outJ (derF ks s.data.toList x y) 0)).toArray 46)).alloc (.cells (bsV (outJ (derF ks s.data.toList x y) 0)).toArray 46)
 have hRB:=(Blk.new (w.alloc (.cells (bsV ks).toArray 46)) 46 (bsV (outJ (derF ks s.data.toList x y) 0)).toArray).alloc (.cells (bsV (outJ (derF ks s.data.toList x y) 0)).toArray 46)
 have hOB:=Blk.new ((w.alloc (.cells (bsV ks).toArray 46)).alloc (.cells (bsV (outJ (derF ks s.data.toList x y) 0)).toArray 46)) 46 (bsV (outJ (derF ks s.data.toList x y) 0)).toArray
 have hB0:=(((Below.refl w.heap.size w).alloc (Nat.le_refl _) (.cells (bsV ks).toArray 46)).alloc (by rw [Zae]; omega) (.cells (bsV (outJ (derF ks s.data.toList x y) 0)).toArray 46)).alloc (by rw [Zae,Zae]; omega) (.cells (bsV (outJ (derF ks s.data.toList x y) 0)).toArray 46)
 have hz:(bsV (outJ (derF ks s.data.toList x y) 0)).toArray=#[.int .u8 0,.int .u8 0,.int .u8 0,.int .u8 0,.int .u8 0,.int .u8 0,.int .u8 0,.int .u8 0,.int .u8 0,.int .u8 0,.int .u8 0,.int .u8 0,.int .u8 0,.int .u8 0,.int .u8 0,.int .u8 0]:=by simp [outJ,bsV,List.replicate]
 rw [hz] at hKB hRB hOB hB0
 have hss:s.size=s.data.toList.length:=by rw [Array.length_toList]; rfl
 rw [Zae] at hRB
 rw [Zae,Zae] at hOB
 have HSS:=Lib.hid hss
 have HZ:=Lib.hid hz
 have HKB:=jd hKB
 have HRB:=jd hRB
 have HOB:=jd hOB
 have HB0:=jd hB0
 have HK:=jd hk
 clear hKB hRB hOB hB0 hk hss hz
 go_enter Tryz.func104,Tryz.ntmps104
 go_wp2_with (first
  |(refine Zdj _ (.tmp 15) 9 22 5 s rfl rfl rfl Tryz.underlying9 Tryz.underlying22 Tryz.underlying5 (w.heap.size+3) (by simp) (by unfold maxLen; omega) ?_
    intro v1 w1 ho1 hb1
    have HO1:=jd ho1
    have HB1:=jd hb1
    have hsz1:w.heap.size+3≤w1.heap.size:=(by have:=hb1.size; simpa using this)
    clear ho1 hb1)
  |(at_builtin; refine Zcp w1 (.tmp 16) (.tmp 17) 22 v1 (.int .u8 0) rfl rfl rfl rfl (w.heap.size+3) 5 i0 (.int .u8 0) 1 Tryz.underlying22 hi hz0 hz1 hz2 rfl s.size _ (uh HO1) rfl (by unfold maxLen; omega) (by omega) hsz1 ?_
    intro v2 w2 ho2 _ hb2
    have HO2:=jd ho2
    have HB2:=jd hb2
    have hsz2:w.heap.size+3≤w2.heap.size:=(by have:=hb2.size; omega)
    clear ho2 hb2)
  | fail)
 refine (ZdE x hx w2).mono ?_
 rintro e w3 ⟨vx,rfl,ho3,hb3⟩
 obtain ⟨ax,cx,rfl,hcx,hmx⟩:=Zac ho3
 have HR3:=jd (Zaj.of_own ho3)
 have HO3:=jd ((uh HO2).old hb3)
 have HB3:=jd hb3
 have hsz3:w.heap.size+3≤w3.heap.size:=(by have:=hb3.size; omega)
 clear ho3 hb3
 go_wp2_with (first
  |(at_builtin; refine Zbq w3 (.tmp 18) (.tmp 20) 22 v2 ax 8 cx rfl rfl rfl rfl (w.heap.size+3) 5 i0 (.int .u8 0) 1 1 Tryz.underlying22 hi hz0 hz1 hz2 rfl (by omega) (s.size+1) _ (uh HO3) w3.heap.size _ (uh HR3) (ZaL _) (by unfold maxLen; omega) (by omega) hsz3 ?_
    intro v4 w4 ho4 _ hb4 _
    have HO4:=jd ho4
    have HB4:=jd hb4
    have hsz4:w.heap.size+3≤w4.heap.size:=(by have:=hb4.size; omega)
    clear ho4 hb4)
  | fail)
 refine (ZdE y hy w4).mono ?_
 rintro e w5 ⟨vy,rfl,ho5,hb5⟩
 obtain ⟨ay,cy,rfl,hcy,hmy⟩:=Zac ho5
 have HR5:=jd (Zaj.of_own ho5)
 have HO5:=jd ((uh HO4).old hb5)
 have HB5:=jd hb5
 have hsz5:w.heap.size+3≤w5.heap.size:=(by have:=hb5.size; omega)
 clear ho5 hb5
 go_wp2_with (first
  |(at_builtin; refine Zbq w5 (.tmp 21) (.tmp 23) 22 v4 ay 8 cy rfl rfl rfl rfl (w.heap.size+3) 5 i0 (.int .u8 0) 1 1 Tryz.underlying22 hi hz0 hz1 hz2 rfl (by omega) (s.size+1+8) _ (uh HO5) w5.heap.size _ (uh HR5) (ZaL _) (by unfold maxLen; omega) (by omega) hsz5 ?_
    intro v6 w6 ho6 _ hb6 _
    have HO6:=jd ho6
    have HB6:=jd hb6
    have hsz6:w.heap.size+3≤w6.heap.size:=(by have:=hb6.size; omega)
    clear ho6 hb6)
  | fail)
 have hbel:=(((((by simpa using uh HB1:Below (w.heap.size+3) _ w1).trans (uh HB2)).trans ((uh HB3).mono hsz2)).trans (uh HB4)).trans ((uh HB5).mono hsz4)).trans (uh HB6)
 have htext:(s.data.toList.map fun b=>Value.int .u8 (b.toNat:Int))++[.int .u8 0]++bsV (leB x 8)++bsV (leB y 8)=bsV (Zed s.data.toList x y):=by simp [Zed,bsV]
 have ho6:=uh HO6
 rw [htext] at ho6
 have HO7:=jd ho6
 have hkb6:=(uh HKB).below hbel (by omega)
 have hrb6:=(uh HRB).below hbel (by omega)
 have hob6:=(uh HOB).below hbel (by omega)
 have he6:=(uh HB0).trans (hbel.mono (by omega))
 rw [← HZ.out] at hob6 hrb6
 have HKB6:=jd hkb6
 have HRB6:=jd hrb6
 have HOB6:=jd hob6
 have HE6:=jd he6
 clear ho6 htext hbel hkb6 hrb6 hob6 he6
 obtain ⟨a6,c6,rfl,hc6,hm6⟩:=(uh HO7).slice_
 have HR6:=jd (uh HO7).reads
 go_loopw [11] (fun i wr=>∃ k:Nat,k≤2∧i=.int .i64 k∧Blk wr (w.heap.size+1+1) 46 (bsV (outJ (derF ks s.data.toList x y) (8*k))).toArray∧w6.grownBy wr (some (w.heap.size+1+1)))
  (fun i _=>2 - (intOf i).toNat)
 case atStart=>exact ⟨0,by omega,rfl,uh HOB6,World.grownBy.refl _ _⟩
 case round =>
  obtain ⟨k,hk2,rfl,hob,hg⟩:=hrel
  have hszr:=hg.size
  by_cases hlt:k < 2
  ·have hk7:=(uh HKB6).gb hg
   have ho7:=(uh HO7).kept hg (.inr (fun e=>by have h:=(uh HO7).ge_ _ e; omega))
   have hr7:=ho7.reads
   have hlow:=hob.lt
   have HK7:=jd hk7
   have HR7:=jd hr7
   have HOB7:=jd hob
   have HG7:=jd hg
   have HN7:=jd (Own.nil_ wr wr.heap.size 5 1)
   have hlk:w.heap.size < wr.heap.size:=hk7.lt
   have hwk:IntKind.u8.wrap (k:Int)=(k:Int):=by rw [IntKind.wrap_u8']; omega
   have hsk:s.size+1+8+8+1≤1000018:=by omega
   clear hk7 ho7 hr7 hob hg
   go_wp2_with (first
     |(at_builtin; refine Zbq wr (.const (.slice none 0 0)) (.tmp 29) 22 (.slice none 0 0) a6 (s.size+1+8+8) c6 rfl rfl rfl rfl wr.heap.size 5 i0 (.int .u8 0) 1 1 Tryz.underlying22 hi hz0 hz1 hz2 rfl (by omega) 0 [] (uh HN7) wr.heap.size _ (uh HR7) (ZaL _) (by unfold maxLen; omega) (by omega) (Nat.le_refl _) ?_
       intro v8 w8 ho8 _ hb8 _
       have HO8:=jd ho8
       have HB8:=jd hb8
       have hsz8:wr.heap.size≤w8.heap.size:=hb8.size
       clear ho8 hb8)
     |(at_builtin; refine Zcp w8 (.tmp 30) (.tmp 33) 22 v8 (.int .u8 (k:Int)) rfl rfl rfl rfl wr.heap.size 5 i0 (.int .u8 0) 1 Tryz.underlying22 hi hz0 hz1 hz2 rfl (0+(s.size+1+8+8)) _ (uh HO8) rfl (by unfold maxLen; omega) (by omega) hsz8 ?_
       intro v9 w9 ho9 _ hb9
       have hb9':=(uh HB8).trans hb9
       have HK9:=jd ((uh HK7).below hb9' hlk)
       have HB9:=jd hb9'
       have hsz9:wr.heap.size≤w9.heap.size:=hb9'.size
       have e9:[]++bsV (Zed s.data.toList x y)++[.int .u8 (k:Int)]=bsV (Zed s.data.toList x y++[UInt8.ofNat k]):=(by simp [bsV]; omega)
       rw [e9,Nat.zero_add] at ho9
       have HO9:=jd ho9
       obtain ⟨a9,c9,rfl,hc9,hm9⟩:=ho9.slice_
       clear ho9 hb9 hb9' e9)
     | (refine wpList_load_row rfl 46 _ rfl w.heap.size rfl 46 _ _ _ (uh HK9) Tryz.underlying46 rfl (Zbo (uh HK)) ?_)
     | fail)
   refine (Zde ks (Zed s.data.toList x y++[UInt8.ofNat k]) (uh HK) a9 (s.size+1+8+8+1) c9 w9 (uh HO9).reads hc9 hm9).mono ?_
   rintro e w10 ⟨rfl,hb10⟩
   have hb10':=(uh HB9).trans (hb10.mono hsz9)
   have HB10:=jd hb10'
   have hsz10:wr.heap.size≤w10.heap.size:=hb10'.size
   clear hb10 hb10'
   go_wp2_with fail
   refine (ZdE (sumF ks (Zed s.data.toList x y++[UInt8.ofNat k])) (Zcd _ _) w10).mono ?_
   rintro e w11 ⟨v11,rfl,ho11,hb11⟩
   obtain ⟨A11,c11,rfl,hc11,hm11⟩:=Zac ho11
   have hr11:=Zaj.of_own ho11
   obtain ⟨ad,rfl,hadl,hcell⟩:=hr11.2 (by omega)
   have hadg:w10.heap.size≤ad.block:=Zaw ho11 _ rfl
   have HC11:=jd hcell
   have hb11':=(uh HB10).trans (hb11.mono hsz10)
   have HB11:=jd hb11'
   have HOB11:=jd ((uh HOB7).below hb11' hlow)
   have hsz11:wr.heap.size≤w11.heap.size:=hb11'.size
   clear hb11 hb11' ho11 hr11 hcell
   go_wp2_with fail
   obtain ⟨wo,hwo⟩ :∃wo:World,wo=wr:=⟨_,rfl⟩
   have HWO:=Lib.hid hwo
   clear hwo
   go_loopw [40] (fun i wx=>∃ j:Nat,j≤8∧i=.int .i64 j∧Blk wx (w.heap.size+1+1) 46 (bsV (outJ (derF ks s.data.toList x y) (8*k+j))).toArray∧w11.grownBy wx (some (w.heap.size+1+1)))
     (fun i _=>8 - (intOf i).toNat)
   case atStart=>exact ⟨0,by omega,rfl,uh HOB11,World.grownBy.refl _ _⟩
   case round =>
     obtain ⟨j,hj,rfl,hob,hgx⟩:=hrel
     by_cases hjl:j < 8
     ·obtain ⟨b,hb⟩ :∃b,(Zfa ks s.data.toList x y k)[j]?=some b:=⟨_,List.getElem?_eq_getElem (by rw [Zca]; exact hjl)⟩
      have hbc:wr.cell? (ad.add j)=some (.int .u8 (b.toNat:Int)):=by
        have h1:=uh HC11 j (.int .u8 (b.toNat:Int)) (by
         show (bsV (Zfa ks s.data.toList x y k))[j]?=_
         rw [bsV,List.getElem?_map,hb]; rfl)
        rw [← h1]
        exact World.cell?_of_block (hgx.block _ (by rw [Za1]; exact hadl) (by rw [Za1]; intro e; injection e with e; omega))
      have hlen:=outJ_len (derF ks s.data.toList x y) (ZbK _ _ _ _) (8*k+j) (by omega)
      obtain ⟨u,hu⟩ :∃u,wr.cell? ⟨w.heap.size+1+1,8*k+j,none⟩=some u:=by
        rw [hob.cell]
        exact ⟨_,Array.getElem?_eq_getElem (by simp [hlen]; omega)⟩
      have hf:=hob.frozen (8*k+j)
      have hstep:=outJ_step (derF ks s.data.toList x y) (ZbK _ _ _ _) (8*k+j) b (der_at _ _ _ _ k j hlt hjl b hb) (by omega)
      have HOB12:=jd (hob.set_ (8*k+j) (.int .u8 (b.toNat:Int)))
      have HST:=Lib.hid hstep
      have HG12:=jd (ZaC (p:=⟨w.heap.size+1+1,8*k+j,none⟩) hgx (.inl rfl) (.int .u8 (b.toNat:Int)))
      clear hb hob hgx hstep hlen
      go_wp2_with fail
      go_roundw
      case rel =>
        refine ⟨j+1,by omega,by go_num,?_,uh HG12⟩
        have h1:=uh HOB12
        have e:(bsV (outJ (derF ks s.data.toList x y) (8*k+j))).toArray.setIfInBounds (8*k+j) (.int .u8 (b.toNat:Int))=(bsV (outJ (derF ks s.data.toList x y) (8*k+(j+1)))).toArray:=by
         rw [← Nat.add_assoc,← HST.out]
         simp [bsV,List.map_set]
        rw [e] at h1
        exact h1
      case measure=>simp [intOf]; omega
     ·obtain rfl:j=8:=by omega
      rw [show ((8:Nat):Int)=8 from rfl]
      have HOB13:=jd hob
      have HG13:=jd ((World.grownBy.trans (uh HG7) (HWO.out ▸ Zah (HWO.out ▸ (uh HB11).mono (Nat.le_refl _)) _)).trans hgx)
      clear hob hgx
      go_wp2_with fail
      go_roundw
      case rel=>exact ⟨k+1,by omega,by go_num,uh HOB13,uh HG13⟩
      case measure=>simp [intOf]; omega
  ·obtain rfl:k=2:=by omega
   have e16:outJ (derF ks s.data.toList x y) (8*2)=derF ks s.data.toList x y:=by
     unfold outJ
     rw [List.take_of_length_le (by rw [ZbK]; omega)]
     simp
   rw [e16] at hob
   have hrb:=(uh HRB6).gb hg
   have HOB2:=jd hob
   have HRB2:=jd hrb
   have hE:Below w.heap.size w wr:=(uh HE6).grown hg (by have:=(uh HE6).size; omega) (fun g e=>by injection e with e; omega)
   have HE:=jd hE
   have hsz16:(Tryz.prog.info? 46).map (·.size)=some (bsV (derF ks s.data.toList x y)).toArray.size:=Zbo (ZbK _ _ _ _)
   have HSZ:=jd hsz16
   clear hob hrb hE hsz16 hg e16
   go_wp2_with (first
     | (refine wpList_load_row rfl 46 _ rfl (w.heap.size+1+1) rfl 46 _ _ _ (uh HOB2) Tryz.underlying46 rfl (uh HSZ) ?_)
     |(refine Zaa rfl 46 (.tmp 8) (.tmp 52) rfl (w.heap.size+1) 46 _ (bsV (derF ks s.data.toList x y)).toArray rfl rfl (uh HRB2) (by simp [ZbK,outJ_len]) (uh HSZ) (by simpa using ZaL (derF ks s.data.toList x y)) ?_
       intro v12 hb12 hg12
       have HB12:=jd hb12
       have HE12:=jd ((uh HE).grown hg12 (by have:=(uh HE).size; omega) (fun g e=>by injection e; omega))
       clear hb12 hg12))
   refine bodyPost_ret (v:=.agg (bsV (derF ks s.data.toList x y)).toArray) ?_ rfl ⟨rfl,uh HE12⟩
   exact Zba rfl _ (w.heap.size+1) 46 _ _ rfl (uh HB12) Tryz.underlying46 rfl (uh HSZ)
set_option maxRecDepth 100000 in
set_option maxHeartbeats 2000000 in
theorem ZaN (w:World) (l:List UInt8) (hl:l.length≤maxLen) (r:Bool) (hr:ZbC l=r) :
  Calls Tryz.prog 62 #[.string ⟨l.toArray⟩] w fun e w'=>e=.returned (.bool r)∧w=w':=by
 by_cases h1:l.length < 1
 ·obtain rfl:false=r:=by rw [← hr]; simp [ZbC]; intro h; omega
  obtain rfl:l=[]:=List.length_eq_zero_iff.1 (by omega)
  clear hr hl h1
  go_enter Tryz.func62,Tryz.ntmps62
  go_wp2_with fail
  go_ret
  exact ⟨rfl,rfl⟩
 ·by_cases h2:16 < l.length
  ·obtain rfl:false=r:=by rw [← hr]; simp [ZbC]; intro h; omega
   clear hr
   unfold maxLen at hl
   have hz:=Zeo l _ hl
   go_enter Tryz.func62,Tryz.ntmps62
   go_wp2_with fail
   go_ret
   exact ⟨rfl,rfl⟩
  ·have hr0:ZbZ (l.drop 0) 0=r:=by rw [← hr]; simp [ZbC,show 1≤l.length by omega,show l.length≤16 by omega]
   have HR:=jd hr0
   clear hr hl
   have hl:l.length≤16:=by omega
   have hl1:0 < l.length:=by omega
   clear h1 h2
   have hz:=Zeo l 16 hl
   rw [Zc9 l 0 hl1] at hr0
   have hn0:((⟨l.toArray⟩:ByteArray)[0]'(by simpa [ByteArray.size] using hl1)).toNat=l[0].toNat:=rfl
   obtain ⟨n0,hq0⟩ :∃n,l[0].toNat=n:=⟨_,rfl⟩
   rw [hq0] at hn0
   unfold okAt at hr0
   rw [hq0] at hr0
   by_cases hlet0:97≤n0∧n0≤122
   ·have HQ:=jd hq0
    have HLET:=jd hlet0
    obtain ⟨ha0,hb0⟩:=hlet0
    clear hr0 hq0
    go_enter Tryz.func62,Tryz.ntmps62
    go_wp2_with fail
    clear hn0 ha0 hb0
    go_loop [3] (fun i=>∃ k:Nat,k≤l.length∧i=.int .i64 k∧ZbZ (l.drop k) k=r) (fun i=>20 - (intOf i).toNat)
    case atStart=>exact ⟨0,by omega,rfl,uh HR⟩
    case round =>
     obtain ⟨k,hk,rfl,hrk⟩:=hrel
     by_cases hlt:k < l.length
     ·rw [Zc9 l k hlt] at hrk
      have hn:((⟨l.toArray⟩:ByteArray)[k]'(by simpa [ByteArray.size] using hlt)).toNat=l[k].toNat:=rfl
      have hn8:l[k].toNat < 256:=UInt8.toNat_lt _
      have hfst:k=0→97≤l[k].toNat∧l[k].toNat≤122:=fun h=>by subst h; rw [uh HQ]; exact uh HLET
      have hcl:l[k].toNat < 45∨l[k].toNat=45∨(45 < l[k].toNat∧l[k].toNat < 48)∨(48≤l[k].toNat∧l[k].toNat≤57)∨(57 < l[k].toNat∧l[k].toNat < 97)∨(97≤l[k].toNat∧l[k].toNat≤122)∨122 < l[k].toNat:=by omega
      unfold okAt at hrk
      generalize l[k].toNat=n at hrk hn hn8 hcl hfst
      by_cases hlet:97≤n∧n≤122
      ·have hrest:ZbZ (l.drop (k+1)) (k+1)=r:=by rw [← hrk]; simp [hlet]
       have HREST:=jd hrest
       obtain ⟨ha,hb⟩:=hlet
       clear hrk hrest hcl hfst
       go_wp2_with fail
       go_round
       case rel=>exact ⟨k+1,by omega,by go_num,uh HREST⟩
       case measure=>simp [intOf]; omega
      ·have hk0:k≠0:=fun h=>hlet (hfst h)
       clear hfst
       by_cases hoth:(48≤n∧n≤57)∨n=45
       ·have hrest:ZbZ (l.drop (k+1)) (k+1)=r:=by rw [← hrk]; simp [hlet,hoth,hk0]
        have HREST:=jd hrest
        clear hrk hrest hcl hk0
        rcases hoth with ⟨ha,hb⟩ | rfl
        all_goals
         go_wp2_with fail
         go_round
         case rel=>exact ⟨k+1,by omega,by go_num,uh HREST⟩
         case measure=>simp [intOf]; omega
       ·obtain rfl:false=r:=by rw [← hrk]; simp [hlet,hoth]
        clear hrk hk0
        have hn45:((n:Int)==45)=false:=by simp; omega
        rcases hcl with hcl | rfl | ⟨ha,hb⟩ | ⟨ha,hb⟩ | ⟨ha,hb⟩ | ⟨ha,hb⟩ | hcl
        all_goals first | omega | skip
        all_goals first | (have hd1:decide ((n:Int)≤57)=true:=by simp; omega) | (have hd1:decide ((n:Int)≤57)=false:=by simp; omega) | skip
        all_goals first | (have hd2:decide ((n:Int)≤122)=true:=by simp; omega) | (have hd2:decide ((n:Int)≤122)=false:=by simp; omega) | skip
        all_goals
         clear hlet hoth
         go_wp2_with fail
         go_ret
         exact ⟨rfl,rfl⟩
     ·obtain rfl:k=l.length:=by omega
      rw [List.drop_length] at hrk
      obtain rfl:true=r:=hrk
      go_wp2_with fail
      go_ret
      exact ⟨rfl,rfl⟩
   ·obtain rfl:false=r:=by rw [← hr0]; simp [hlet0]
    have h97:n0 < 97∨(97≤n0∧122 < n0):=by omega
    clear hr0 hq0 hlet0
    rcases h97 with h | ⟨ha,h⟩
    all_goals
     go_enter Tryz.func62,Tryz.ntmps62
     go_wp2_with fail
     go_ret
     exact ⟨rfl,rfl⟩
end Go.Proofs.YtfbkkmnkpjgciaaGreat
