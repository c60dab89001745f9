/- Joined of SSum SSeal SJoin SDerive SPiece. No condition. -/
import Derived.Test.YtfbkkmnkpjgciaaGreatPG03
import Derived.Test.YtfbkkmnkpjgciaaGreatPG02
import Derived.Deep.RegionHeld3
import Derived.Deep.RegionLaw
import Derived.IntWalk
import Derived.Test.YtfbkkmnkpjgciaaGreatPG01
import Derived.Great.BuildSlice
namespace Go.Proofs.YtfbkkmnkpjgciaaGreat
open Go.RowKit
def Sip.absorb (s:Sip) (m:Int):Sip :=
 let t:=Sip.run 2 ⟨s.a,s.b,s.c,xor64 s.d m⟩
 ⟨xor64 t.a m,t.b,t.c,t.d⟩
set_option maxHeartbeats 400000 in
theorem add_any (m:Int) (g p:Nat) (s:Sip) (w:World) (hs:Blk w g 148 s.cells) (hp:Blk w p 146 #[.pointer (some ⟨g,0,none⟩)]) :
  Calls Tryz.prog 110 #[.int .u64 m,.pointer (some ⟨p,0,none⟩)] w
   fun e w'=>e=.returned (.tuple #[])∧Blk w' g 148 (s.absorb m).cells∧w.grownBy w' (some g):=by
 have hne:=hs.ne_ hp (by decide)
 obtain ⟨a,b,c,d⟩:=s
 have h1:=(hs.set_ 3 (.int .u64 (xor64 d m)))
 have p1:=hp.far (p:=⟨g,3,none⟩) (fun e=>hne e.symm) (.int .u64 (xor64 d m))
 have g1:=ZaC (p:=⟨g,3,none⟩) (World.grownBy.refl w (some g)) (.inl rfl) (.int .u64 (xor64 d m))
 have c3:=hs.cell 3
 have f3:=hs.frozen 3
 have cp:=hp.cell 0
 have cp1:=p1.cell 0
 simp only [Sip.cells,List.getElem?_toArray,List.getElem?_cons_zero,List.getElem?_cons_succ] at c3 cp cp1
 have H1:=jd h1
 have P1:=jd p1
 have G1:=jd g1
 have HN:=jd hne
 clear h1 p1 g1 hs hp hne
 go_enter Tryz.func110,Tryz.ntmps110
 go_wp2_with fail
 refine (rounds_any g 2 ⟨a,b,c,xor64 d m⟩ _ (by omega) (uh H1)).mono ?_
 rintro e w1 ⟨rfl,hb,hg⟩
 have hg':=(uh P1).grown hg (by simpa using fun e=>(uh HN) e.symm)
 generalize hT:Sip.run 2 ⟨a,b,c,xor64 d m⟩=T at hb
 have HT:=Lib.hid hT
 clear hT
 obtain ⟨a',b',c',d'⟩:=T
 have q0:=hg'.cell 0
 have q1:=hb.cell 0
 have q2:=hb.frozen 0
 simp only [Sip.cells,List.getElem?_toArray,List.getElem?_cons_zero] at q0 q1
 have HB:=jd (hb.set_ 0 (.int .u64 (xor64 a' m)))
 have G2:=jd (ZaC (p:=⟨g,0,none⟩) (World.grownBy.trans (uh G1) hg) (.inl rfl) (.int .u64 (xor64 a' m)))
 clear hg hg' hb
 go_wp2_with fail
 go_end0
 exact ⟨rfl,by simp only [Sip.absorb,HT.out]; exact uh HB,uh G2⟩
def Sip.feed (s:Sip) (bs:List UInt8):Nat→Sip
 | 0=>s
 | i+1=>(Sip.feed s bs i).absorb (leW ((bs.drop (8*i)).take 8):Int)
def Sip.start (ks:List UInt8):Sip :=
 ⟨xor64 (leW (ks.take 8):Int) 8317987319222330741,xor64 (leW (ks.drop 8):Int) 7237128888997146477,xor64 (leW (ks.take 8):Int) 7816392313619706465,xor64 (leW (ks.drop 8):Int) 8387220255154660723⟩
def lastW (bs:List UInt8):Int:=((bs.length % 256*2 ^ 56 ||| leW (bs.drop (8*(bs.length / 8))):Nat):Int)
theorem leW_lt64 (l:List UInt8) (h:l.length≤8):leW l < 18446744073709551616:=by
 have h1:=leW_lt l
 have h2:256 ^ l.length≤256 ^ 8:=pow_le _ _ h
 have h3:(256:Nat) ^ 8=18446744073709551616:=rfl
 omega
theorem lastW_eq (bs:List UInt8) (n i:Nat) (hn:bs.length=n) (hi:i=n / 8) :
  bits .or .u64 ((n:Int) % 256*72057594037927936) (leW (bs.drop (8*i)):Int)=lastW bs:=by
 subst hi hn
 have h:=leW_lt64 (bs.drop (8*(bs.length / 8))) (by rw [List.length_drop]; omega)
 have e:((bs.length:Int) % 256*72057594037927936)=((bs.length % 256*72057594037927936:Nat):Int):=by omega
 rw [e,or_u64 _ _ (by omega) h]
 rfl
def Sip.fin (s:Sip):Int :=
 let t:=Sip.run 4 ⟨s.a,s.b,xor64 s.c 255,s.d⟩
 xor64 (xor64 (xor64 t.a t.b) t.c) t.d
def sumF (ks bs:List UInt8):Int:=(((Sip.start ks).feed bs (bs.length / 8)).absorb (lastW bs)).fin
set_option maxHeartbeats 400000 in
theorem sum_any (ks bs:List UInt8) (hk:ks.length=16) (A:Option Addr) (n c:Nat) (w:World) (h:Zaj w w.heap.size 1 A n (bsV bs)) (hn:n≤c) (hc:c≤maxLen) :
  Calls Tryz.prog 97 #[.agg (bsV ks).toArray,.slice A n c] w
   fun e w'=>e=.returned (.int .u64 (sumF ks bs))∧Below w.heap.size w w':=by
 have hlen:bs.length=n:=by have:=h.1; simpa using this
 have HLn:=Lib.hid hlen
 clear hlen
 have hK:=Blk.new w 46 (bsV ks).toArray
 have r1:=Zaj.of_blk hK 0 8 (by simp [hk]) (Nat.lt_succ_self _)
 have r2:=Zaj.of_blk hK 8 8 (by simp [hk]) (Nat.lt_succ_self _)
 have e1:((bsV ks).drop 0).take 8=bsV (ks.take 8):=by simp [bsV,List.map_take]
 have e2:((bsV ks).drop 8).take 8=bsV (ks.drop 8):=by
  rw [List.take_of_length_le (by simp [hk])]; simp [bsV,List.map_drop]
 rw [e1] at r1
 rw [e2] at r2
 clear e1 e2
 have k1:=fun m=>ZeX _ 8 16 _ ((w.alloc (.cells (bsV ks).toArray 46)).drewN m) _ (r1.drewN m) (by omega)
 have k2:=fun m=>ZeX _ 8 8 _ ((w.alloc (.cells (bsV ks).toArray 46)).drewN m) _ (r2.drewN m) (by omega)
 have HK:=jd hK
 have K1:=jd k1
 have K2:=jd k2
 have HL:=jd hk
 clear hK r1 r2 k1 k2 hk
 go_enter Tryz.func97,Tryz.ntmps97
 go_wp2_with fail
 go_quiet (first | (go_at_call 109; with_reducible exact ZdF ((uh K1) _)) | (go_at_call 109; with_reducible exact ZdF ((uh K2) _)))
 go_wp2_with fail
 go_loopw [1] (fun x wr=>∃ (i m c':Nat) (A':Option Addr),Hid (n=8*i+m)∧m≤c'∧c'≤maxLen∧x=.slice A' m c'∧Zaj wr w.heap.size 1 A' m (bsV (bs.drop (8*i))) ∧
   Blk wr (w.heap.size+1) 148 ((Sip.start ks).feed bs i).cells∧Blk wr (w.heap.size+1+1) 146 #[.pointer (some ⟨w.heap.size+1,0,none⟩)]∧Below w.heap.size w wr)
  (fun x _=>sliceLen x)
 case atStart =>
  refine ⟨0,n,c,A,Lib.hid (by omega),hn,hc,rfl,?_,?_,?_,?_⟩
  · exact (((h.alloc (Nat.le_refl _) _).drewN _).alloc (by rw [World.heap_drewN]; exact ZdD _ _) _).alloc (by rw [Zae,World.heap_drewN]; have:=ZdD w (.cells (bsV ks).toArray 46); omega) _
  · exact (Blk.new' (by rw [World.heap_drewN,Zae])).alloc _
  · exact Blk.new' (by rw [Zae,World.heap_drewN,Zae])
  · exact ((ZaK ((Below.refl _ _).alloc (Nat.le_refl _) _) _).alloc (by rw [World.heap_drewN,Zae]; omega) _).alloc (by rw [Zae,World.heap_drewN,Zae]; omega) _
 case round =>
  obtain ⟨i,m,c',A',HI,hmc,hcm,rfl,hr,hb,hp,hg⟩:=hrel
  by_cases h8:8≤m
  ·have ht:=hr.take h8
   obtain ⟨ad,rfl⟩:=hr.some_ (by omega)
   have hd:=hr.cut (cap:=c') h8 hmc
   have e1:(bsV (bs.drop (8*i))).take 8=bsV ((bs.drop (8*i)).take 8):=by simp [bsV,List.map_take]
   have e2:(bsV (bs.drop (8*i))).drop (8*1)=bsV (bs.drop (8*(i+1))):=by simp [bsV,List.map_drop,List.drop_drop,Nat.mul_add]
   rw [e1] at ht
   rw [e2] at hd
   clear e1 e2
   unfold maxLen at hcm
   have HT:=jd ht
   have HD:=jd hd
   have HB:=jd hb
   have HP:=jd hp
   have HR:=jd hr
   clear ht hd hb hp hr h hn hc
   go_wp2_with fail
   refine (ZeX _ _ _ _ _ _ (uh HT) (by omega)).mono ?_
   rintro e w1 ⟨rfl,rfl⟩
   go_wp2_with fail
   refine (add_any _ _ _ _ _ (uh HB) (uh HP)).mono ?_
   rintro e w1 ⟨rfl,hb1,hg1⟩
   have HB1:=jd hb1
   have HP1:=jd ((uh HP).grown hg1 (by simp))
   have HD1:=jd ((uh HD).grown hg1 hg.size (fun g e=>by injection e; omega))
   have HG1:=jd (hg.grown hg1 hg.size (fun g e=>by injection e; omega))
   clear hb1 hg1 hg
   go_wp2_with fail
   go_roundw
   case rel =>
    refine ⟨i+1,m - 8,c' - 8,_,Lib.hid (by have:=HI.out; omega),by omega,by unfold maxLen; omega,?_,uh HD1,?_,uh HP1,uh HG1⟩
    · split<;>rfl
    · exact uh HB1
   case measure=>simp [sliceLen]; omega
  ·have h0:=add_any (bits .or .u64 ((n:Int) % 256*72057594037927936) (leW (bs.drop (8*i)):Int)) _ _ _ _ hb hp
   have HR:=jd hr
   have HP:=jd hp
   have H0:=jd h0
   clear h0 hr hb hp h hn hc
   have hm:m≤8:=by omega
   go_wp2_with fail
   refine (ZeX _ _ _ _ _ _ (uh HR) hm).mono ?_
   rintro e w1 ⟨rfl,rfl⟩
   go_wp2_with fail
   refine (uh H0).mono ?_
   rintro e w1 ⟨rfl,hb1,hg1⟩
   have hp1:=(uh HP).grown hg1 (by simp)
   have hl1:=hg.grown hg1 hg.size (fun g e=>by injection e; omega)
   generalize hT:Sip.absorb ((Sip.start ks).feed bs i) (bits .or .u64 ((n:Int) % 256*72057594037927936) (leW (bs.drop (8*i)):Int))=T at hb1
   have HT:=Lib.hid hT
   clear hT hg hg1
   obtain ⟨a,b,cc,d⟩:=T
   have q0:=hp1.cell 0
   have q1:=hb1.cell 2
   have q2:=hb1.frozen 2
   simp only [Sip.cells,List.getElem?_toArray,List.getElem?_cons_zero,List.getElem?_cons_succ] at q0 q1
   have hp2:=hp1.far (p:=⟨w.heap.size+1,2,none⟩) (by simp) (.int .u64 (xor64 cc 255))
   have q3:=hp2.cell 0
   simp only [List.getElem?_toArray,List.getElem?_cons_zero] at q3
   have HP2:=jd hp2
   have HR4:=jd (rounds_any (w.heap.size+1) 4 ⟨a,b,xor64 cc 255,d⟩ _ (by omega) (hb1.set_ 2 (.int .u64 (xor64 cc 255))))
   have HL2:=jd (hl1.setCell (p:=⟨w.heap.size+1,2,none⟩) (by simp) (.int .u64 (xor64 cc 255)))
   clear hp1 hl1 hb1 hp2
   go_wp2_with fail
   refine (uh HR4).mono ?_
   rintro e w2 ⟨rfl,hb2,hg2⟩
   have hp3:=(uh HP2).grown hg2 (by simp)
   have HG3:=jd ((uh HL2).grown hg2 (uh HL2).size (fun g e=>by injection e; omega))
   generalize hT2:Sip.run 4 ⟨a,b,xor64 cc 255,d⟩=T2 at hb2
   have HT2:=Lib.hid hT2
   clear hT2 hg2
   obtain ⟨a2,b2,c2,d2⟩:=T2
   have z:=hp3.cell 0
   have z0:=hb2.cell 0
   have z1:=hb2.cell 1
   have z2:=hb2.cell 2
   have z3:=hb2.cell 3
   simp only [Sip.cells,List.getElem?_toArray,List.getElem?_cons_zero,List.getElem?_cons_succ] at z z0 z1 z2 z3
   clear hp3 hb2
   go_wp2_with fail
   go_quiet (fail)
   go_wp2_with fail
   go_ret
   refine ⟨?_,ZaK (uh HG3) _⟩
   have hi:i=n / 8:=by have:=HI.out; omega
   have e1:sumF ks bs=xor64 (xor64 (xor64 a2 b2) c2) d2:=by
    unfold sumF
    rw [← lastW_eq bs n i HLn.out hi,HLn.out,← hi,HT.out]
    simp only [Sip.fin,HT2.out]
   rw [e1]
   rfl
theorem ZdB {w:World} {b:Nat} {t:TypeId} {cs:List Value} (h:Blk w b t cs.toArray):w.rangeAt b 0 cs:=fun j v hv=>by
 rw [h.cell]; simpa using hv
theorem ZaY {N:Nat} {w0:World} {b:Nat} {cs:List Value} {w w':World} {B:Nat} (h:Below N w0 w∧w.rangeAt b 0 cs) (hb:Below B w w') (hB:N≤B) (hbN:b < N):Below N w0 w'∧w'.rangeAt b 0 cs :=
 ⟨h.1.trans (hb.mono hB),fun j v hv=>(hb.cell (p:=⟨b,0+j,none⟩) (Nat.lt_of_lt_of_le hbN hB)).trans (h.2 j v hv)⟩
theorem ZeE {N:Nat} {w0:World} {b:Nat} {cs:List Value} {w:World} (h:Below N w0 w∧w.rangeAt b 0 cs) (hbN:b < N) (hN:N≤w0.heap.size) (o:Obj):Below N w0 (w.alloc o)∧(w.alloc o).rangeAt b 0 cs :=
 ZaY (B:=w.heap.size) h ((Below.refl _ _).alloc (Nat.le_refl _) o) (Nat.le_trans hN h.1.size) hbN
theorem madeCells_size (z:Array Value) (n:Nat) (h:z.size=1):(madeCells z n).size=n:=by
 simp [madeCells,h]
theorem Zak {w:World} {base base':Nat} {e:TypeId} {size n:Nat} {v:Value} {xs:List Value} (h:w.ownsRow base e size v n xs) (hb:base'≤base):w.ownsRow base' e size v n xs:=by
 refine ⟨h.1,?_⟩
 rcases h.2 with h2 | ⟨g,cap,cur,h2,h3,h4⟩
 · exact .inl h2
 · exact .inr ⟨g,cap,cur,h2,Nat.le_trans hb h3,h4⟩
theorem rotl_nonneg (x:Int) (k:Nat):0≤rotl x k:=by
 unfold rotl; rw [show ∀ a b,bits .or .u64 a b=IntKind.u64.wrap _ from fun _ _=>rfl,IntKind.wrap_u64]; omega
theorem xor64_nonneg (x y:Int):0≤xor64 x y:=by
 rw [show xor64 x y=IntKind.u64.wrap _ from rfl,IntKind.wrap_u64]; omega
theorem Zcd (ks bs:List UInt8):0≤sumF ks bs:=xor64_nonneg _ _
set_option maxRecDepth 100000 in
set_option maxHeartbeats 2000000 in
theorem seal_any (ks bs:List UInt8) (hk:ks.length=16) (A:Option Addr) (n c:Nat) (w:World) (h:Zaj w w.heap.size 1 A n (bsV bs)) (hn:n≤c) (hc:c≤maxLen) (hlen:n≤1000000) :
  Calls Tryz.prog 106 #[.agg (bsV ks).toArray,.slice A n c] w
   fun e w'=>∃ v,e=.returned v∧w'.ownsRow w.heap.size 5 1 v (n+8) (bsV bs++bsV (leB (sumF ks bs) 8))∧Below w.heap.size w w':=by
 obtain ⟨i0,hi,hz0,hz1,hz2⟩:=info_parts ZcF
 have hmk:∀ W:World,(Instr.makeSlice 22 (.int .i64 0) (.int .i64 ((n:Int)+8))).run Tryz.prog W=.ok (.slice (some ⟨W.heap.size,0,none⟩) 0 (n+8)) (W.alloc (.cells (madeCells #[.int .u8 0] (n+8)) 5)):=by
  have:=run_make_rowN (P:=Tryz.prog) 22 5 i0 (.int .u8 0) Tryz.underlying22 hi hz0 .i64 .i64 0 (n+8) (by omega) (by rw [hz2]; omega) (by omega)
  rw [hz1,Nat.mul_one] at this
  simpa [Value.cells] using this
 have hwr:IntKind.i64.wrap ((n:Int)+8)=(n:Int)+8:=IntWalk.i64_in _ (by omega)
 have hKB:=Blk.new w 46 (bsV ks).toArray
 have hS0:Below (w.heap.size+1) (w.alloc (.cells (bsV ks).toArray 46)) (w.alloc (.cells (bsV ks).toArray 46)).drew∧(w.alloc (.cells (bsV ks).toArray 46)).drew.rangeAt w.heap.size 0 (bsV ks) :=
  ⟨(Below.refl _ _).drew,ZdB hKB⟩
 have hu23:=Tryz.underlying46
 have hsz23:(Tryz.prog.info? 46).map (·.size)=some (bsV ks).length:=by
  have e:(bsV ks).length=16:=by simp [hk]
  rw [e]
  exact (by kernel_rfl:(Tryz.prog.info? 46).map (·.size)=some 16)
 have hM:(madeCells #[.int .u8 0] (n+8)).size=(n+8)*1:=by rw [madeCells_size _ _ rfl,Nat.mul_one]
 have hO5:(((w.alloc (.cells (bsV ks).toArray 46)).alloc (.cells (madeCells #[.int .u8 0] (n+8)) 5)).drew).ownsRow (w.heap.size+1) 5 1 (.slice (some ⟨w.heap.size+1,0,none⟩) 0 (n+8)) 0 []:=by
  have:=World.ownsRow_made (base:=w.heap.size+1) (e:=5) (size:=1) (w.alloc (.cells (bsV ks).toArray 46)) (madeCells #[.int .u8 0] (n+8)) (n+8) (by rw [Zae]; exact Nat.le_refl _) (by unfold maxLen; omega) hM
  rw [Zae] at this
  exact this
 have hR0:=(h.alloc (Nat.le_refl _) (.cells (bsV ks).toArray 46))
 have hR5:=(hR0.alloc (by rw [Zae]; omega) (.cells (madeCells #[.int .u8 0] (n+8)) 5)).drew
 have hbel0:=(Below.refl w.heap.size w).alloc (Nat.le_refl _) (.cells (bsV ks).toArray 46)
 have HBEL0:=jd hbel0
 have HO5:=jd hO5
 have HR0:=jd hR0
 have HR5:=jd hR5
 have HK:=jd hk
 clear hKB h hk hO5 hR0 hR5 hM hbel0
 go_enter Tryz.func106,Tryz.ntmps106
 go_wp2_with fail
 go_region_held3 (fun W=>Below (w.heap.size+1) (w.alloc (.cells (bsV ks).toArray 46)) W∧W.rangeAt w.heap.size 0 (bsV ks)) (first | assumption | exact ZeE (by assumption) (Nat.lt_succ_self _) (by simp) _) (first
  |(refine Zb9 _ (.tmp 8) (.tmp 9) 22 (.slice (some ⟨w.heap.size+1,0,none⟩) 0 (n+8)) A n c rfl rfl rfl rfl (w.heap.size+1) 5 i0 (.int .u8 0) 1 Tryz.underlying22 hi hz0 hz1 hz2 rfl 0 [] (uh HO5) w.heap.size (bsV bs) (uh HR5) (ZaL _) (by unfold maxLen; omega) (by omega) (by simp) ?_
    intro v1 w5 hown5 hb5
    have hS5:Below (w.heap.size+1) (w.alloc (.cells (bsV ks).toArray 46)) w5∧w5.rangeAt w.heap.size 0 (bsV ks):=ZaY (by assumption) hb5 (Nat.le_refl _) (Nat.lt_succ_self _)
    have HO6:=jd hown5
    have HR6:=jd (((uh HR0).keep (fun p hp=>hS5.1.cell (by omega))).more (show w.heap.size≤w5.heap.size by have:=hS5.1.size; simp at this; omega))
    clear hown5 hb5)
  |(go_simp; go_at_call 97; refine (sum_any ks bs (uh HK) A n c w5 (uh HR6) hn hc).mono ?_
    rintro e w6 ⟨rfl,hb6⟩
    have hS6:Below (w.heap.size+1) (w.alloc (.cells (bsV ks).toArray 46)) w6∧w6.rangeAt w.heap.size 0 (bsV ks):=ZaY (by assumption) hb6 (by have:=hS5.1.size; simp at this; omega) (Nat.lt_succ_self _)
    have HO7:=jd (Zam (uh HO6) hb6)
    clear hb6)
  |(go_simp; go_at_call 98; refine (Zen (sumF ks bs) (Zcd ks bs) w6).mono ?_
    rintro e w7 ⟨v2,rfl,hown7,hb7⟩
    have hS7:Below (w.heap.size+1) (w.alloc (.cells (bsV ks).toArray 46)) w7∧w7.rangeAt w.heap.size 0 (bsV ks):=ZaY (by assumption) hb7 (by have:=hS6.1.size; simp at this; omega) (Nat.lt_succ_self _)
    have HO8:=jd (Zam (uh HO7) hb7)
    obtain ⟨A2,c2,rfl,hc2,hm2⟩:=Zac hown7
    have HR8:=jd (Zaj.of_own hown7)
    clear hb7 hown7)
  |(refine Zb9 _ (.tmp 10) (.tmp 14) 22 v1 A2 8 c2 rfl rfl rfl rfl (w.heap.size+1) 5 i0 (.int .u8 0) 1 Tryz.underlying22 hi hz0 hz1 hz2 rfl (0+n) ([]++bsV bs) (uh HO8) w7.heap.size (bsV (leB (sumF ks bs) 8)) (uh HR8) (ZaL _) (by unfold maxLen; omega) (by omega) (by have:=hS7.1.size; simp at this; omega) ?_
    intro v3 w8 hown9 hb9
    have hS8:Below (w.heap.size+1) (w.alloc (.cells (bsV ks).toArray 46)) w8∧w8.rangeAt w.heap.size 0 (bsV ks):=ZaY (by assumption) hb9 (Nat.le_refl _) (Nat.lt_succ_self _)
    have HO9:=jd hown9
    clear hb9 hown9))
 have HE:=jd hS8
 clear hS8 hS7 hS6 hS5
 go_wp2_with fail
 go_ret
 refine ⟨v3,rfl,?_,(uh HBEL0).trans ((uh HE).1.mono (by omega))⟩
 have:=uh HO9
 rw [Nat.zero_add,List.nil_append] at this
 exact Zak this (by omega)
def ZcK (w:World) (B:Nat) (V:List Value) (L:List (List UInt8)):Prop :=
 V.length=L.length∧∀ (k:Nat) (l:List UInt8),L[k]?=some l→∃ A m c,V[k]?=some (Value.slice A m c)∧m≤c∧c≤maxLen∧Zaj w B 1 A m (bsV l)
def Zbh (f:UInt8) (L:List (List UInt8)):List UInt8:=f::L.flatten
theorem join_snoc (f:UInt8) (L:List (List UInt8)) (k:Nat) (l:List UInt8) (h:L[k]?=some l):Zbh f (L.take (k+1))=Zbh f (L.take k)++l:=by
 rw [show L.take (k+1)=L.take k++[l] from by rw [List.take_add_one,h]; rfl]
 simp [Zbh]
theorem ZcK.below {w w':World} {B:Nat} {V:List Value} {L:List (List UInt8)} (h:ZcK w B V L) (hb:Below B w w'):ZcK w' B V L :=
 ⟨h.1,fun k l hl=>by
  obtain ⟨A,m,c,h1,h2,h3,h4⟩:=h.2 k l hl
  exact ⟨A,m,c,h1,h2,h3,(h4.keep (fun p hp=>hb.cell hp))⟩⟩
set_option maxRecDepth 100000 in
set_option maxHeartbeats 4000000 in
theorem joined_sx (w:World) (f:UInt8) (A:Option Addr) (n c:Nat) (V:List Value) (L:List (List UInt8)) (B:Nat) (hB:B≤w.heap.size) (hr:Zaj w B 1 A n V) (hp:ZcK w B V L) (hl:L.flatten.length≤1000) (hn:n≤100) :
  Calls Tryz.prog 49 #[.int .u8 (f.toNat:Int),.slice A n c] w
   fun e w'=>∃ v,e=.returned v∧w'.ownsRow w.heap.size 5 1 v (Zbh f L).length (bsV (Zbh f L))∧Below w.heap.size w w':=by
 obtain ⟨i0,hi,hz0,hz1,hz2⟩:=info_parts ZcF
 have hlen:V.length=n:=by have:=hr.1; simpa using this
 have hO:(w.alloc (.cells #[.int .u8 (f.toNat:Int)] 5)).ownsRow w.heap.size 5 1 (.slice (some ⟨w.heap.size,0,none⟩) 1 1) 1 (bsV (Zbh f (L.take 0))) :=
  ⟨by simp [Zbh,bsV],.inr ⟨w.heap.size,1,_,rfl,Nat.le_refl _,Blk.new w _ _,Nat.le_refl _,by simp [maxLen],by simp,by simp [Zbh,bsV]⟩⟩
 have HO:=jd hO
 have HR:=jd hr
 have HP:=jd hp
 have HLn:=Lib.hid hlen
 have HL:=jd hl
 clear hO hr hp hlen hl
 go_enter Tryz.func49,Tryz.ntmps49
 go_wp2_with fail
 go_loopw [5,12] (fun v i wr=>∃ k:Nat,k≤n∧i=.int .i64 k∧wr.ownsRow w.heap.size 5 1 v (Zbh f (L.take k)).length (bsV (Zbh f (L.take k)))∧Below w.heap.size w wr) (fun _ i _=>n - (intOf i).toNat)
 case atStart=>exact ⟨0,by omega,rfl,uh HO,(Below.refl _ _).alloc (Nat.le_refl _) _⟩
 case round =>
  obtain ⟨k,hk,rfl,hown,hg⟩:=hrel
  by_cases hlt:k < n
  ·have hkL:k < L.length:=by have:=(uh HP).1; have:=HLn.out; omega
   have hgl:L[k]?=some L[k]:=List.getElem?_eq_getElem hkL
   obtain ⟨A',m,c',hv,hmc,hcm,hrl⟩:=((uh HP).below (hg.mono hB)).2 k _ hgl
   obtain ⟨l,hL⟩ :∃l,L[k]=l:=⟨_,rfl⟩
   rw [hL] at hgl hrl
   obtain ⟨ad,u,rfl,_,hx,hc⟩:=((uh HR).keep (fun p hp=>hg.cell (by omega))).at_ hlt
   obtain rfl:Value.slice A' m c'=u:=Option.some.inj (hv.symm.trans hx)
   have hm:m=l.length:=by have:=hrl.1; simp [bsV] at this; omega
   have hjs:=join_snoc f L k l hgl
   have hjl:(Zbh f (L.take k)).length+m≤1001:=by
    have h1:(Zbh f (L.take (k+1))).length≤1+L.flatten.length:=by
     have e:L.flatten=(L.take (k+1)).flatten++(L.drop (k+1)).flatten:=by rw [← List.flatten_append,List.take_append_drop]
     have e2:=congrArg List.length e
     rw [List.length_append] at e2
     simp [Zbh] at e2 ⊢
     omega
    rw [hjs,List.length_append] at h1
    have:=uh HL
    omega
   have HJ:=jd hjs
   have HM:=jd hm
   have HO2:=jd hown
   have HG:=jd hg
   have HRL:=jd hrl
   have hgs:=hg.size
   clear hown hg hrl hx hv hgl hL hjs hm
   go_wp2_with (first
    |(at_builtin; refine ZbJ wr (.tmp 16) (.tmp 17) 22 _ A' m c' rfl rfl rfl rfl w.heap.size 5 i0 (.int .u8 0) 1 Tryz.underlying22 hi hz0 hz1 hz2 rfl _ _ (uh HO2) B _ (uh HRL) (ZaL l) (by unfold maxLen; omega) (by omega) hgs ?_
      intro v2 w2 ho2 hb2
      have HO3:=jd ho2
      have HB3:=jd hb2
      clear ho2 hb2)
    | fail)
   go_roundw
   case rel=>exact ⟨k+1,by omega,by go_num,by rw [uh HJ,List.length_append,← uh HM,show bsV (Zbh f (L.take k)++l)=bsV (Zbh f (L.take k))++bsV l by simp [bsV]]; exact uh HO3,(uh HG).trans (uh HB3)⟩
   case measure=>simp [intOf]; omega
  ·obtain rfl:k=n:=by omega
   have hall:L.take k=L:=List.take_of_length_le (by have:=(uh HP).1; have:=HLn.out; omega)
   rw [hall] at hown
   have HO2:=jd hown
   have HG:=jd hg
   clear hown hg
   go_wp2_with fail
   go_ret
   exact ⟨_,rfl,uh HO2,uh HG⟩
set_option maxRecDepth 100000 in
theorem Zbo {ks:List UInt8} (hk:ks.length=16):(Tryz.prog.info? 46).map (·.size)=some (bsV ks).toArray.size:=by
 have e:(bsV ks).toArray.size=16:=by simp [hk]
 rw [e]
 exact (by kernel_rfl:(Tryz.prog.info? 46).map (·.size)=some 16)
def Zed (label:List UInt8) (x y:Int):List UInt8:=label++[0]++leB x 8++leB y 8
def Zfa (ks label:List UInt8) (x y:Int) (i:Nat):List UInt8:=leB (sumF ks (Zed label x y++[UInt8.ofNat i])) 8
def derF (ks label:List UInt8) (x y:Int):List UInt8:=Zfa ks label x y 0++Zfa ks label x y 1
def outF (ks label:List UInt8) (x y:Int) (k:Nat):List UInt8:=(derF ks label x y).take (8*k)++List.replicate (16 - 8*k) 0
theorem Zca (ks label:List UInt8) (x y:Int) (i:Nat):(Zfa ks label x y i).length=8:=Zbr _ _
theorem ZbK (ks label:List UInt8) (x y:Int):(derF ks label x y).length=16:=by simp [derF,Zca]
theorem out_len (ks label:List UInt8) (x y:Int) (k:Nat) (hk:k≤2):(outF ks label x y k).length=16:=by simp [outF,ZbK]; omega
theorem ZdH (ks label:List UInt8) (x y:Int):(bsV (outF ks label x y 0)).toArray=#[.int .u8 0,.int .u8 0,.int .u8 0,.int .u8 0,.int .u8 0,.int .u8 0,.int .u8 0,.int .u8 0,.int .u8 0,.int .u8 0,.int .u8 0,.int .u8 0,.int .u8 0,.int .u8 0,.int .u8 0,.int .u8 0]:=by
 simp [outF,bsV,List.replicate]
theorem out_two (ks label:List UInt8) (x y:Int):outF ks label x y 2=derF ks label x y:=by
 simp only [outF]
 rw [List.take_of_length_le (by rw [ZbK]; omega)]
 simp
theorem out_step (ks label:List UInt8) (x y:Int) (k:Nat) (hk:k < 2) :
  (outF ks label x y k).take (8*k)++Zfa ks label x y k++(outF ks label x y k).drop (8*k+8)=outF ks label x y (k+1):=by
 have h:k=0∨k=1:=by omega
 rcases h with rfl | rfl
 · simp [outF,derF,Zca,List.take_append]
 ·have e:(outF ks label x y 1).take (8*1)=Zfa ks label x y 0:=by
   simp only [outF,derF]
   rw [List.take_left' (by simp [Zca])]
   exact List.take_left' (by simp [Zca])
  rw [e,out_two]
  rw [List.drop_of_length_le (by rw [out_len _ _ _ _ _ (by omega)]; omega),List.append_nil]
  rfl
set_option maxRecDepth 100000 in
set_option maxHeartbeats 4000000 in
theorem derive_any (w:World) (ks:List UInt8) (hk:ks.length=16) (s:ByteArray) (hs:s.size≤1000000) (x y:Int) (hx:0≤x) (hy:0≤y) :
  Calls Tryz.prog 53 #[.agg (bsV ks).toArray,.string s,.int .u64 x,.int .u64 y] w
   fun e w'=>e=.returned (.agg (bsV (derF ks s.data.toList x y)).toArray)∧Below w.heap.size w w':=by
 obtain ⟨i0,hi,hz0,hz1,hz2⟩:=info_parts ZcF
 have hKB:=(Blk.new w 46 (bsV ks).toArray).alloc (.cells (bsV (outF ks s.data.toList x y 0)).toArray 46)
 have hRB:=Blk.new (w.alloc (.cells (bsV ks).toArray 46)) 46 (bsV (outF ks s.data.toList x y 0)).toArray
 have hB0:=((Below.refl w.heap.size w).alloc (Nat.le_refl _) (.cells (bsV ks).toArray 46)).alloc (by rw [Zae]; omega) (.cells (bsV (outF ks s.data.toList x y 0)).toArray 46)
 rw [ZdH] at hKB hRB hB0
 have hss:s.size=s.data.toList.length:=by rw [Array.length_toList]; rfl
 have HSS:=Lib.hid hss
 have HKB:=jd hKB
 have HRB:=jd hRB
 have HB0:=jd hB0
 have HK:=jd hk
 clear hKB hRB hB0 hk hss
 go_enter Tryz.func53,Tryz.ntmps53
 go_wp2_with (first
  |(refine Zdj _ (.tmp 12) 9 22 5 s rfl rfl rfl Tryz.underlying9 Tryz.underlying22 Tryz.underlying5 (w.heap.size+2) (by simp) (by unfold maxLen; omega) ?_
    intro v1 w1 ho1 hb1
    have HO1:=jd ho1
    have HB1:=jd hb1
    have hsz1:w.heap.size+2≤w1.heap.size:=(by have:=hb1.size; simpa using this)
    clear ho1 hb1)
  |(at_builtin; refine Zcp w1 (.tmp 13) (.tmp 14) 22 v1 (.int .u8 0) rfl rfl rfl rfl (w.heap.size+2) 5 i0 (.int .u8 0) 1 Tryz.underlying22 hi hz0 hz1 hz2 rfl s.size _ (uh HO1) rfl (by unfold maxLen; omega) (by omega) hsz1 ?_
    intro v2 w2 ho2 _ hb2
    have HO2:=jd ho2
    have HB2:=jd hb2
    have hsz2:w.heap.size+2≤w2.heap.size:=(by have:=hb2.size; omega)
    clear ho2 hb2)
  | fail)
 refine (Zen x hx w2).mono ?_
 rintro e w3 ⟨vx,rfl,ho3,hb3⟩
 obtain ⟨ax,cx,rfl,hcx,hmx⟩:=Zac ho3
 have HR3:=jd (Zaj.of_own ho3)
 have HO3:=jd ((uh HO2).old hb3)
 have HB3:=jd hb3
 have hsz3:w.heap.size+2≤w3.heap.size:=(by have:=hb3.size; omega)
 clear ho3 hb3
 go_wp2_with (first
  |(at_builtin; refine Zbq w3 (.tmp 16) (.tmp 18) 22 v2 ax 8 cx rfl rfl rfl rfl (w.heap.size+2) 5 i0 (.int .u8 0) 1 1 Tryz.underlying22 hi hz0 hz1 hz2 rfl (by omega) (s.size+1) _ (uh HO3) w3.heap.size _ (uh HR3) (ZaL _) (by unfold maxLen; omega) (by omega) hsz3 ?_
    intro v4 w4 ho4 _ hb4 _
    have HO4:=jd ho4
    have HB4:=jd hb4
    have hsz4:w.heap.size+2≤w4.heap.size:=(by have:=hb4.size; omega)
    clear ho4 hb4)
  | fail)
 refine (Zen y hy w4).mono ?_
 rintro e w5 ⟨vy,rfl,ho5,hb5⟩
 obtain ⟨ay,cy,rfl,hcy,hmy⟩:=Zac ho5
 have HR5:=jd (Zaj.of_own ho5)
 have HO5:=jd ((uh HO4).old hb5)
 have HB5:=jd hb5
 have hsz5:w.heap.size+2≤w5.heap.size:=(by have:=hb5.size; omega)
 clear ho5 hb5
 go_wp2_with (first
  |(at_builtin; refine Zbq w5 (.tmp 19) (.tmp 21) 22 v4 ay 8 cy rfl rfl rfl rfl (w.heap.size+2) 5 i0 (.int .u8 0) 1 1 Tryz.underlying22 hi hz0 hz1 hz2 rfl (by omega) (s.size+1+8) _ (uh HO5) w5.heap.size _ (uh HR5) (ZaL _) (by unfold maxLen; omega) (by omega) hsz5 ?_
    intro v6 w6 ho6 _ hb6 _
    have HO6:=jd ho6
    have HB6:=jd hb6
    have hsz6:w.heap.size+2≤w6.heap.size:=(by have:=hb6.size; omega)
    clear ho6 hb6)
  | fail)
 have hbel:Below (w.heap.size+2) ((w.alloc (.cells (bsV ks).toArray 46)).alloc (.cells (bsV (outF ks s.data.toList x y 0)).toArray 46)) w6:=by
  rw [ZdH]
  exact (((((by simpa using uh HB1:Below (w.heap.size+2) _ w1).trans (uh HB2)).trans ((uh HB3).mono hsz2)).trans (uh HB4)).trans ((uh HB5).mono hsz4)).trans (uh HB6)
 have htext:(s.data.toList.map fun b=>Value.int .u8 (b.toNat:Int))++[.int .u8 0]++bsV (leB x 8)++bsV (leB y 8)=bsV (Zed s.data.toList x y):=by simp [Zed,bsV]
 have ho6:=uh HO6
 rw [htext] at ho6
 have HO7:=jd ho6
 have HS7:=jd (ZaY (w0:=(w.alloc (.cells (bsV ks).toArray 46)).alloc (.cells (bsV (outF ks s.data.toList x y 0)).toArray 46)) (N:=w.heap.size+2) (b:=w.heap.size) (cs:=bsV ks) ⟨Below.refl _ _,by rw [ZdH]; exact ZdB (uh HKB)⟩ hbel (Nat.le_refl _) (by omega))
 have hob:=Blk.new w6 46 (bsV (outF ks s.data.toList x y 0)).toArray
 rw [ZdH] at hob
 have HOB:=jd hob
 clear ho6 hob htext hbel
 go_loopw [23] (fun i wr=>∃ k:Nat,k≤2∧i=.int .i64 k∧Blk wr w6.heap.size 46 (bsV (outF ks s.data.toList x y k)).toArray∧Own wr (w.heap.size+2) 5 1 v6 (s.size+1+8+8) (bsV (Zed s.data.toList x y)) ∧
   (Below (w.heap.size+2) ((w.alloc (.cells (bsV ks).toArray 46)).alloc (.cells (bsV (outF ks s.data.toList x y 0)).toArray 46)) wr∧wr.rangeAt w.heap.size 0 (bsV ks))∧(∀ g,v6.ownBlock=some g→g < w6.heap.size)∧w6.heap.size < wr.heap.size)
  (fun i _=>2 - (intOf i).toNat)
 case atStart =>
  refine ⟨0,by omega,rfl,by rw [ZdH]; exact uh HOB,(uh HO7).alloc _,ZaY (uh HS7) ((Below.refl w6.heap.size w6).alloc (Nat.le_refl _) _) hsz6 (by omega),(uh HO7).lt_,by rw [Zae]; omega⟩
 case round =>
  obtain ⟨k,hk2,rfl,hob,hown,hS,hgl,hszr⟩:=hrel
  by_cases hlt:k < 2
  ·have hWs:w.heap.size+2≤((w.alloc (.cells (bsV ks).toArray 46)).alloc (.cells (bsV (outF ks s.data.toList x y 0)).toArray 46)).heap.size:=by rw [Zae,Zae]; omega
   generalize ((w.alloc (.cells (bsV ks).toArray 46)).alloc (.cells (bsV (outF ks s.data.toList x y 0)).toArray 46))=Wd at hS hWs
   have hu23:=Tryz.underlying46
   have hsz23:(Tryz.prog.info? 46).map (·.size)=some (bsV ks).length:=by
     have e:(bsV ks).length=16:=by simp [uh HK]
     rw [e]
     exact (by kernel_rfl:(Tryz.prog.info? 46).map (·.size)=some 16)
   have hszd:(Tryz.prog.info? 5).map (·.size)=some 1:=by kernel_rfl
   have hS0:Below (w.heap.size+2) Wd wr.drew∧wr.drew.rangeAt w.heap.size 0 (bsV ks):=⟨hS.1.drew,(World.rangeAt_drew _ _ _ _).2 hS.2⟩
   have hwk:IntKind.u8.wrap (k:Int)=(k:Int):=by rw [IntKind.wrap_u8']; omega
   have h8a:IntKind.i64.wrap ((k:Int)*8)=(k:Int)*8:=IntWalk.i64_in _ (by omega)
   have h8b:(0:Int)≤(k:Int)*8:=by omega
   have h8c:(k:Int)*8≤16:=by omega
   have h8d:((k:Int)*8).toNat=8*k:=by omega
   have h8e:¬ 16=8*k:=by omega
   have HRa:Hid (Zaj (wr.alloc (.cells #[.int .u8 (k:Int)] 5)).drew (wr.heap.size+1) 1 (some ⟨wr.heap.size,0,none⟩) 1 [.int .u8 (k:Int)]):=jd (by
     have:=Zaj.of_blk (B:=wr.heap.size+1) (Blk.new wr 5 #[.int .u8 (k:Int)]) 0 1 (by simp) (Nat.lt_succ_self _)
     exact (by simpa using this:Zaj (wr.alloc (.cells #[.int .u8 (k:Int)] 5)) (wr.heap.size+1) 1 (some ⟨wr.heap.size,0,none⟩) 1 [.int .u8 (k:Int)]).drew)
   have HOa:=jd ((hown.alloc (.cells #[.int .u8 (k:Int)] 5)).drew)
   have HBa:=jd ((hob.alloc (.cells #[.int .u8 (k:Int)] 5)).drew)
   have hszr2:=hS.1.size
   clear hS hob hown
   go_wp2_with fail
   go_region_held3 (fun W=>Below (w.heap.size+2) Wd W∧W.rangeAt w.heap.size 0 (bsV ks)) (first | assumption | exact ZeE (by assumption) (by omega) hWs _) (first
     |(refine Zek _ (.tmp 30) (.tmp 33) 22 v6 (some ⟨wr.heap.size,0,none⟩) 1 1 rfl rfl rfl rfl (w.heap.size+2) 5 i0 (.int .u8 0) 1 1 Tryz.underlying22 hi hz0 hz1 hz2 rfl (by omega) (s.size+1+8+8) _ (uh HOa) (wr.heap.size+1) _ (uh HRa) (by intro u hu; simp at hu; subst hu; rfl) (by unfold maxLen; omega) (by omega) (by simp; omega) ?_
       intro v8 w8 hoN hoT hb8 hg8
       have hS8:Below (w.heap.size+2) Wd w8∧w8.rangeAt w.heap.size 0 (bsV ks):=ZaY (by assumption) hb8 (Nat.le_refl _) (by omega)
       have HBo8:=jd ((uh HBa).grown hg8 (fun e=>by have:=hgl _ e.symm; omega))
       have hsz8:w6.heap.size < w8.heap.size:=(by have:=hg8.size; simp at this; omega)
       obtain ⟨a8,c8,rfl,hc8,hm8⟩:=hoN.slice_
       have e8:bsV (Zed s.data.toList x y)++[.int .u8 (k:Int)]=bsV (Zed s.data.toList x y++[UInt8.ofNat k]):=(by simp [bsV]; omega)
       rw [e8] at hoN
       have HR8:=jd hoN.reads
       have HT8:=jd hoT
       clear hoN hoT hb8 hg8 e8)
     |(go_simp; go_at_call 97; refine (sum_any ks (Zed s.data.toList x y++[UInt8.ofNat k]) (uh HK) a8 (s.size+1+8+8+1) c8 w8 (uh HR8) hc8 hm8).mono ?_
       rintro e w9 ⟨rfl,hb9⟩
       have hS9:Below (w.heap.size+2) Wd w9∧w9.rangeAt w.heap.size 0 (bsV ks):=ZaY (by assumption) hb9 (by have:=hS8.1.size; omega) (by omega)
       have HBo9:=jd ((uh HBo8).below hb9 hsz8)
       have HT9:=jd ((uh HT8).old hb9)
       have hsz9:w6.heap.size < w9.heap.size:=(by have:=hb9.size; omega)
       clear hb9)
     |(go_simp; go_at_call 98; refine (Zen (sumF ks (Zed s.data.toList x y++[UInt8.ofNat k])) (Zcd _ _) w9).mono ?_
       rintro e w10 ⟨v10,rfl,ho10,hb10⟩
       have hS10:Below (w.heap.size+2) Wd w10∧w10.rangeAt w.heap.size 0 (bsV ks):=ZaY (by assumption) hb10 (by have:=hS9.1.size; omega) (by omega)
       have HBo10:=jd ((uh HBo9).below hb10 hsz9)
       have HT10:=jd ((uh HT9).old hb10)
       have hsz10:w6.heap.size < w10.heap.size:=(by have:=hb10.size; omega)
       obtain ⟨A10,c10,rfl,hc10,hm10⟩:=Zac ho10
       have hr10:=Zaj.of_own ho10
       obtain ⟨ad10,hA10,_,hcell10⟩:=hr10.2 (by omega)
       subst hA10
       have HC10:=jd hcell10
       clear hb10 ho10 hr10 hcell10)
     |(refine step_copy_blk rfl (.tmp 28) (.tmp 36) 22 22 rfl 5 Tryz.underlying22 hszd w6.heap.size (8*k) (16 - 8*k) (16 - 8*k) 8 c10 ad10 rfl rfl 46 _ (uh HBo10) (bsV (Zfa ks s.data.toList x y k)) (by rw [List.length_map,Zca]; show 8=min 8 (16 - 8*k); omega) (uh HC10) (by rw [List.size_toArray,List.length_map,List.length_map,Zca,out_len _ _ _ _ _ hk2]; omega) (ZaL _) ?_
       intro w11 hbo11 hg11
       have hS11:Below (w.heap.size+2) Wd w11∧w11.rangeAt w.heap.size 0 (bsV ks):=ZaY (by assumption) ((Below.refl (w.heap.size+2) w10).grown hg11 (by omega) (fun g e=>by injection e; omega)) (Nat.le_refl _) (by omega)
       have HBo11:=jd hbo11
       have HT11:=jd ((uh HT10).kept hg11 (.inr (fun e=>by have:=hgl _ e; omega)))
       have hsz11:w6.heap.size < w11.heap.size:=(by have:=hg11.size; omega)
       clear hbo11 hg11))
   have HS12:=jd hS11
   clear hS11 hS10 hS9 hS8
   go_wp2_with fail
   go_roundw
   case rel =>
     refine ⟨k+1,by omega,by go_num,?_,uh HT11,?_,hgl,hsz11⟩
     ·have hb:=uh HBo11
      have e:(bsV (outF ks s.data.toList x y k)).toArray.toList.take (8*k)++bsV (Zfa ks s.data.toList x y k)++(bsV (outF ks s.data.toList x y k)).toArray.toList.drop (8*k+(bsV (Zfa ks s.data.toList x y k)).length)=bsV (outF ks s.data.toList x y (k+1)):=by
        rw [← out_step ks s.data.toList x y k hlt]
        simp [bsV,Zca,List.map_take,List.map_drop]
      rw [e] at hb
      exact hb
     · exact uh HS12
   case measure=>simp [intOf]; omega
  ·obtain rfl:k=2:=by omega
   rw [out_two] at hob
   have hlow:Below (w.heap.size+2) ((w.alloc (.cells (bsV ks).toArray 46)).alloc (.cells (bsV (outF ks s.data.toList x y 0)).toArray 46)) wr:=hS.1
   rw [ZdH] at hlow
   have hrb:=(uh HRB).below hlow (by rw [Zae]; omega)
   rw [Zae] at hrb
   have HOB2:=jd hob
   have HRB2:=jd hrb
   have HE:=jd ((uh HB0).trans (hlow.mono (by omega)))
   have hsz16:(Tryz.prog.info? 46).map (·.size)=some (bsV (derF ks s.data.toList x y)).toArray.size:=Zbo (ZbK _ _ _ _)
   have HSZ:=jd hsz16
   clear hob hlow hrb hS hown hsz16
   go_wp2_with (first
     | (refine wpList_load_row rfl 46 _ rfl w6.heap.size rfl 46 _ _ _ (uh HOB2) Tryz.underlying46 rfl (uh HSZ) ?_)
     |(refine Zaa rfl 46 (.tmp 8) (.tmp 39) rfl (w.heap.size+1) 46 _ (bsV (derF ks s.data.toList x y)).toArray rfl rfl (uh HRB2) (by simp [ZbK]) (uh HSZ) (by simpa using ZaL (derF ks s.data.toList x y)) ?_
       intro w12 hb12 hg12
       have HB12:=jd hb12
       have HE12:=jd ((uh HE).grown hg12 (by have:=(uh HE).size; omega) (fun g e=>by injection e; omega))
       clear hb12 hg12))
   refine bodyPost_ret (v:=.agg (bsV (derF ks s.data.toList x y)).toArray) ?_ rfl ⟨rfl,uh HE12⟩
   exact Zba rfl _ (w.heap.size+1) 46 _ _ rfl (uh HB12) Tryz.underlying46 rfl (uh HSZ)
def ZaR (w:World) (n:Nat) (l:List UInt8) (v:Value):Prop :=∃A c,v=.slice A n c∧n≤c∧c≤maxLen∧Zaj w w.heap.size 1 A n (bsV l)
theorem ZaR.below {w w':World} {n:Nat} {l:List UInt8} {v:Value} (h:ZaR w n l v) (hb:Below w.heap.size w w'):ZaR w' n l v:=by
 obtain ⟨A,c,e,h1,h2,h3⟩:=h
 exact ⟨A,c,e,h1,h2,(h3.below hb).more hb.size⟩
theorem ZaR.of_own {w:World} {base n:Nat} {e:TypeId} {v:Value} {l:List UInt8} (h:w.ownsRow base e 1 v n (bsV l)):ZaR w n l v:=by
 obtain ⟨A,c,rfl,h1,h2⟩:=Zac h
 exact ⟨A,c,rfl,h1,h2,Zaj.of_own h⟩
def Zdn (base:Nat) (w:World) (n:Nat) (l:List UInt8) (v:Value):Prop:=w.ownsRow base 5 1 v n (bsV l)
theorem Zdn.below {base:Nat} {w w':World} {n:Nat} {l:List UInt8} {v:Value} (h:Zdn base w n l v) (hb:Below w.heap.size w w'):Zdn base w' n l v :=
 Zam h hb
def Zbx (w:World) (n:Nat) (L:List (List UInt8)) (v:Value):Prop :=∃A c V,v=.slice A n c∧Zaj w w.heap.size 1 A n V∧ZcK w w.heap.size V L
theorem ZcK.more {w:World} {B B':Nat} {V:List Value} {L:List (List UInt8)} (h:ZcK w B V L) (hb:B≤B'):ZcK w B' V L :=
 ⟨h.1,fun k l hl=>by
  obtain ⟨A,m,c,h1,h2,h3,h4⟩:=h.2 k l hl
  exact ⟨A,m,c,h1,h2,h3,h4.more hb⟩⟩
theorem Zbx.below {w w':World} {n:Nat} {L:List (List UInt8)} {v:Value} (h:Zbx w n L v) (hb:Below w.heap.size w w'):Zbx w' n L v:=by
 obtain ⟨A,c,V,e,h1,h2⟩:=h
 exact ⟨A,c,V,e,(h1.below hb).more hb.size,(h2.below hb).more hb.size⟩
theorem ZcK.nil (w:World) (B:Nat):ZcK w B [] []:=⟨rfl,fun k l h=>by simp at h⟩
theorem ZcK.cons {w:World} {B:Nat} {V:List Value} {L:List (List UInt8)} {A:Option Addr} {n c:Nat} {l:List UInt8} (hn:n≤c) (hc:c≤maxLen) (hr:Zaj w B 1 A n (bsV l)) (h:ZcK w B V L):ZcK w B (.slice A n c::V) (l::L) :=
 ⟨by simp [h.1],fun k l' hl=>by
  cases k with
  |zero =>
   obtain rfl:l=l':=by simpa using hl
   exact ⟨A,n,c,rfl,hn,hc,hr⟩
  |succ k =>
   obtain ⟨A',m,c',h1,h2⟩:=h.2 k l' (by simpa using hl)
   exact ⟨A',m,c',by simpa using h1,h2⟩⟩
theorem Zbx.new {w:World} {t:TypeId} {V:List Value} {L:List (List UInt8)} (n:Nat) (hn:V.length=n) (h:ZcK w w.heap.size V L):Zbx (w.alloc (.cells V.toArray t)) n L (.slice (some ⟨w.heap.size,0,none⟩) n n):=by
 refine ⟨_,n,V,rfl,?_,?_⟩
 ·have:=Zaj.of_blk (B:=(w.alloc (.cells V.toArray t)).heap.size) (Blk.new w t V.toArray) 0 n (by simp [hn]) (by rw [Zae]; omega)
  rw [List.drop_zero,List.take_of_length_le (by omega)] at this
  exact this
 · exact (h.below ((Below.refl _ _).alloc (Nat.le_refl _) _)).more (ZdD _ _)
theorem Zdy (w:World) (f:UInt8) (n:Nat) (L:List (List UInt8)) (v:Value) (h:Zbx w n L v) (hl:L.flatten.length≤1000) (hn:n≤100) :
  Calls Tryz.prog 49 #[.int .u8 (f.toNat:Int),v] w fun e w'=>∃ v,e=.returned v∧w'.ownsRow w.heap.size 5 1 v (Zbh f L).length (bsV (Zbh f L))∧Below w.heap.size w w':=by
 obtain ⟨A,c,V,rfl,h1,h2⟩:=h
 exact joined_sx w f A n c V L w.heap.size (Nat.le_refl _) h1 h2 hl hn
theorem ZbV (w:World) (x n:Nat) (hn:n=4∨n=8):Calls Tryz.prog 50 #[.int .u64 (x:Int),.int .i64 (n:Int)] w fun e w'=>∃ v,e=.returned v∧Below w.heap.size w w'∧ZaR w' n (leB (x:Int) n) v :=
 (little_any (x:Int) (by omega) n hn w).mono fun e w' ⟨v,he,ho,hb⟩=>⟨v,he,hb,ZaR.of_own ho⟩
theorem ZaR.new1 {w:World} {t:TypeId} (b:UInt8):ZaR (w.alloc (.cells #[.int .u8 (b.toNat:Int)] t)) 1 [b] (.slice (some ⟨w.heap.size,0,none⟩) 1 1):=by
 refine ⟨_,1,rfl,Nat.le_refl _,by unfold maxLen; omega,?_⟩
 have:=Zaj.of_blk (B:=(w.alloc (.cells #[.int .u8 (b.toNat:Int)] t)).heap.size) (Blk.new w t [Value.int .u8 (b.toNat:Int)].toArray) 0 1 (by simp) (by rw [Zae]; omega)
 simpa [bsV] using this
theorem Za0 (w:World) (b:UInt8):(Instr.buildSlice 22 1 #[(0,.int .u8 (b.toNat:Int))]).run Tryz.prog w=.ok (.slice (some ⟨w.heap.size,0,none⟩) 1 1) (w.alloc (.cells #[.int .u8 (b.toNat:Int)] 5)):=by kernel_rfl
theorem run_slice_1 (w:World) (A0:Option Addr) (n0 c0:Nat):(Instr.buildSlice 35 1 #[(0,.slice A0 n0 c0)]).run Tryz.prog w=.ok (.slice (some ⟨w.heap.size,0,none⟩) 1 1) (w.alloc (.cells #[.slice A0 n0 c0] 22)):=by kernel_rfl
theorem run_slice_2 (w:World) (A0:Option Addr) (n0 c0:Nat) (A1:Option Addr) (n1 c1:Nat):(Instr.buildSlice 35 2 #[(0,.slice A0 n0 c0),(1,.slice A1 n1 c1)]).run Tryz.prog w=.ok (.slice (some ⟨w.heap.size,0,none⟩) 2 2) (w.alloc (.cells #[.slice A0 n0 c0,.slice A1 n1 c1] 22)):=by kernel_rfl
theorem run_slice_3 (w:World) (A0:Option Addr) (n0 c0:Nat) (A1:Option Addr) (n1 c1:Nat) (A2:Option Addr) (n2 c2:Nat):(Instr.buildSlice 35 3 #[(0,.slice A0 n0 c0),(1,.slice A1 n1 c1),(2,.slice A2 n2 c2)]).run Tryz.prog w=.ok (.slice (some ⟨w.heap.size,0,none⟩) 3 3) (w.alloc (.cells #[.slice A0 n0 c0,.slice A1 n1 c1,.slice A2 n2 c2] 22)):=by kernel_rfl
theorem Ze7 (w:World) (A0:Option Addr) (n0 c0:Nat) (A1:Option Addr) (n1 c1:Nat) (A2:Option Addr) (n2 c2:Nat) (A3:Option Addr) (n3 c3:Nat):(Instr.buildSlice 35 4 #[(0,.slice A0 n0 c0),(1,.slice A1 n1 c1),(2,.slice A2 n2 c2),(3,.slice A3 n3 c3)]).run Tryz.prog w=.ok (.slice (some ⟨w.heap.size,0,none⟩) 4 4) (w.alloc (.cells #[.slice A0 n0 c0,.slice A1 n1 c1,.slice A2 n2 c2,.slice A3 n3 c3] 22)):=by kernel_rfl
end Go.Proofs.YtfbkkmnkpjgciaaGreat
