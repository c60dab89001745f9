/- Joined of GStart GProv. No condition. -/
import Derived.Test.YtfbkkmnkpjgciaaGreatPG18
import Derived.Test.YtfbkkmnkpjgciaaGreatPG16
import Derived.Test.YtfbkkmnkpjgciaaGreatPG05
import Derived.Test.YtfbkkmnkpjgciaaGreatPG12
import Derived.Deep.RegionHeld3
namespace Go.Proofs.YtfbkkmnkpjgciaaGreat
open Go.RowKit
def stC (L:List Sess) (nx:Nat) (now:Int):Int:=if ZaS L nx=false then 1 else if ZcR now=false then 2 else 0
def ZcS (w:World) (L:List Sess) (nx:Nat) (now:Int) (e:Ending) (w':World):Prop :=
 if stC L nx now=0 then∃v,e=.returned (.tuple #[.agg #[v,.int .u32 (nx:Int)],.int .i64 0])∧w'.ownsRow w.heap.size 50 26 v (expF L nx now).length (Zat (expF L nx now))∧Below w.heap.size w w'
 else e=.returned (.tuple #[.agg #[.slice none 0 0,.int .u32 0],.int .i64 (stC L nx now)])∧Below w.heap.size w w'
set_option maxRecDepth 100000 in
set_option maxHeartbeats 4000000 in
theorem start_sx (w:World) (A:Option Addr) (n c:Nat) (L:List Sess) (nx:Nat) (h:ZaA w w.heap.size A n L) (hn:n≤1000) (hnx:nx < 4294967296) (now:Int) :
  Calls Tryz.prog 73 #[.agg #[.slice A n c,.int .u32 (nx:Int)],.int .i64 now] w (ZcS w L nx now):=by
 obtain ⟨W2,hW2⟩ :∃W2,((w.alloc (.cells #[.slice A n c,.int .u32 (nx:Int)] 29)).alloc (.cells #[.slice none 0 0,.int .u32 0] 29))=W2:=⟨_,rfl⟩
 have K0:Hid (Blk W2 w.heap.size 29 #[.slice A n c,.int .u32 (nx:Int)]):=jd (hW2 ▸ (Blk.new w _ _).alloc _)
 have K1:Hid (Blk W2 (w.heap.size+1) 29 #[.slice none 0 0,.int .u32 0]):=jd (hW2 ▸ Blk.new' (by simp))
 have B0:Hid (Below w.heap.size w W2):=jd (hW2 ▸ (((Below.refl _ _).alloc (Nat.le_refl _) _).alloc (by rw [Zae]; omega) _))
 have HS:=jd h
 have HN:=jd hn
 have HNX:=jd hnx
 obtain ⟨vl,hvl⟩ :∃b,ZaS L nx=b:=⟨_,rfl⟩
 obtain ⟨tl,htl⟩ :∃b,ZcR now=b:=⟨_,rfl⟩
 have HV:=jd hvl
 have HT:=jd htl
 have HTM:Hid (decide (0≤now∧now≤17179869184)=tl):=jd htl
 have HC:Hid (stC L nx now=if vl=false then 1 else if tl=false then 2 else 0):=jd (by rw [← hvl,← htl]; rfl)
 clear hvl htl h hn
 go_enter Tryz.func73,Tryz.ntmps73
 go_wp2_with (first
  | (refine wpList_load_row rfl 29 _ rfl w.heap.size rfl 29 _ _ _ (uh K0) Tryz.underlying29 rfl (by kernel_rfl) ?_)
  | fail)
 refine (Zds W2 A n c L nx (((uh HS).below (uh B0)).more (uh B0).size) (by have:=uh HN; unfold maxLen; omega) hnx vl (uh HV)).mono ?_
 rintro e w3 ⟨rfl,hb3⟩
 have K0:=jd ((uh K0).below hb3 (uh K0).lt)
 have K1:=jd ((uh K1).below hb3 (uh K1).lt)
 have B3:=jd ((uh B0).trans (hb3.mono (uh B0).size))
 have hs3:w.heap.size+2≤w3.heap.size:=by have:=(uh K1).lt; omega
 clear hb3 B0
 cases vl
 case false =>
  go_wp2_with (first
   | (refine Zab rfl 29 _ rfl [] rfl _ Zan ?_)
   |(refine Zaa rfl 29 (.tmp 4) (.tmp 10) rfl (w.heap.size+1) 29 _ #[.slice none 0 0,.int .u32 0] rfl rfl (uh K1) rfl (by kernel_rfl) (oZz rfl rfl) ?_
     intro w9 hb9 hg9
     have Z9:=jd hb9
     have E9:=jd (gWz (uh B3) hg9)
     clear hb9 hg9)
   | fail)
  have hst:stC L nx now=1:=by rw [uh HC]; rfl
  exact bodyPost_ret (v:=.tuple #[.agg #[.slice none 0 0,.int .u32 0],.int .i64 1]) (res2 rfl _ (w.heap.size+1) 29 _ _ _ rfl rfl (uh Z9) Tryz.underlying29 rfl (by kernel_rfl)) rfl (show ZcS w L nx now _ _ by unfold ZcS; rw [hst,if_neg (by decide)]; exact ⟨rfl,uh E9⟩)
 cases tl
 case false =>
  go_wp2_with (first
   | (go_at_call 72; refine (Zbv _ now _ (uh HTM)).mono ?_; rintro e w' ⟨rfl,rfl⟩)
   | (refine Zab rfl 29 _ rfl [] rfl _ Zan ?_)
   |(refine Zaa rfl 29 (.tmp 4) (.tmp 15) rfl (w.heap.size+1) 29 _ #[.slice none 0 0,.int .u32 0] rfl rfl (uh K1) rfl (by kernel_rfl) (oZz rfl rfl) ?_
     intro w9 hb9 hg9
     have Z9:=jd hb9
     have E9:=jd (gWz (uh B3) hg9)
     clear hb9 hg9)
   | fail)
  have hst:stC L nx now=2:=by rw [uh HC]; rfl
  exact bodyPost_ret (v:=.tuple #[.agg #[.slice none 0 0,.int .u32 0],.int .i64 2]) (res2 rfl _ (w.heap.size+1) 29 _ _ _ rfl rfl (uh Z9) Tryz.underlying29 rfl (by kernel_rfl)) rfl (show ZcS w L nx now _ _ by unfold ZcS; rw [hst,if_neg (by decide)]; exact ⟨rfl,uh E9⟩)
 go_wp2_with (first
  | (go_at_call 72; refine (Zbv _ now _ (uh HTM)).mono ?_; rintro e w' ⟨rfl,rfl⟩)
  | (refine wpList_load_row rfl 29 _ rfl w.heap.size rfl 29 _ _ _ (uh K0) Tryz.underlying29 rfl (by kernel_rfl) ?_)
  | fail)
 refine (rexpire_sx w3 A n c L nx (((uh HS).below (uh B3)).more (uh B3).size) (uh HN) (uh HNX) now).mono ?_
 rintro e w4 ⟨v,rfl,ho,hb⟩
 have K1':=jd ((uh K1).below hb (uh K1).lt)
 have B4:=jd ((uh B3).trans (hb.mono (uh B3).size))
 have O4:=jd (Zak ho (uh B3).size)
 obtain ⟨A4,c4,rfl,_,_⟩:=Zac ho
 clear hb ho
 go_wp2_with (first
  |(refine Zaa rfl 29 (.tmp 4) (.tmp 18) rfl (w.heap.size+1) 29 _ #[.slice A4 (expF L nx now).length c4,.int .u32 (nx:Int)] rfl rfl (uh K1') rfl (by kernel_rfl) (oZz rfl rfl) ?_
    intro w5 hb5 hg5
    have R5:=jd hb5
    have B5:=jd (gWz (uh B4) hg5)
    have O5:=jd (World.ownsRow.kept (uh O4) hg5 (.inr (Zad (uh O4) (uh K1') (by decide))))
    clear hb5 hg5)
  | fail)
 have hst:stC L nx now=0:=by rw [uh HC]; rfl
 exact bodyPost_ret (v:=.tuple #[.agg #[.slice A4 (expF L nx now).length c4,.int .u32 (nx:Int)],.int .i64 0]) (res2 rfl _ (w.heap.size+1) 29 _ _ _ rfl rfl (uh R5) Tryz.underlying29 rfl (by kernel_rfl)) rfl (show ZcS w L nx now _ _ by unfold ZcS; rw [if_pos hst]; exact ⟨_,rfl,uh O5,uh B5⟩)
section
variable {ops:Array Oper} {rest:List Oper} {o:Oper} {a:Act} {Q:Exit→Act→World→Prop}
theorem Zbc (w:World) (s x:Operand) (v:Value) (A:Option Addr) (m c:Nat) (ho:o.op=.call { callee:=.builtin .append,args:=#[s,x],argTypes:=#[22,22] }) (hgd:o.guard=none) (hs:a.eval s=v) (hx:a.eval x=.slice A m c)
  (base n:Nat) (l:List UInt8) (hown:w.ownsRow base 5 1 v n (bsV l)) (Bd:Nat) (l2:List UInt8) (hr:Zaj w Bd 1 A m (bsV l2)) (h63:n+m≤1000000) (hbase:base≤w.heap.size)
  (h:∀ A' c' w',w'.ownsRow base 5 1 (.slice A' (n+m) c') (n+m) (bsV (l++l2))→n+m≤c'→c'≤maxLen→Below base w w'→wpList Tryz.prog ops Q rest (a.put o.dst (.slice A' (n+m) c')) w'):wpList Tryz.prog ops Q (o::rest) a w:=by
 obtain ⟨i0,hi,hz0,hz1,hz2⟩:=info_parts ZcF
 refine ZbJ w s x 22 v A m c ho hgd hs hx base 5 i0 (.int .u8 0) 1 Tryz.underlying22 hi hz0 hz1 hz2 rfl n (bsV l) hown Bd (bsV l2) hr (ZaL _) (by unfold maxLen; omega) (by omega) hbase fun v' w' ho2 hb=>?_
 obtain ⟨A',c',rfl,h1,h2⟩:=Zac ho2
 rw [show bsV l++bsV l2=bsV (l++l2) by simp [bsV]] at ho2
 exact h A' c' w' ho2 h1 h2 hb
theorem Zdu {K:Act→World→Prop} {E:Prop} (w:World) (s x:Operand) (v:Value) (A:Option Addr) (m c:Nat) (ho:o.op=.call { callee:=.builtin .append,args:=#[s,x],argTypes:=#[22,22] }) (hgd:o.guard=none) (hs:a.eval s=v) (hx:a.eval x=.slice A m c)
  (base n:Nat) (l:List UInt8) (hown:w.ownsRow base 5 1 v n (bsV l)) (Bd:Nat) (l2:List UInt8) (hr:Zaj w Bd 1 A m (bsV l2)) (h63:n+m≤1000000) (hbase:base≤w.heap.size)
  (h:∀ A' c' w',w'.ownsRow base 5 1 (.slice A' (n+m) c') (n+m) (bsV (l++l2))→n+m≤c'→c'≤maxLen→Below base w w'→K (a.put o.dst (.slice A' (n+m) c')) w') :
  if Region.wanted o (yielded ops a.tmps)=true then Oper.wp Tryz.prog o a w K Q else E:=by
 obtain ⟨i0,hi,hz0,hz1,hz2⟩:=info_parts ZcF
 refine Zb9 w s x 22 v A m c ho hgd hs hx base 5 i0 (.int .u8 0) 1 Tryz.underlying22 hi hz0 hz1 hz2 rfl n (bsV l) hown Bd (bsV l2) hr (ZaL _) (by unfold maxLen; omega) (by omega) hbase fun v' w' ho2 hb=>?_
 obtain ⟨A',c',rfl,h1,h2⟩:=Zac ho2
 rw [show bsV l++bsV l2=bsV (l++l2) by simp [bsV]] at ho2
 exact h A' c' w' ho2 h1 h2 hb
end
theorem ZeJ (w:World) (base:Nat) (hb:base≤w.heap.size) (b:UInt8):(w.alloc (.cells #[.int .u8 (b.toNat:Int)] 5)).ownsRow base 5 1 (.slice (some ⟨w.heap.size,0,none⟩) 1 1) 1 (bsV [b]) :=
 ⟨rfl,.inr ⟨w.heap.size,1,_,rfl,hb,heap_alloc_new w _,Nat.le_refl _,by unfold maxLen; omega,rfl,rfl⟩⟩
set_option maxRecDepth 100000 in
set_option maxHeartbeats 4000000 in
theorem Zeg (w:World) (f:UInt8) (ks:List UInt8) (hk:ks.length=16) (id cl sv:Nat) (hid:id < 4294967296) (lb:UInt8) :
  Calls Tryz.prog 78 #[.int .u8 (f.toNat:Int),.int .u32 (id:Int),.agg (bsV ks).toArray,.int .u64 (cl:Int),.int .u64 (sv:Int),.int .i64 (lb.toNat:Int)] w
   fun e w'=>∃ v,e=.returned v∧w'.ownsRow w.heap.size 5 1 v 13 (bsV (ZbB f ks id cl sv lb))∧Below w.heap.size w w':=by
 obtain ⟨W1,hW1⟩ :∃W1,w.alloc (.cells (bsV ks).toArray 46)=W1:=⟨_,rfl⟩
 have hlt1:w.heap.size < W1.heap.size:=by rw [← hW1,Zae]; omega
 have K1:Hid (Blk W1 w.heap.size 46 (bsV ks).toArray):=jd (hW1 ▸ Blk.new w _ _)
 have X1:Hid (Below w.heap.size w W1):=jd (hW1 ▸ (Below.refl _ _).alloc (Nat.le_refl _) _)
 have HK:=jd (Zbo hk)
 have hl8:IntKind.u8.wrap (lb.toNat:Int)=(lb.toNat:Int):=by rw [IntKind.wrap_u8']; have:=lb.toNat_lt; omega
 go_enter Tryz.func78,Tryz.ntmps78
 go_wp2_with (first
  | (refine ZaD rfl 22 1 _ rfl [(0,.int .u8 (f.toNat:Int))] rfl _ _ (Za0 W1 f) ?_)
  | fail)
 have R1:=ZeJ W1 W1.heap.size (Nat.le_refl _) f
 refine (Zbt (W1.alloc (.cells #[.int .u8 (f.toNat:Int)] 5)) (id:Int) 4 (by decide)).mono ?_
 rintro e w2 ⟨v2,rfl,o2,b2⟩
 obtain ⟨A2,c2,rfl,hc2,hm2⟩:=Zac o2
 have N2:=jd (Zaj.of_own o2)
 have R2:=jd (Zam R1 b2)
 have K2:=jd ((((uh K1).alloc (.cells #[.int .u8 (f.toNat:Int)] 5)).below b2 (by rw [Zae]; omega)))
 have hs2:W1.heap.size < w2.heap.size:=by have:=b2.size; rw [Zae] at this; omega
 have X2:=jd (((uh X1).alloc (by omega) _).trans (b2.mono (by rw [Zae]; omega)))
 clear R1 o2 b2
 go_upto_region 2 with (first
  |(at_builtin; refine Zbc w2 (.tmp 16) (.tmp 19) _ A2 4 c2 rfl rfl rfl rfl W1.heap.size 1 [f] (uh R2) _ (leB (id:Int) 4) (uh N2) (by decide) (by omega) ?_
    intro A3 c3 w3 o3 hc3 hm3 b3
    have R3:=jd o3
    have K3:=jd ((uh K2).below b3 (by omega))
    have X3:=jd ((uh X2).trans (b3.mono (by omega)))
    have hs3:=b3.size
    clear o3 b3)
  | fail)
 have E:=jd (World.ownsRow_nil w3 w3.heap.size 5 1)
 go_wp2_with (first
  |(at_builtin; refine Zbc w3 (.const (.slice none 0 0)) (.tmp 21) _ A3 5 c3 rfl rfl rfl rfl w3.heap.size 0 [] (uh E) _ _ (Zaj.of_own (uh R3)) (by decide) (Nat.le_refl _) ?_
    intro A4 c4 w4 o4 hc4 hm4 b4
    have R4:=jd o4
    have Y4:=jd b4
    have hs4:=b4.size
    clear o4 b4)
  | fail)
 refine (Zbt w4 (cl:Int) 8 (by decide)).mono ?_
 rintro e w5 ⟨v5,rfl,o5,b5⟩
 obtain ⟨A5,c5,rfl,hc5,hm5⟩:=Zac o5
 have N5:=jd (Zaj.of_own o5)
 have R5:=jd (Zam (uh R4) b5)
 have Y5:=jd ((uh Y4).trans (b5.mono hs4))
 have hs5:=b5.size
 clear o5 b5
 go_wp2_with (first
  |(at_builtin; refine Zbc w5 (.tmp 22) (.tmp 24) _ A5 8 c5 rfl rfl rfl rfl w3.heap.size 5 _ (uh R5) _ _ (uh N5) (by decide) (by omega) ?_
    intro A6 c6 w6 o6 hc6 hm6 b6
    have R6:=jd o6
    have Y6:=jd ((uh Y5).trans b6)
    have hs6:=b6.size
    clear o6 b6)
  | fail)
 refine (Zbt w6 (sv:Int) 8 (by decide)).mono ?_
 rintro e w7 ⟨v7,rfl,o7,b7⟩
 obtain ⟨A7,c7,rfl,hc7,hm7⟩:=Zac o7
 have N7:=jd (Zaj.of_own o7)
 have R7:=jd (Zam (uh R6) b7)
 have Y7:=jd ((uh Y6).trans (b7.mono (by omega)))
 have hs7:=b7.size
 clear o7 b7
 go_upto_region 3 with (first
  |(at_builtin; refine Zbc w7 (.tmp 25) (.tmp 27) _ A7 8 c7 rfl rfl rfl rfl w3.heap.size 13 _ (uh R7) _ _ (uh N7) (by decide) (by omega) ?_
    intro A8 c8 w8 o8 hc8 hm8 b8
    have Y8:=jd ((uh Y7).trans b8)
    have hs8:=b8.size
    have R8:=jd (o8.alloc (.cells #[.int .u8 (lb.toNat:Int)] 5))
    have N8:=jd (Zaj.of_own (ZeJ w8 w8.heap.size (Nat.le_refl _) lb))
    clear o8 b8)
  | (refine ZaD rfl 22 1 _ rfl [(0,.int .u8 (lb.toNat:Int))] rfl _ _ (Za0 w8 lb) ?_)
  |(at_builtin; refine Zbc (w8.alloc (.cells #[.int .u8 (lb.toNat:Int)] 5)) (.tmp 28) (.tmp 31) _ (some ⟨w8.heap.size,0,none⟩) 1 1 rfl rfl rfl rfl w3.heap.size 21 _ (uh R8) _ [lb] (uh N8) (by decide) (by rw [Zae]; omega) ?_
    intro A9 c9 w9 o9 hc9 hm9 b9
    have R9:=jd o9
    have Y9:=jd (((uh Y8).alloc (by omega) _).trans b9)
    clear o9 b9)
  | fail)
 have hs9:=(uh Y9).size
 have K9:=jd ((uh K3).below (uh Y9) (by omega))
 have X9:=jd ((uh X3).trans ((uh Y9).mono (by omega)))
 have R13:=jd (Zam (uh R3) (uh Y9))
 obtain ⟨all,hall⟩ :∃all,((([]++([f]++leB (id:Int) 4))++leB (cl:Int) 8)++leB (sv:Int) 8)++[lb]=all:=⟨_,rfl⟩
 have R9':Hid (w9.ownsRow w3.heap.size 5 1 (.slice A9 22 c9) 22 (bsV all)):=jd (hall ▸ uh R9)
 have HALL:=jd hall
 clear R9 R8 R7 R6 R5 R4 N8 N7 N5 N2 Y4 Y5 Y6 Y7 Y8 Y9 E hall
 go_wp2_with (first
  | (refine wpList_load_row rfl 46 _ rfl w.heap.size rfl 46 _ _ _ (uh K9) Tryz.underlying46 rfl (uh HK) ?_)
  | fail)
 refine (Zde ks all hk A9 22 c9 w9 (Zaj.of_own (uh R9')) hc9 hm9).mono ?_
 rintro e w10 ⟨rfl,b10⟩
 have R14:=jd (Zam (uh R13) b10)
 have X10:=jd ((uh X9).trans (b10.mono (by omega)))
 have hs10:=b10.size
 clear b10
 go_wp2_with fail
 refine (Zbt w10 (sumF ks all) 8 (by decide)).mono ?_
 rintro e w11 ⟨v11,rfl,o11,b11⟩
 obtain ⟨A11,c11,rfl,hc11,hm11⟩:=Zac o11
 have N11:=jd (Zaj.of_own o11)
 have R15:=jd (Zam (uh R14) b11)
 have X11:=jd ((uh X10).trans (b11.mono (by omega)))
 have hs11:=b11.size
 clear o11 b11
 go_wp2_with (first
  |(at_builtin; refine Zbc w11 (.tmp 33) (.tmp 37) _ A11 8 c11 rfl rfl rfl rfl W1.heap.size 5 _ (uh R15) _ _ (uh N11) (by decide) (by omega) ?_
    intro A12 c12 w12 o12 hc12 hm12 b12
    have R16:=jd o12
    have X12:=jd ((uh X11).trans (b12.mono (by omega)))
    clear o12 b12)
  | fail)
 go_ret
 have he:([f]++leB (id:Int) 4)++leB (sumF ks all) 8=ZbB f ks id cl sv lb:=by
  have e1:all=ZdN f id cl sv lb:=by rw [← uh HALL]; simp [ZdN,Zbh]
  rw [e1]
  simp [ZbB,headF,Zbh]
 refine ⟨_,rfl,?_,uh X12⟩
 rw [← he]
 exact Zak (uh R16) (by omega)
set_option maxRecDepth 100000 in
set_option maxHeartbeats 4000000 in
theorem rpacket_sx (w:World) (f:UInt8) (ks:List UInt8) (hk:ks.length=16) (id n:Nat) (kb:UInt8) (A:Option Addr) (m c:Nat) (data:List UInt8) (hr:Zaj w w.heap.size 1 A m (bsV data)) (hm:m≤900) (hid:id < 4294967296) (hnn:n < 4294967296) :
  Calls Tryz.prog 89 #[.int .u8 (f.toNat:Int),.int .u32 (id:Int),.int .u32 (n:Int),.int .i64 (kb.toNat:Int),.slice A m c,.agg (bsV ks).toArray] w
   fun e w'=>∃ v,e=.returned v∧w'.ownsRow w.heap.size 5 1 v (Zb0 f ks id n kb data).length (bsV (Zb0 f ks id n kb data))∧Below w.heap.size w w':=by
 have hdl:data.length=m:=by have:=hr.1; simpa [bsV] using this
 obtain ⟨W1,hW1⟩ :∃W1,w.alloc (.cells (bsV ks).toArray 46)=W1:=⟨_,rfl⟩
 have hlt1:w.heap.size < W1.heap.size:=by rw [← hW1,Zae]; omega
 have K1:Hid (Blk W1 w.heap.size 46 (bsV ks).toArray):=jd (hW1 ▸ Blk.new w _ _)
 have X1:Hid (Below w.heap.size w W1):=jd (hW1 ▸ (Below.refl _ _).alloc (Nat.le_refl _) _)
 have HK:=jd (Zbo hk)
 have HR:=jd hr
 have HDL:=jd hdl
 have hl8:IntKind.u8.wrap (kb.toNat:Int)=(kb.toNat:Int):=by rw [IntKind.wrap_u8']; have:=kb.toNat_lt; omega
 clear hr hdl
 go_enter Tryz.func89,Tryz.ntmps89
 go_wp2_with (first
  | (refine ZaD rfl 22 1 _ rfl [(0,.int .u8 (f.toNat:Int))] rfl _ _ (Za0 W1 f) ?_)
  | fail)
 have R1:=ZeJ W1 W1.heap.size (Nat.le_refl _) f
 refine (Zbt (W1.alloc (.cells #[.int .u8 (f.toNat:Int)] 5)) (id:Int) 4 (by decide)).mono ?_
 rintro e w2 ⟨v2,rfl,o2,b2⟩
 obtain ⟨A2,c2,rfl,hc2,hm2⟩:=Zac o2
 have N2:=jd (Zaj.of_own o2)
 have R2:=jd (Zam R1 b2)
 have K2:=jd ((((uh K1).alloc (.cells #[.int .u8 (f.toNat:Int)] 5)).below b2 (by rw [Zae]; omega)))
 have hs2:W1.heap.size < w2.heap.size:=by have:=b2.size; rw [Zae] at this; omega
 have X2:=jd (((uh X1).alloc (by omega) _).trans (b2.mono (by rw [Zae]; omega)))
 clear R1 o2 b2
 go_wp2_with (first
  |(at_builtin; refine Zbc w2 (.tmp 15) (.tmp 18) _ A2 4 c2 rfl rfl rfl rfl W1.heap.size 1 [f] (uh R2) _ (leB (id:Int) 4) (uh N2) (by decide) (by omega) ?_
    intro A3 c3 w3 o3 hc3 hm3 b3
    have R3:=jd o3
    have Y3:=jd b3
    have hs3:=b3.size
    clear o3 b3)
  | fail)
 refine (Zbt w3 (n:Int) 4 (by decide)).mono ?_
 rintro e w4 ⟨v4,rfl,o4,b4⟩
 obtain ⟨A4,c4,rfl,hc4,hm4⟩:=Zac o4
 have N4:=jd (Zaj.of_own o4)
 have R4:=jd (Zam (uh R3) b4)
 have Y4:=jd ((uh Y3).trans (b4.mono (by omega)))
 have hs4:=b4.size
 clear o4 b4
 go_upto_region 2 with (first
  |(at_builtin; refine Zbc w4 (.tmp 19) (.tmp 22) _ A4 4 c4 rfl rfl rfl rfl W1.heap.size 5 _ (uh R4) _ _ (uh N4) (by decide) (by omega) ?_
    intro A5 c5 w5 o5 hc5 hm5 b5
    have Y5:=jd ((uh Y4).trans b5)
    have hs5:=b5.size
    have R5:=jd (o5.alloc (.cells #[.int .u8 (kb.toNat:Int)] 5))
    have N5:=jd (Zaj.of_own (ZeJ w5 w5.heap.size (Nat.le_refl _) kb))
    clear o5 b5)
  | (refine ZaD rfl 22 1 _ rfl [(0,.int .u8 (kb.toNat:Int))] rfl _ _ (Za0 w5 kb) ?_)
  |(at_builtin; refine Zbc (w5.alloc (.cells #[.int .u8 (kb.toNat:Int)] 5)) (.tmp 23) (.tmp 26) _ (some ⟨w5.heap.size,0,none⟩) 1 1 rfl rfl rfl rfl W1.heap.size 9 _ (uh R5) _ [kb] (uh N5) (by decide) (by rw [Zae]; omega) ?_
    intro A6 c6 w6 o6 hc6 hm6 b6
    have R6:=jd o6
    have Y6:=jd (((uh Y5).alloc (by omega) _).trans b6)
    clear o6 b6)
  | fail)
 have hs6:=(uh Y6).size
 have K6:=jd ((uh K2).below (uh Y6) (by omega))
 have X6:=jd ((uh X2).trans ((uh Y6).mono (by omega)))
 have HR6:=jd (((uh HR).below (uh X6)))
 obtain ⟨hd,hhd⟩ :∃hd,(([f]++leB (id:Int) 4)++leB (n:Int) 4)++[kb]=hd:=⟨_,rfl⟩
 have R6':Hid (w6.ownsRow W1.heap.size 5 1 (.slice A6 10 c6) 10 (bsV hd)):=jd (hhd ▸ uh R6)
 have HHD:=jd hhd
 clear R6 R5 R4 R3 R2 N5 N4 N2 Y3 Y4 Y5 X2 X1 K1 K2 hhd
 have hB0:Below w6.heap.size w6 w6.drew:=(Below.refl _ _).drew
 have hS0:(fun wz=>Below W1.heap.size w6 wz) w6.drew:=(Below.refl _ _).drew
 refine wp_region_noPanic (wp_region_held_drew (S:=fun wz=>Below W1.heap.size w6 wz) (by kernel_rfl) hS0 (fun _=>?_))
 have hKEY:∀ wz,Below W1.heap.size w6 wz→Blk wz w.heap.size 46 (bsV ks).toArray:=fun _ h=>(uh K6).below h hlt1
 have HKEY:=jd hKEY
 clear hKEY hB0
 refine tJz 0 rfl (Zar 46 (.tmp 11) (by rfl) rfl w.heap.size rfl 46 (bsV ks).toArray _ (uh HKEY) Tryz.underlying46 rfl (uh HK)) hS0 ?_
 refine tq 1 rfl hS0 ?_
 refine tq 2 rfl hS0 ?_
 refine tOz 3 rfl fun K hK=>?_
 refine Zdu w6.drew (.tmp 29) (.tmp 30) _ A m c rfl rfl rfl rfl W1.heap.size 10 hd (uh R6') _ data (uh HR6).drew (by omega) (by show _≤w6.heap.size; omega) ?_
 intro A7 c7 w7 o7 hc7 hm7 b7
 have h7:Below W1.heap.size w6 w7:=hS0.trans b7
 refine hK.out _ _ h7 (fun _=>?_)
 clear hK K
 try simp only [Act.put,zA,zB,zC]
 refine tCz 4 rfl fun K hK=>?_
 go_simp
 refine (ref_seal_any ks (hd++data) hk A7 (10+m) c7 w7 (Zaj.of_own o7) hc7 hm7 (by omega)).mono ?_
 rintro e w8 ⟨v,rfl,o8,b8⟩
 have h8:Below W1.heap.size w6 w8:=h7.trans (b8.mono (by have:=h7.size; omega))
 refine hK.out _ _ h8 (fun _=>?_)
 clear hK K
 try simp only [Act.put,zA,zB,zC]
 refine tq 5 rfl h8 ?_
 refine tDz ?_
 go_wp2_with fail
 go_ret
 have e1:hd++data=Zdc f id n kb data:=by rw [← uh HHD]; simp [Zdc,Zbh]
 refine ⟨v,rfl,?_,(uh X6).trans (h8.mono (by omega))⟩
 rw [e1,show bsV (Zdc f id n kb data)++bsV (leB (sumF ks (Zdc f id n kb data)) 8)=bsV (Zb0 f ks id n kb data) by simp [Zb0,bsV],show 10+m+8=(Zb0 f ks id n kb data).length by rw [Zb0,List.length_append,Zfj,Zbr,uh HDL]] at o8
 exact Zak o8 (by have:=h7.size; omega)
