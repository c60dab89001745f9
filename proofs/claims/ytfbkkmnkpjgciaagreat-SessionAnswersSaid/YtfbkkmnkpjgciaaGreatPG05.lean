/- Joined of SPacket SProved HEnd SLeaf SSub. No condition. -/
import Derived.Test.YtfbkkmnkpjgciaaGreatPG04
import Derived.Test.YtfbkkmnkpjgciaaGreatPG00
import Derived.Laws.Rows
import Derived.Laws.ResultCell
import Derived.Test.YtfbkkmnkpjgciaaGreatPG02
import Derived.BigQuiet
import Derived.Test.YtfbkkmnkpjgciaaGreatPG01
import Derived.Lib.SliceRun
namespace Go.Proofs.YtfbkkmnkpjgciaaGreat
open Go.RowKit
def Zdc (f:UInt8) (id n:Nat) (kb:UInt8) (data:List UInt8):List UInt8:=Zbh f [leB (id:Int) 4,leB (n:Int) 4,[kb],data]
def Zb0 (f:UInt8) (ks:List UInt8) (id n:Nat) (kb:UInt8) (data:List UInt8):List UInt8:=Zdc f id n kb data++leB (sumF ks (Zdc f id n kb data)) 8
theorem Zfj (f:UInt8) (id n:Nat) (kb:UInt8) (data:List UInt8):(Zdc f id n kb data).length=10+data.length:=by simp [Zdc,Zbh,Zbr]; omega
def PackR (B:Nat) (f:UInt8) (ks:List UInt8) (id n:Nat) (kb:UInt8) (data:List UInt8):Nat→Value→World→Prop
 | 4,v,w=>ZaR w 4 (leB (id:Int) 4) v
 | 7,v,w=>ZaR w 4 (leB (n:Int) 4) v
 | 10,v,w=>ZaR w 1 [kb] v
 | 12,v,w=>Zbx w 4 [leB (id:Int) 4,leB (n:Int) 4,[kb],data] v
 | 13,v,w=>ZaR w (Zdc f id n kb data).length (Zdc f id n kb data) v
 | 14,v,w=>Zdn B w (Zb0 f ks id n kb data).length (Zb0 f ks id n kb data) v
 | _,_,_=>True
theorem PackR.keep {B:Nat} {f:UInt8} {ks:List UInt8} {id n:Nat} {kb:UInt8} {data:List UInt8}:∀ (k:Nat) (v:Value) (w w':World),PackR B f ks id n kb data k v w→Below w.heap.size w w'→PackR B f ks id n kb data k v w':=by
 intro k v w w' h hb
 unfold PackR at *
 split at h
 · exact h.below hb
 · exact h.below hb
 · exact h.below hb
 · exact h.below hb
 · exact h.below hb
 · exact h.below hb
 · trivial
set_option maxRecDepth 100000 in
set_option maxHeartbeats 8000000 in
theorem packet_sx (w:World) (f:UInt8) (ks:List UInt8) (hk:ks.length=16) (id n:Nat) (hid:id < 4294967296) (hnn:n < 4294967296) (kb:UInt8) (A:Option Addr) (m c:Nat) (data:List UInt8) (hr:Zaj w w.heap.size 1 A m (bsV data)) (hm:m≤c) (hc:c≤maxLen) (hd:data.length≤900) :
  Calls Tryz.prog 87 #[.int .u8 (f.toNat:Int),.agg (bsV ks).toArray,.int .u32 (id:Int),.int .u32 (n:Int),.int .i64 (kb.toNat:Int),.slice A m c] w
   fun e w'=>∃ v,e=.returned v∧w'.ownsRow w.heap.size 5 1 v (Zb0 f ks id n kb data).length (bsV (Zb0 f ks id n kb data))∧Below w.heap.size w w':=by
 obtain ⟨W1,hW1⟩ :∃W1,w.alloc (.cells (bsV ks).toArray 46)=W1:=⟨_,rfl⟩
 have K1:Hid (Blk W1 w.heap.size 46 (bsV ks).toArray):=jd (hW1 ▸ Blk.new w _ _)
 have B1:Hid (Below w.heap.size w W1):=jd (hW1 ▸ (Below.refl _ _).alloc (Nat.le_refl _) _)
 have D1:Hid (Zaj W1 W1.heap.size 1 A m (bsV data)):=jd (((hr.below (uh B1))).more (uh B1).size)
 have HW1:=jd hW1
 have HSZ:=jd (Zbo hk)
 have HK:=jd hk
 have HM:=jd hm
 have HC:=jd hc
 have HD:=jd hd
 have EGL:=ZaO Tryz.func50 (by kernel_rfl) rfl
 have EGJ:=ZaO Tryz.func49 (by kernel_rfl) rfl
 have EGS:=ZaO Tryz.func106 (by kernel_rfl) rfl
 have EGL':=jd EGL
 have EGJ':=jd EGJ
 have EGS':=jd EGS
 have hkb:=kb.toNat_lt
 have wid:IntKind.u64.wrap (id:Int)=(id:Int):=IntWalk.u64_in _ (by omega)
 have wn:IntKind.u64.wrap (n:Int)=(n:Int):=IntWalk.u64_in _ (by omega)
 have hkw:IntKind.u8.wrap (kb.toNat:Int)=(kb.toNat:Int):=by rw [IntKind.wrap_u8']; omega
 have hml:data.length=m:=by have:=hr.1; simpa [bsV] using this
 clear hW1 hr hk hm hc hd EGL EGJ EGS hml
 go_enter Tryz.func87,Tryz.ntmps87
 go_upto_region 1 with fail
 rw [uh HW1]
 clear HW1
 have hS0:Below W1.heap.size W1 W1.drew:=(Below.refl _ _).drew
 refine wp_region_noPanic (wp_region_held_drew (S:=fun wz=>Below W1.heap.size W1 wz) (by kernel_rfl) hS0 (fun _=>?_))
 refine tJz 0 rfl (Zar 46 (.tmp 7) (by rfl) rfl w.heap.size rfl 46 (bsV ks).toArray _ (fun _ h=>(uh K1).below h (uh K1).lt) Tryz.underlying46 rfl (uh HSZ)) hS0 ?_
 refine tq 1 rfl hS0 ?_
 refine tq 2 rfl hS0 ?_
 refine tJz (v:=.int .u64 (id:Int)) 3 rfl (Or.inl ⟨by rfl,fun wz hSw=>?_⟩) hS0 ?_
 ·skip
  go_simp
 refine tq 5 rfl hS0 ?_
 refine tJz (v:=.int .u64 (n:Int)) 6 rfl (Or.inl ⟨by rfl,fun wz hSw=>?_⟩) hS0 ?_
 ·skip
  go_simp
 refine tq 8 rfl hS0 ?_
 refine tJz (v:=.int .u8 (kb.toNat:Int)) 9 rfl (Or.inl ⟨by rfl,fun wz hSw=>?_⟩) hS0 ?_
 ·skip
  go_simp
 refine tq 11 rfl hS0 ?_
 refine ZbH (PackR w.heap.size f ks id n kb data) W1 [4,7,10,12,13,14] #[true,true,true,true,true,true,true,true,true,true,true,true,true,true,true,false] [(4,some 17),(7,some 20),(10,some 23),(12,some 25),(13,some 26),(14,some 27)] 28 1 (by kernel_rfl) rfl PackR.keep (fun _ h=>h) hS0 ⟨?_,?_,?_,?_,?_,?_,trivial⟩ ?_ rfl
 ·intro a wa hBa hout hin
  refine ZaI (argv:=[.int .u64 (id:Int),.int .i64 ((4:Nat):Int)]) rfl rfl rfl rfl (uh EGL') ?_ ?_
  ·show [a.eval (.tmp 16),_]=_
   rw [hout 16 (by kernel_rfl)]
   rfl
  · exact ZbV wa id 4 (.inl rfl)
 ·intro a wa hBa hout hin
  refine ZaI (argv:=[.int .u64 (n:Int),.int .i64 ((4:Nat):Int)]) rfl rfl rfl rfl (uh EGL') ?_ ?_
  ·show [a.eval (.tmp 19),_]=_
   rw [hout 19 (by kernel_rfl)]
   rfl
  · exact ZbV wa n 4 (.inl rfl)
 ·intro a wa hBa hout hin
  have e:a.eval (.tmp 22)=.int .u8 (kb.toNat:Int):=hout 22 (by kernel_rfl)
  refine ZaF rfl rfl (v:=.slice (some ⟨wa.heap.size,0,none⟩) 1 1) (w':=wa.alloc (.cells #[.int .u8 (kb.toNat:Int)] 5)) ?_ ⟨(Below.refl _ _).alloc (Nat.le_refl _) _,ZaR.new1 kb⟩
  simp [execOp,e,Za0]
 ·intro a wa hBa hout hin
  obtain ⟨A4,c4,e4,h41,h42,h43⟩:=hin 4 17 (by kernel_rfl)
  obtain ⟨A7,c7,e7,h71,h72,h73⟩:=hin 7 20 (by kernel_rfl)
  obtain ⟨A10,c10,e10,h101,h102,h103⟩:=hin 10 23 (by kernel_rfl)
  have e11:a.eval (.tmp 24)=.slice A m c:=hout 24 (by kernel_rfl)
  have hd:=((uh D1).below hBa).more hBa.size
  refine ZaF rfl rfl (v:=.slice (some ⟨wa.heap.size,0,none⟩) 4 4) (w':=wa.alloc (.cells [Value.slice A4 4 c4,.slice A7 4 c7,.slice A10 1 c10,.slice A m c].toArray 22)) ?_ ⟨(Below.refl _ _).alloc (Nat.le_refl _) _,Zbx.new 4 rfl (.cons h41 h42 h43 (.cons h71 h72 h73 (.cons h101 h102 h103 (.cons (uh HM) (uh HC) hd (.nil _ _)))))⟩
  simp [execOp,e4,e7,e10,e11,Ze7]
 ·intro a wa hBa hout hin
  refine ZaI (argv:=[.int .u8 (f.toNat:Int),a.eval (.tmp 25)]) rfl rfl rfl rfl (uh EGJ') ?_ ?_
  ·show [a.eval (.tmp 14),_]=_
   rw [hout 14 (by kernel_rfl)]
   rfl
  · exact (Zdy wa f 4 _ _ (hin 12 25 (by kernel_rfl)) (by have:=uh HD; simp [Zbr]; omega) (by omega)).mono fun e w' ⟨v,he,ho,hb⟩=>⟨v,he,hb,ZaR.of_own ho⟩
 ·intro a wa hBa hout hin
  obtain ⟨A5,c5,e5,h51,h52,h53⟩:=hin 13 26 (by kernel_rfl)
  refine ZaI (argv:=[.agg (bsV ks).toArray,.slice A5 (Zdc f id n kb data).length c5]) rfl rfl rfl rfl (uh EGS') ?_ ?_
  ·show [a.eval (.tmp 13),a.eval (.tmp 26)]=_
   rw [hout 13 (by kernel_rfl),e5]
   rfl
  ·refine (seal_any ks (Zdc f id n kb data) (uh HK) A5 _ c5 wa h53 h51 h52 (by rw [Zfj]; have:=uh HD; omega)).mono fun e w' ⟨v,he,ho,hb⟩=>⟨v,he,hb,?_⟩
   have e6:bsV (Zdc f id n kb data)++bsV (leB (sumF ks (Zdc f id n kb data)) 8)=bsV (Zb0 f ks id n kb data):=by simp [Zb0,bsV]
   have e7:(Zdc f id n kb data).length+8=(Zb0 f ks id n kb data).length:=by simp [Zb0,Zbr]
   rw [e6,e7] at ho
   exact Zak ho (Nat.le_trans (uh B1).size hBa.size)
 intro vals ww hBw hRw
 simp only [puts,Act.put,zA,zB,zC]
 have h14:Zdn w.heap.size ww _ _ (vals 14):=hRw 14 (by rfl)
 refine tq 15 rfl hBw ?_
 refine tDz ?_
 have H14:=jd h14
 have HB:=jd ((uh B1).trans (hBw.mono (uh B1).size))
 clear h14 hRw hBw hS0
 go_wp2_with fail
 go_ret
 exact ⟨_,rfl,uh H14,uh HB⟩
def headF (f:UInt8) (id:Nat):List UInt8:=Zbh f [leB (id:Int) 4]
def ZdN (f:UInt8) (id cl sv:Nat) (lb:UInt8):List UInt8:=Zbh f [leB (id:Int) 4,leB (cl:Int) 8,leB (sv:Int) 8,[lb]]
def ZbB (f:UInt8) (ks:List UInt8) (id cl sv:Nat) (lb:UInt8):List UInt8:=headF f id++leB (sumF ks (ZdN f id cl sv lb)) 8
theorem headF_len (f:UInt8) (id:Nat):(headF f id).length=5:=by simp [headF,Zbh,Zbr]
theorem ptextF_len (f:UInt8) (id cl sv:Nat) (lb:UInt8):(ZdN f id cl sv lb).length=22:=by simp [ZdN,Zbh,Zbr]
theorem ZbY (f:UInt8) (ks:List UInt8) (id cl sv:Nat) (lb:UInt8):(ZbB f ks id cl sv lb).length=13:=by simp [ZbB,headF_len,Zbr]
theorem headF_tail (f:UInt8) (id:Nat):(headF f id).drop 1=leB (id:Int) 4:=by simp [headF,Zbh]
def ProvR (f:UInt8) (id cl sv:Nat) (lb:UInt8):Nat→Value→World→Prop
 | 4,v,w=>ZaR w 8 (leB (cl:Int) 8) v
 | 6,v,w=>ZaR w 8 (leB (sv:Int) 8) v
 | 9,v,w=>ZaR w 1 [lb] v
 | 10,v,w=>Zbx w 4 [leB (id:Int) 4,leB (cl:Int) 8,leB (sv:Int) 8,[lb]] v
 | 11,v,w=>ZaR w 22 (ZdN f id cl sv lb) v
 | _,_,_=>True
theorem ProvR.keep {f:UInt8} {id cl sv:Nat} {lb:UInt8}:∀ (k:Nat) (v:Value) (w w':World),ProvR f id cl sv lb k v w→Below w.heap.size w w'→ProvR f id cl sv lb k v w':=by
 intro k v w w' h hb
 unfold ProvR at *
 split at h
 · exact h.below hb
 · exact h.below hb
 · exact h.below hb
 · exact h.below hb
 · exact h.below hb
 · trivial
set_option maxRecDepth 100000 in
set_option maxHeartbeats 8000000 in
theorem Zeq (w:World) (f:UInt8) (ks:List UInt8) (hk:ks.length=16) (id cl sv:Nat) (hid:id < 4294967296) (lb:UInt8) :
  Calls Tryz.prog 52 #[.int .u8 (f.toNat:Int),.agg (bsV ks).toArray,.int .u32 (id:Int),.int .u64 (cl:Int),.int .u64 (sv:Int),.int .i64 (lb.toNat:Int)] w
    fun e w'=>∃ v,e=.returned v∧w'.ownsRow w.heap.size 5 1 v 13 (bsV (ZbB f ks id cl sv lb))∧Below w.heap.size w w':=by
 obtain ⟨i0,hi,hz0,hz1,hz2⟩:=info_parts ZcF
 obtain ⟨W1,hW1⟩ :∃W1,w.alloc (.cells (bsV ks).toArray 46)=W1:=⟨_,rfl⟩
 have K1:Hid (Blk W1 w.heap.size 46 (bsV ks).toArray):=jd (hW1 ▸ Blk.new w _ _)
 have B1:Hid (Below w.heap.size w W1):=jd (hW1 ▸ (Below.refl _ _).alloc (Nat.le_refl _) _)
 have hs1:w.heap.size < W1.heap.size:=(uh K1).lt
 have HW1:=jd hW1
 have HSZ:=jd (Zbo hk)
 have HK:=jd hk
 have EGL':=jd (ZaO Tryz.func50 (by kernel_rfl) rfl)
 have EGJ':=jd (ZaO Tryz.func49 (by kernel_rfl) rfl)
 have hlb:=lb.toNat_lt
 have hlw:IntKind.u8.wrap (lb.toNat:Int)=(lb.toNat:Int):=by rw [IntKind.wrap_u8']; omega
 have wid:IntKind.u64.wrap (id:Int)=(id:Int):=IntWalk.u64_in _ (by omega)
 clear hW1 hk
 go_enter Tryz.func52,Tryz.ntmps52
 go_wp2_with fail
 rw [uh HW1]
 refine (ZbV W1 id 4 (.inl rfl)).mono ?_
 rintro e w2 ⟨v,rfl,hb2,hs2⟩
 obtain ⟨A2,c2,rfl,h21,h22,h23⟩:=hs2
 have P2:=jd (Zbx.new (w:=w2) (t:=22) 1 rfl (.cons h21 h22 h23 (.nil _ _)))
 have X2:=jd ((Below.refl W1.heap.size W1).trans hb2)
 clear h21 h22 h23 hb2
 go_wp2_with fail
 refine (Zdy _ f 1 _ _ (uh P2) (by simp [Zbr]) (by omega)).mono ?_
 rintro e w3 ⟨v3,rfl,ho3,hb3⟩
 have hl3:(Zbh f [leB (id:Int) 4]).length=5:=headF_len f id
 rw [hl3] at ho3
 have hs2:W1.heap.size≤w2.heap.size:=(uh X2).size
 have X3:=jd ((uh X2).trans ((((Below.refl w2.heap.size w2).alloc (Nat.le_refl _) _).trans (hb3.mono (by rw [Zae]; omega))).mono hs2))
 obtain ⟨g3,c3,hv3,_,hg3⟩:=ho3.form (by omega)
 subst hv3
 have ho3':=Zak ho3 (show w.heap.size≤_ by rw [Zae]; omega)
 have HO3:=jd ho3'
 obtain ⟨_,_,hA3,hc35,hc3m⟩:=Zac ho3
 injection hA3 with hA3 _ hc3e
 subst hc3e
 have hr3:=Zaj.of_own ho3
 have hcut:=hr3.cut (k:=1) (cap:=c3) (by omega) hc35
 have hc1:¬ (c3=1):=by omega
 have ec3:(if c3=1 then some (⟨g3,0,none⟩:Addr) else (some (⟨g3,0,none⟩:Addr)).map (·.add (1*1)))=some ⟨g3,1,none⟩:=by rw [if_neg hc1]; rfl
 rw [ec3,show (bsV (Zbh f [leB (id:Int) 4])).drop (1*1)=bsV (leB (id:Int) 4) from by simp [bsV,Zbh]] at hcut
 have HCT:=jd hcut
 have hs3:W1.heap.size≤w3.heap.size:=(uh X3).size
 have hcz:(1:Int)≤(c3:Int):=by omega
 have hcz2:(5:Int)≤(c3:Int):=by omega
 clear ho3 ho3' hb3 hr3 hcut ec3 P2 X2 hA3
 go_upto_region 2 with fail
 have hsl:∀ W:World,(Instr.sliceAt 22 (.slice (some ⟨g3,0,none⟩) 5 c3) (some (.int .i64 1)) none none).run Tryz.prog W=.ok (.slice (some ⟨g3,1,none⟩) 4 (c3 - 1)) W:=by
  intro W
  go_simp
 have hS0:Below w3.heap.size w3 w3.drew:=(Below.refl _ _).drew
 refine wp_region_noPanic (wp_region_held_drew (S:=fun wz=>Below w3.heap.size w3 wz) (by kernel_rfl) hS0 (fun _=>?_))
 refine tq 0 rfl hS0 ?_
 refine tq 1 rfl hS0 ?_
 refine tJz (v:=.slice (some ⟨g3,1,none⟩) 4 (c3 - 1)) 2 rfl (Or.inl ⟨by rfl,fun wz hSw=>?_⟩) hS0 ?_
 ·skip
  go_simp
 refine tq 3 rfl hS0 ?_
 refine tq 5 rfl hS0 ?_
 refine tq 7 rfl hS0 ?_
 refine tJz (v:=.int .u8 (lb.toNat:Int)) 8 rfl (Or.inl ⟨by rfl,fun wz hSw=>?_⟩) hS0 ?_
 ·skip
  go_simp
 refine ZbH (ProvR f id cl sv lb) w3 [4,6,9,10,11] #[true,true,true,true,true,true,true,true,true,true,true,true,false] [(4,some 25),(6,some 27),(9,some 30),(10,some 31),(11,some 32)] 39 1 (by kernel_rfl) rfl ProvR.keep (fun _ h=>h) hS0 ⟨?_,?_,?_,?_,?_,trivial⟩ ?_ rfl
 ·intro a wa hBa hout hin
  refine ZaI [.int .u64 (cl:Int),.int .i64 ((8:Nat):Int)] rfl rfl rfl rfl (uh EGL') ?_ ?_
  · show [a.eval (.tmp 24),_]=_
    rw [hout 24 (by kernel_rfl)]
    rfl
  · exact ZbV wa cl 8 (.inr rfl)
 ·intro a wa hBa hout hin
  refine ZaI [.int .u64 (sv:Int),.int .i64 ((8:Nat):Int)] rfl rfl rfl rfl (uh EGL') ?_ ?_
  · show [a.eval (.tmp 26),_]=_
    rw [hout 26 (by kernel_rfl)]
    rfl
  · exact ZbV wa sv 8 (.inr rfl)
 ·intro a wa hBa hout hin
  have e:a.eval (.tmp 29)=.int .u8 (lb.toNat:Int):=hout 29 (by kernel_rfl)
  refine ZaF rfl rfl (v:=.slice (some ⟨wa.heap.size,0,none⟩) 1 1) (w':=wa.alloc (.cells #[.int .u8 (lb.toNat:Int)] 5)) ?_ ⟨(Below.refl _ _).alloc (Nat.le_refl _) _,ZaR.new1 lb⟩
  simp [execOp,e,Za0]
 ·intro a wa hBa hout hin
  obtain ⟨A4,c4,e4,h41,h42,h43⟩:=hin 4 25 (by kernel_rfl)
  obtain ⟨A6,c6,e6,h61,h62,h63⟩:=hin 6 27 (by kernel_rfl)
  obtain ⟨A9,c9,e9,h91,h92,h93⟩:=hin 9 30 (by kernel_rfl)
  have e2:a.eval (.tmp 23)=.slice (some ⟨g3,1,none⟩) 4 (c3 - 1):=hout 23 (by kernel_rfl)
  have hd:=((uh HCT).below hBa).more hBa.size
  refine ZaF rfl rfl (v:=.slice (some ⟨wa.heap.size,0,none⟩) 4 4) (w':=wa.alloc (.cells [Value.slice (some ⟨g3,1,none⟩) 4 (c3 - 1),.slice A4 8 c4,.slice A6 8 c6,.slice A9 1 c9].toArray 22)) ?_ ⟨(Below.refl _ _).alloc (Nat.le_refl _) _,Zbx.new 4 rfl (.cons (by omega) (by omega) hd (.cons h41 h42 h43 (.cons h61 h62 h63 (.cons h91 h92 h93 (.nil _ _)))))⟩
  simp [execOp,e2,e4,e6,e9,Ze7]
 ·intro a wa hBa hout hin
  refine ZaI [.int .u8 (f.toNat:Int),a.eval (.tmp 31)] rfl rfl rfl rfl (uh EGJ') ?_ ?_
  · show [a.eval (.tmp 21),_]=_
    rw [hout 21 (by kernel_rfl)]
    rfl
  · exact (Zdy wa f 4 _ _ (hin 10 31 (by kernel_rfl)) (by simp [Zbr]) (by omega)).mono fun e w' ⟨v,he,ho,hb⟩=>⟨v,he,hb,by
     have h:=ZaR.of_own ho
     have hl:(Zbh f [leB (id:Int) 4,leB (cl:Int) 8,leB (sv:Int) 8,[lb]]).length=22:=ptextF_len f id cl sv lb
     rw [hl] at h
     exact h⟩
 intro vals ww hBw hRw
 simp only [puts,Act.put,zA,zB,zC]
 obtain ⟨A5,c5,e5,h51,h52,h53⟩:ZaR ww 22 (ZdN f id cl sv lb) (vals 11):=hRw 11 (by rfl)
 rw [e5]
 refine tq 12 rfl hBw ?_
 refine tDz ?_
 have X4:=jd ((uh X3).trans (hBw.mono hs3))
 have R5:=jd h53
 have HO4:=jd (Zam (uh HO3) hBw)
 have K4:=jd ((uh K1).below (uh X4) (by omega))
 clear h53 hRw hBw hS0 e5
 go_wp2_with (first
 | (refine wpList_load_row rfl 46 _ rfl w.heap.size rfl 46 _ _ _ (uh K4) Tryz.underlying46 rfl (uh HSZ) ?_)
 | fail)
 refine (sum_any ks (ZdN f id cl sv lb) (uh HK) A5 22 c5 ww (uh R5) h51 h52).mono ?_
 rintro e w6 ⟨rfl,hb6⟩
 have X6:=jd ((uh X4).trans (hb6.mono (uh X4).size))
 have HO6:=jd (Zam (uh HO4) hb6)
 clear hb6
 obtain ⟨sm,hsm⟩ :∃sm:Nat,sumF ks (ZdN f id cl sv lb)=(sm:Int):=⟨_,(Int.toNat_of_nonneg (Zcd _ _)).symm⟩
 have HSM:=jd hsm
 rw [hsm]
 clear hsm
 go_wp2_with fail
 refine (ZbV w6 sm 8 (.inr rfl)).mono ?_
 rintro e w7 ⟨v7,rfl,hb7,hs7⟩
 obtain ⟨A7,c7,rfl,h71,h72,h73⟩:=hs7
 have X7:=jd ((uh X6).trans (hb7.mono (uh X6).size))
 have HO7:=jd (Zam (uh HO6) hb7)
 have R7:=jd h73
 have hs7:w.heap.size≤w7.heap.size:=Nat.le_trans (Nat.le_of_lt hs1) (uh X7).size
 clear h73 hb7
 go_wp2_with (first
 |(at_builtin; refine ZbJ w7 (.tmp 33) (.tmp 37) 22 _ A7 8 c7 rfl rfl rfl rfl w.heap.size 5 i0 (.int .u8 0) 1 Tryz.underlying22 hi hz0 hz1 hz2 rfl _ _ (uh HO7) w7.heap.size _ (uh R7) (ZaL _) (by unfold maxLen; omega) (by omega) hs7 ?_
   intro v8 w8 ho8 hb8
   have HO8:=jd ho8
   have HB8:=jd hb8
   clear ho8 hb8)
 | fail)
 go_ret
 refine ⟨_,rfl,?_,((uh B1).trans ((uh X7).mono (Nat.le_of_lt hs1))).trans (uh HB8)⟩
 have e9:bsV (ZbB f ks id cl sv lb)=bsV (Zbh f [leB (id:Int) 4])++bsV (leB (sm:Int) 8):=by rw [← uh HSM]; simp [ZbB,headF,bsV]
 rw [e9]
 exact uh HO8
theorem res1 {P:Program} {w:World} {fn:Func} {p:Tmp} {ty:TypeId} (h:fn.results=#[.cell p ty]) (tmps:Array Value) (g:Nat) (t:TypeId) (cs:Array Value) (d:TypeDesc)
 (hp:tmps.getD p undef=.pointer (some ⟨g,0,none⟩)) (hg:Blk w g t cs)
 (hu:P.underlying ty=some d) (hd:(match d with | .struct _ | .array _ _=>true | _=>false)=true) (hi:(P.info? ty).map (·.size)=some cs.size) :
 (results fn tmps).run P w=.ok (.agg cs) w:=results_cell_row h tmps w g t cs (0,0) d hp hg hu hd hi
theorem res2 {P:Program} {w:World} {fn:Func} {p u:Tmp} {ty:TypeId} (h:fn.results=#[.cell p ty,.tmp u]) (tmps:Array Value) (g:Nat) (t:TypeId) (cs:Array Value) (d:TypeDesc) (z:Value)
  (hp:tmps.getD p undef=.pointer (some ⟨g,0,none⟩)) (hz:tmps.getD u undef=z) (hg:Blk w g t cs)
  (hu:P.underlying ty=some d) (hd:(match d with | .struct _ | .array _ _=>true | _=>false)=true) (hi:(P.info? ty).map (·.size)=some cs.size) :
  (results fn tmps).run P w=.ok (.tuple #[.agg cs,z]) w:=by
 have hp':tmps[p]?.getD undef=.pointer (some ⟨g,0,none⟩):=by simpa using hp
 have hz':tmps[u]?.getD undef=z:=by simpa using hz
 simp [results,h,hp',hz',asAddr,run_loadVar_row w g t ty cs (0,0) d hg hu hd hi]
theorem res3 {P:Program} {w:World} {fn:Func} {p q u:Tmp} {ty ty':TypeId} (h:fn.results=#[.cell p ty,.cell q ty',.tmp u]) (tmps:Array Value) (g g':Nat) (t t':TypeId) (cs cs':Array Value) (d d':TypeDesc) (z:Value)
  (hp:tmps.getD p undef=.pointer (some ⟨g,0,none⟩)) (hq:tmps.getD q undef=.pointer (some ⟨g',0,none⟩)) (hz:tmps.getD u undef=z) (hg:Blk w g t cs) (hg':Blk w g' t' cs')
  (hu:P.underlying ty=some d) (hd:(match d with | .struct _ | .array _ _=>true | _=>false)=true) (hi:(P.info? ty).map (·.size)=some cs.size)
  (hu':P.underlying ty'=some d') (hd':(match d' with | .struct _ | .array _ _=>true | _=>false)=true) (hi':(P.info? ty').map (·.size)=some cs'.size) :
  (results fn tmps).run P w=.ok (.tuple #[.agg cs,.agg cs',z]) w:=by
 have hp':tmps[p]?.getD undef=.pointer (some ⟨g,0,none⟩):=by simpa using hp
 have hq':tmps[q]?.getD undef=.pointer (some ⟨g',0,none⟩):=by simpa using hq
 have hz':tmps[u]?.getD undef=z:=by simpa using hz
 simp [results,h,hp',hq',hz',asAddr,run_loadVar_row w g t ty cs (0,0) d hg hu hd hi,run_loadVar_row w g' t' ty' cs' (0,0) d' hg' hu' hd' hi']
theorem below2 (w:World) (A B:Obj):Below w.heap.size w ((w.alloc A).alloc B):=((Below.refl _ _).alloc (Nat.le_refl _) A).alloc (by simp) B
theorem ZbD (w:World) (n:Int) (r:Bool) (hr:decide (1≤n∧n≤3)=r):Calls Tryz.prog 44 #[.int .i64 n] w fun e w'=>e=.returned (.bool r)∧w=w':=by
 by_cases h1:1≤n
 ·by_cases h2:n≤3
  ·obtain rfl:true=r:=by rw [← hr]; simp; omega
   clear hr
   go_enter Tryz.func44,Tryz.ntmps44
   go_wp2_with fail
   go_ret
   exact ⟨rfl,rfl⟩
  ·obtain rfl:false=r:=by rw [← hr]; simp; omega
   clear hr
   go_enter Tryz.func44,Tryz.ntmps44
   go_wp2_with fail
   go_ret
   exact ⟨rfl,rfl⟩
 ·obtain rfl:false=r:=by rw [← hr]; simp; omega
  clear hr
  go_enter Tryz.func44,Tryz.ntmps44
  go_wp2_with fail
  go_ret
  exact ⟨rfl,rfl⟩
theorem Zbj (w:World) (n:Int) (r:Bool) (hr:decide (0≤n∧n≤17179869184)=r):Calls Tryz.prog 43 #[.int .i64 n] w fun e w'=>e=.returned (.bool r)∧w=w':=by
 by_cases h1:0≤n
 ·by_cases h2:n≤17179869184
  ·obtain rfl:true=r:=by rw [← hr]; simp; omega
   clear hr
   go_enter Tryz.func43,Tryz.ntmps43
   go_wp2_with fail
   go_ret
   exact ⟨rfl,rfl⟩
  ·obtain rfl:false=r:=by rw [← hr]; simp; omega
   clear hr
   go_enter Tryz.func43,Tryz.ntmps43
   go_wp2_with fail
   go_ret
   exact ⟨rfl,rfl⟩
 ·obtain rfl:false=r:=by rw [← hr]; simp; omega
  clear hr
  go_enter Tryz.func43,Tryz.ntmps43
  go_wp2_with fail
  go_ret
  exact ⟨rfl,rfl⟩
def ZeK (kind:Int) (n:Nat) (out:Int):Int:=if kind≠0∧kind≠1 then 2 else if 256 < n∨out=4294967295 then 3 else 0
theorem ZdS (w:World) (kind:Int) (A:Option Addr) (n c:Nat) (out:Int) (x:Int) (hx:ZeK kind n out=x):Calls Tryz.prog 86 #[.int .i64 kind,.slice A n c,.int .u32 out] w
  fun e w'=>e=.returned (.int .i64 x)∧w=w':=by
 by_cases k0:kind=0
 ·subst k0
  by_cases h1:256 < n
  ·obtain rfl:3=x:=by rw [← hx]; simp [ZeK,h1]
   clear hx
   go_enter Tryz.func86,Tryz.ntmps86
   go_wp2_with fail
   go_ret
   exact ⟨rfl,rfl⟩
  ·by_cases h2:out=4294967295
   ·subst h2
    obtain rfl:3=x:=by rw [← hx]; simp [ZeK]
    clear hx
    go_enter Tryz.func86,Tryz.ntmps86
    go_wp2_with fail
    go_ret
    exact ⟨rfl,rfl⟩
   ·obtain rfl:0=x:=by rw [← hx]; simp [ZeK,h1,h2]
    clear hx
    have h2:(out==4294967295)=false:=by simpa using h2
    go_enter Tryz.func86,Tryz.ntmps86
    go_wp2_with fail
    go_ret
    exact ⟨rfl,rfl⟩
 ·by_cases k1:kind=1
  ·subst k1
   by_cases h1:256 < n
   ·obtain rfl:3=x:=by rw [← hx]; simp [ZeK,h1]
    clear hx
    go_enter Tryz.func86,Tryz.ntmps86
    go_wp2_with fail
    go_ret
    exact ⟨rfl,rfl⟩
   ·by_cases h2:out=4294967295
    ·subst h2
     obtain rfl:3=x:=by rw [← hx]; simp [ZeK]
     clear hx
     go_enter Tryz.func86,Tryz.ntmps86
     go_wp2_with fail
     go_ret
     exact ⟨rfl,rfl⟩
    ·obtain rfl:0=x:=by rw [← hx]; simp [ZeK,h1,h2]
     clear hx
     have h2:(out==4294967295)=false:=by simpa using h2
     go_enter Tryz.func86,Tryz.ntmps86
     go_wp2_with fail
     go_ret
     exact ⟨rfl,rfl⟩
  ·obtain rfl:2=x:=by rw [← hx]; simp [ZeK,k0,k1]
   clear hx
   have k2:(kind != 0)=true:=by simpa using k0
   have k3:(kind != 1)=true:=by simpa using k1
   go_enter Tryz.func86,Tryz.ntmps86
   go_wp2_with fail
   go_ret
   exact ⟨rfl,rfl⟩
set_option maxRecDepth 100000 in
theorem new_sx (w:World):Calls Tryz.prog 10 #[] w fun e w'=>e=.returned (.agg #[.slice none 0 0,.int .u32 1])∧Below w.heap.size w w':=by
 have HZ:=jd (Blk.new w 29 #[.slice none 0 0,.int .u32 0])
 have HB:=jd ((Below.refl w.heap.size w).alloc (Nat.le_refl _) (.cells #[.slice none 0 0,.int .u32 0] 29))
 have one:∀ v∈(#[Value.slice none 0 0,.int .u32 1] : Array Value).toList,v.oneCell'=true:=by intro v hv; simp at hv; rcases hv with rfl | rfl<;>rfl
 go_enter Tryz.func10,Tryz.ntmps10
 go_wp2_with (first
  |(refine Zaa rfl 29 (.tmp 0) (.tmp 1) rfl w.heap.size 29 _ #[.slice none 0 0,.int .u32 1] rfl rfl (uh HZ) rfl (by kernel_rfl) one ?_
    intro w9 hb9 hg9
    have Z9:=jd hb9
    have B9:=jd ((uh HB).grown hg9 (by simp) (fun j e=>by injection e with e; omega))
    clear hb9 hg9)
  | fail)
 exact bodyPost_ret (v:=.agg #[.slice none 0 0,.int .u32 1]) (res1 rfl _ w.heap.size 29 _ _ rfl (uh Z9) Tryz.underlying29 rfl (by kernel_rfl)) rfl ⟨rfl,uh B9⟩
theorem bits8 (x y:Nat) (hx:x < 256) (hy:y < 256):(BitVec.ofInt 8 (x:Int)).toNat=x∧(BitVec.ofInt 8 (y:Int)).toNat=y:=by
 have e:∀ a:Nat,a < 256→(BitVec.ofInt 8 (a:Int)).toNat=a:=fun a ha=>by
  rw [BitVec.ofInt_natCast,BitVec.toNat_ofNat]; exact Nat.mod_eq_of_lt (by omega)
 exact ⟨e x hx,e y hy⟩
theorem or_u8 (x y:Nat) (hx:x < 256) (hy:y < 256):bits .or .u8 (x:Int) (y:Int)=((x ||| y:Nat):Int):=by
 have hz:x ||| y < 2 ^ 8:=Nat.or_lt_two_pow (by omega) (by omega)
 show IntKind.u8.wrap ((BitVec.ofInt 8 (x:Int) ||| BitVec.ofInt 8 (y:Int)).toNat:Int)=_
 have e:=bits8 x y hx hy
 rw [BitVec.toNat_or,e.1,e.2,IntKind.wrap_u8']
 omega
theorem xor_u8 (x y:Nat) (hx:x < 256) (hy:y < 256):bits .xor .u8 (x:Int) (y:Int)=((x ^^^ y:Nat):Int):=by
 have hz:x ^^^ y < 2 ^ 8:=Nat.xor_lt_two_pow (by omega) (by omega)
 show IntKind.u8.wrap ((BitVec.ofInt 8 (x:Int) ^^^ BitVec.ofInt 8 (y:Int)).toNat:Int)=_
 have e:=bits8 x y hx hy
 rw [BitVec.toNat_xor,e.1,e.2,IntKind.wrap_u8']
 omega
theorem or_zero (x y:Nat):x ||| y=0↔x=0∧y=0:=by
 constructor
 ·intro h
  refine ⟨?_,?_⟩
  · have:=@Nat.left_le_or x y; omega
  · have:=@Nat.right_le_or x y; omega
 · rintro ⟨rfl,rfl⟩; rfl
theorem xor_zero (x y:Nat):x ^^^ y=0↔x=y:=by
 constructor
 ·intro h
  have:=congrArg (· ^^^ y) h
  simpa [Nat.xor_assoc] using this
 · rintro rfl; simp
theorem diff_step (v:Nat) (hv:v < 256) (xs ys:List UInt8) (k:Nat) (a b:UInt8) (ha:xs[k]?=some a) (hb:ys[k]?=some b) (h:v=0↔xs.take k=ys.take k) :
  ∃ u:Nat,u < 256∧bits .or .u8 (v:Int) (bits .xor .u8 (a.toNat:Int) (b.toNat:Int))=(u:Int)∧(u=0↔xs.take (k+1)=ys.take (k+1)):=by
 have hxl:a.toNat ^^^ b.toNat < 2 ^ 8:=Nat.xor_lt_two_pow (by have:=a.toNat_lt; omega) (by have:=b.toNat_lt; omega)
 refine ⟨v ||| (a.toNat ^^^ b.toNat),?_,?_,?_⟩
 ·have:v ||| (a.toNat ^^^ b.toNat) < 2 ^ 8:=Nat.or_lt_two_pow (by omega) hxl
  omega
 · rw [xor_u8 _ _ (by have:=a.toNat_lt; omega) (by have:=b.toNat_lt; omega),or_u8 _ _ hv (by omega)]
 ·rw [or_zero,xor_zero,h,Ze4 ha,Ze4 hb]
  have ka:(xs.take k).length=k:=by rw [List.length_take]; have:=(List.getElem?_eq_some_iff.1 ha).1; omega
  have kb:(ys.take k).length=k:=by rw [List.length_take]; have:=(List.getElem?_eq_some_iff.1 hb).1; omega
  constructor
  ·rintro ⟨h1,h2⟩
   rw [h1,UInt8.toNat_inj.1 h2]
  ·intro h1
   have:=List.append_inj h1 (by omega)
   refine ⟨this.1,?_⟩
   have h2:=this.2
   injection h2 with h2 _
   rw [h2]
set_option maxRecDepth 100000 in
set_option maxHeartbeats 4000000 in
theorem equal_sx (w:World) (n:Nat) (A A':Option Addr) (c c':Nat) (xs ys:List UInt8) (B:Nat) (ha:Zaj w B 1 A n (bsV xs)) (hb:Zaj w B 1 A' n (bsV ys)) (hn:n≤1000) (r:Bool) (hr:decide (xs=ys)=r) :
  Calls Tryz.prog 51 #[.slice A n c,.slice A' n c'] w fun e w'=>e=.returned (.bool r)∧Below w.heap.size w w':=by
 have hx0:bits .xor .i64 (n:Int) (n:Int)=0:=by
  show IntKind.i64.wrap ((BitVec.ofInt 64 (n:Int) ^^^ BitVec.ofInt 64 (n:Int)).toNat:Int)=_
  rw [BitVec.xor_self]; rfl
 have hlx:xs.length=n:=by have:=ha.1; simpa using this
 have hly:ys.length=n:=by have:=hb.1; simpa using this
 have HR:=jd (show xs=ys↔r=true by rw [← hr]; simp)
 have HLX:=Lib.hid hlx
 have HLY:=Lib.hid hly
 clear hlx hly hr
 go_enter Tryz.func51,Tryz.ntmps51
 go_wp2_with fail
 go_loopw [5,6] (fun d i wr=>∃ k v:Nat,k≤n∧v < 256∧i=.int .i64 k∧d=.int .u8 (v:Int)∧Hid (v=0↔xs.take k=ys.take k)∧Below w.heap.size w wr∧Zaj wr B 1 A n (bsV xs)∧Zaj wr B 1 A' n (bsV ys)) (fun _ i _=>n - (intOf i).toNat)
 case atStart=>exact ⟨0,0,by omega,by omega,rfl,rfl,jd (by simp),Below.refl _ _,ha,hb⟩
 case round =>
  obtain ⟨k,v,hk,hv,rfl,rfl,HV,hg,hra,hrb⟩:=hrel
  by_cases hlt:k < n
  ·have RA:=jd hra
   have RB:=jd hrb
   have HG:=jd hg
   obtain ⟨ad,u,rfl,had,hx,hc⟩:=hra.at_ hlt
   obtain ⟨ad',u',rfl,had',hx',hc'⟩:=hrb.at_ hlt
   obtain ⟨a,ga,rfl,a0,a1⟩:=Zd0 hx
   obtain ⟨b,gb,rfl,b0,b1⟩:=Zd0 hx'
   obtain ⟨z,hz,ez,iz⟩:=diff_step v hv xs ys k a b ga gb (uh HV)
   have IZ:=jd iz
   clear ga gb hx hx' iz hra hrb ha hb hg HV
   go_wp2_with fail
   go_quiet (fail)
   go_wp2_with fail
   go_roundw
   case rel=>exact ⟨k+1,z,by omega,by omega,by go_num,rfl,IZ,ZaK (uh HG) _,(uh RA).drewN _,(uh RB).drewN _⟩
   case measure=>simp [intOf]; omega
  ·obtain rfl:k=n:=by omega
   have HG:=jd hg
   have hv0:v=0↔r=true:=by
    rw [uh HV,List.take_of_length_le (by rw [HLX.out]; omega),List.take_of_length_le (by rw [HLY.out]; omega)]
    exact uh HR
   have hvr:((v:Int)==0)=r:=by
    cases r with
    | true=>simpa using hv0
    | false=>simpa using hv0
   clear hra hrb ha hb hg HV hv0
   go_wp2_with fail
   go_ret
   exact ⟨rfl,uh HG⟩
theorem ZaX (w:World) (h s:Nat) :∃(W:World) (q r:Nat),q < r∧Hid (Blk W q 48 #[.int .u32 (h:Int),.int .u32 (s:Int)])∧Hid (Blk W r 48 #[.int .u32 0,.int .u32 0])∧Hid (Below w.heap.size w W)∧Hid (w.heap.size≤q)∧Hid (w.heap.size≤r)∧Hid (w.heap.size≤W.heap.size)∧Hid (w.heap.size+1=r)∧Hid (w.heap.size=q) ∧
  Hid ((w.alloc (.cells #[.int .u32 (h:Int),.int .u32 (s:Int)] 48)).alloc (.cells #[.int .u32 0,.int .u32 0] 48)=W)∧Hid (∀ a b:Int,∀ v∈(#[Value.int .u32 a,.int .u32 b] : Array Value).toList,v.oneCell'=true):=by
 have B:Below w.heap.size w ((w.alloc (.cells #[.int .u32 (h:Int),.int .u32 (s:Int)] 48)).alloc (.cells #[.int .u32 0,.int .u32 0] 48)):=((Below.refl _ _).alloc (Nat.le_refl _) _).alloc (by simp) _
 refine ⟨_,w.heap.size,w.heap.size+1,by omega,jd ((Blk.new w _ _).alloc _),jd ?_,jd B,jd (Nat.le_refl _),jd (by omega),jd B.size,jd rfl,jd rfl,jd rfl,jd ?_⟩
 ·rw [show w.heap.size+1=(w.alloc (.cells #[.int .u32 (h:Int),.int .u32 (s:Int)] 48)).heap.size by simp]
  exact Blk.new _ _ _
 ·intro a b v hv
  simp at hv
  rcases hv with rfl | rfl<;>rfl
def subA (A:Option Addr) (i c:Nat):Option Addr:=if c=i then A else A.map (·.add (i*1))
theorem elem_b:Tryz.prog.elem 22=5:=by kernel_rfl
theorem und_b:Tryz.prog.underlying 22=some (.slice (Tryz.prog.elem 22)):=by kernel_rfl
theorem size_b (W:World):(sizeOf 5).run Tryz.prog W=.ok 1 W:=by kernel_rfl
theorem sl_lh (W:World) (A:Option Addr) (n c i j:Nat) (x y:Int) (hx:x=(i:Int)) (hy:y=(j:Int)) (hij:i≤j) (hjc:j≤c) :
  (Instr.sliceAt 22 (.slice A n c) (some (.int .i64 x)) (some (.int .i64 y)) none).run Tryz.prog W=.ok (.slice (subA A i c) (j - i) (c - i)) W:=by
 subst hx hy
 rw [run_sliceAt_slice _ _ _ _ _ _ und_b,run_slice_lh W _ _ _ _ und_b .i64 .i64 _ _ (by omega) (by omega) (by omega),elem_b,size_b]
 simp [Result.andThen,sliced,subA]
theorem sl_l (W:World) (A:Option Addr) (n c i:Nat) (x:Int) (hx:x=(i:Int)) (hin:i≤n) :
  (Instr.sliceAt 22 (.slice A n c) (some (.int .i64 x)) none none).run Tryz.prog W=.ok (.slice (subA A i c) (n - i) (c - i)) W:=by
 subst hx
 rw [run_sliceAt_slice _ _ _ _ _ _ und_b,run_slice_l W _ _ _ _ und_b .i64 _ (by omega) (by omega),elem_b,size_b]
 simp [Result.andThen,sliced,subA]
theorem sl_h (W:World) (A:Option Addr) (n c j:Nat) (y:Int) (hy:y=(j:Int)) (hjc:j≤c) :
  (Instr.sliceAt 22 (.slice A n c) none (some (.int .i64 y)) none).run Tryz.prog W=.ok (.slice A j c) W:=by
 subst hy
 rw [run_sliceAt_slice _ _ _ _ _ _ und_b,run_slice_h W _ _ _ _ und_b .i64 _ (by omega) (by omega),elem_b,size_b]
 simp only [Result.andThen,sliced,Int.toNat_natCast,Nat.sub_zero]
 cases A<;>simp [Addr.add]
theorem Zaj.part {w:World} {B n c i j:Nat} {A:Option Addr} {l:List UInt8} (h:Zaj w B 1 A n (bsV l)) (hij:i≤j) (hjn:j≤n) (hnc:n≤c):Zaj w B 1 (subA A i c) (j - i) (bsV ((l.drop i).take (j - i))):=by
 have h1:=(h.cut (k:=i) (cap:=c) (by omega) hnc).take (m:=j - i) (by omega)
 have e:((bsV l).drop (i*1)).take (j - i)=bsV ((l.drop i).take (j - i)):=by simp [bsV,List.map_take,List.map_drop]
 rw [e] at h1
 exact h1
theorem Zaj.head {w:World} {B n j:Nat} {A:Option Addr} {l:List UInt8} (h:Zaj w B 1 A n (bsV l)) (hjn:j≤n):Zaj w B 1 A j (bsV (l.take j)):=by
 have h1:=h.take (m:=j) hjn
 have e:(bsV l).take j=bsV (l.take j):=by simp [bsV,List.map_take]
 rw [e] at h1
 exact h1
theorem Zaj.rest {w:World} {B n c i:Nat} {A:Option Addr} {l:List UInt8} (h:Zaj w B 1 A n (bsV l)) (hin:i≤n) (hnc:n≤c):Zaj w B 1 (subA A i c) (n - i) (bsV (l.drop i)):=by
 have h1:=h.cut (k:=i) (cap:=c) hin hnc
 have e:(bsV l).drop (i*1)=bsV (l.drop i):=by simp [bsV,List.map_drop]
 rw [e] at h1
 exact h1
theorem Zcr {w:World} {B n:Nat} {A:Option Addr} {l:List UInt8} (h:Zaj w B 1 A n (bsV l)) (hn:0 < n) :∃g o,A=some ⟨g,o,none⟩∧g < B∧∀ (j:Nat) (b:UInt8),l[j]?=some b→w.cell? ⟨g,o+j,none⟩=some (.int .u8 (b.toNat:Int)):=by
 have h1:l.length=n:=by have:=h.1; simpa [bsV] using this
 obtain ⟨ad,rfl,hb,hc⟩:=h.2 hn
 obtain ⟨g,o,sp⟩:=ad
 have hu:(bsV l)[0]?=some (.int .u8 ((l[0]'(by omega)).toNat:Int)):=by simp [bsV,List.getElem?_eq_getElem (show 0 < l.length by omega)]
 have hs:sp=none:=by simpa [Addr.add] using World.cell?_spot (hc 0 _ hu)
 subst hs
 exact ⟨g,o,rfl,hb,fun j b hj=>by have:=hc j (.int .u8 (b.toNat:Int)) (by simp [bsV,hj]); rwa [ZbM] at this⟩
theorem run_slice_0 (w:World):(Instr.buildSlice 22 0 #[]).run Tryz.prog w=.ok (.slice (some ⟨w.heap.size,0,none⟩) 0 0) (w.alloc (.cells #[] 5)):=by kernel_rfl
set_option maxRecDepth 100000 in
theorem clone_b (w:World) (A:Option Addr) (n c:Nat) (l:List UInt8) (h:Zaj w w.heap.size 1 A n (bsV l)) (hn:n≤1000000) :
  Calls Tryz.prog 105 #[.slice A n c] w fun e w'=>∃ v,e=.returned v∧w'.ownsRow w.heap.size 5 1 v n (bsV l)∧Below w.heap.size w w':=by
 obtain ⟨i0,hi,hz0,hz1,hz2⟩:=info_parts ZcF
 have q22:∀ (w:World) (a:Option Addr) (n c n' c':Nat),(binOp .eql 22 (.slice a n c) (.slice none n' c')).run Tryz.prog w=.ok (.bool a.isNone) w:=fun w a n c n' c'=>Lib.run_eql_slice_nil w _ _ a n c n' c' Tryz.underlying22
 cases A with
 |none =>
  have hn0:n=0:=by
   rcases Nat.eq_zero_or_pos n with h0 | h0
   · exact h0
   ·obtain ⟨ad,e,_⟩:=h.2 h0
    cases e
  subst hn0
  have hl:bsV l=[]:=List.eq_nil_of_length_eq_zero (by simpa using h.1)
  have HL:=jd hl
  clear hl h hn
  go_enter Tryz.func105,Tryz.ntmps105
  go_wp2_with fail
  go_ret
  exact ⟨_,rfl,by rw [uh HL]; exact World.ownsRow_nil _ _ _ _,Below.refl _ _⟩
 |some ad =>
  have HR:=jd ((h.alloc (Nat.le_refl _) (.cells #[] 5)).more (ZdD w (.cells #[] 5)))
  have HO:Hid ((w.alloc (.cells #[] 5)).ownsRow w.heap.size 5 1 (.slice (some ⟨w.heap.size,0,none⟩) 0 0) 0 []):=jd (World.ownsRow_made w #[] 0 (Nat.le_refl _) (Nat.zero_le _) (by simp))
  clear h
  go_enter Tryz.func105,Tryz.ntmps105
  go_wp2_with (first
   |(at_builtin; refine ZbJ (w.alloc (.cells #[] 5)) (.tmp 5) (.tmp 6) 22 _ (some ad) n c rfl rfl rfl rfl w.heap.size 5 i0 (.int .u8 0) 1 Tryz.underlying22 hi hz0 hz1 hz2 rfl _ _ (uh HO) _ _ (uh HR) (ZaL _) (by unfold maxLen; omega) (by omega) (ZdD _ _) ?_
     intro v8 w8 ho8 hb8
     have HO8:=jd ho8
     have HB8:=jd hb8
     clear ho8 hb8)
   | fail)
  go_ret
  exact ⟨_,rfl,by have:=uh HO8; rwa [Nat.zero_add,List.nil_append] at this,((Below.refl _ _).alloc (Nat.le_refl _) _).trans (uh HB8)⟩
end Go.Proofs.YtfbkkmnkpjgciaaGreat
