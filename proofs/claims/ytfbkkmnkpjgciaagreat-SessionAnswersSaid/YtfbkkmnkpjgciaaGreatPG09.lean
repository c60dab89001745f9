/- Joined of SLePlain SAcc SSess SValid SFind. No condition. -/
import Derived.Test.YtfbkkmnkpjgciaaGreatPG02
import Derived.Test.YtfbkkmnkpjgciaaGreatPG04
import Derived.Test.YtfbkkmnkpjgciaaGreatPG08
namespace Go.Proofs.YtfbkkmnkpjgciaaGreat
open Go.RowKit
theorem Zda (x:Nat) (k:Nat):leW (leB (x:Int) k)=x % 256 ^ k:=by
 induction k with
 | zero=>simp [leB,leW,Nat.mod_one]
 |succ k ih =>
  have e:leB (x:Int) (k+1)=leB (x:Int) k++[ZaG (x:Int) k]:=by simp [leB,List.range_succ]
  rw [e,leW_snoc,ih,Zbr]
  have h1:(ZaG (x:Int) k).toNat=x / 256 ^ k % 256:=by
   have:=Zef (x:Int) k
   rw [IntKind.wrap_u8',show (2:Int) ^ (8*k)=((256 ^ k:Nat):Int) from by rw [pow256]; simp] at this
   omega
  rw [h1,Nat.pow_succ,Nat.mod_mul]
  rw [Nat.mul_comm (x / 256 ^ k % 256)]
theorem Ze0 (x:Int) (h0:0≤x) (h1:x < 18446744073709551616):(leW (leB x 8):Int)=x:=by
 obtain ⟨X,rfl⟩:=Int.eq_ofNat_of_zero_le h0
 rw [Zda]
 have:(256:Nat) ^ 8=18446744073709551616:=rfl
 omega
theorem ZeD (ks bs:List UInt8):0≤sumF ks bs∧sumF ks bs < 18446744073709551616:=by
 have h:∀ x y,0≤xor64 x y∧xor64 x y < 18446744073709551616:=fun x y=>by
  rw [show xor64 x y=IntKind.u64.wrap _ from rfl,IntKind.wrap_u64]; omega
 exact h _ _
theorem leW_inj:∀ (l l':List UInt8),l.length=l'.length→leW l=leW l'→l=l'
 | [],[],_,_=>rfl
 | [],_::_,h,_=>by simp at h
 | _::_,[],h,_=>by simp at h
 |a::l,b::l',h,hw=>by
  simp only [leW] at hw
  have ha:=a.toNat_lt
  have hb:=b.toNat_lt
  have e1:a.toNat=b.toNat:=by omega
  have e2:leW l=leW l':=by omega
  rw [leW_inj l l' (by simpa using h) e2,UInt8.toNat_inj.1 e1]
theorem open_sealed (ks bs:List UInt8) (n:Nat) (hn:bs.length=n) :
  decide ((leW ((bs++leB (sumF ks bs) 8).drop n):Int)=sumF ks ((bs++leB (sumF ks bs) 8).take n))=true:=by
 rw [List.drop_left' hn,List.take_left' hn]
 have:=ZeD ks bs
 rw [Ze0 _ this.1 this.2]
 simp
theorem open_turned (ks bs:List UInt8) (n j:Nat) (hn:bs.length=n) (hj:j < 8) (y b:UInt8) (hb:(bs++leB (sumF ks bs) 8)[n+j]?=some b) :
  decide ((leW (((bs++leB (sumF ks bs) 8).set (n+j) (b ^^^ y)).drop n):Int)=sumF ks (((bs++leB (sumF ks bs) 8).set (n+j) (b ^^^ y)).take n))=(y==0):=by
 have e1:((bs++leB (sumF ks bs) 8).set (n+j) (b ^^^ y)).take n=bs:=by
  rw [List.take_set_of_le (by omega),List.take_left' hn]
 have e2:((bs++leB (sumF ks bs) 8).set (n+j) (b ^^^ y)).drop n=(leB (sumF ks bs) 8).set j (b ^^^ y):=by
  rw [List.drop_set,if_neg (by omega),List.drop_left' hn,Nat.add_sub_cancel_left]
 rw [e1,e2]
 have hr:=ZeD ks bs
 have hbj:(leB (sumF ks bs) 8)[j]?=some b:=by
  rw [List.getElem?_append_right (by omega),hn,Nat.add_sub_cancel_left] at hb
  exact hb
 have hlen:j < (leB (sumF ks bs) 8).length:=by rw [Zbr]; exact hj
 have hbj':(leB (sumF ks bs) 8)[j]=b:=(List.getElem?_eq_some_iff.1 hbj).2
 rw [Bool.eq_iff_iff]
 simp only [decide_eq_true_eq,beq_iff_eq]
 constructor
 ·intro h
  have h2:leW ((leB (sumF ks bs) 8).set j (b ^^^ y))=leW (leB (sumF ks bs) 8):=by
   have:=Ze0 _ hr.1 hr.2
   omega
  have h3:=leW_inj _ _ (by simp) h2
  have h4:((leB (sumF ks bs) 8).set j (b ^^^ y))[j]?=some b:=by rw [h3,hbj]
  rw [List.getElem?_set_self hlen] at h4
  injection h4 with h4
  have h5:b ^^^ (b ^^^ y)=b ^^^ b:=by rw [h4]
  rw [← UInt8.xor_assoc,UInt8.xor_self,UInt8.zero_xor] at h5
  exact h5
 ·rintro rfl
  rw [UInt8.xor_zero,← hbj',List.set_getElem_self]
  exact Ze0 _ hr.1 hr.2
theorem provF_head (f:UInt8) (ks:List UInt8) (id cl sv:Nat) (lb:UInt8):(ZbB f ks id cl sv lb)[0]?=some f:=rfl
theorem provF_id (f:UInt8) (ks:List UInt8) (id cl sv:Nat) (lb:UInt8) (h:id < 4294967296):leW (((ZbB f ks id cl sv lb).drop 1).take 4)=id:=by
 have e:((ZbB f ks id cl sv lb).drop 1).take 4=leB (id:Int) 4:=by
  have:ZbB f ks id cl sv lb=f::(leB (id:Int) 4++leB (sumF ks (ZdN f id cl sv lb)) 8):=by simp [ZbB,headF,Zbh]
  rw [this,List.drop_succ_cons,List.drop_zero]
  exact List.take_left' (Zbr _ _)
 rw [e,Zda]
 exact Nat.mod_eq_of_lt h
def AccPost (w:World) (c:Cli) (e:Ending) (w':World):Prop:=e=.returned (.tuple #[.agg c.cs.toArray,.int .i64 0])∧Below w.heap.size w w' 
set_option maxRecDepth 100000 in
set_option maxHeartbeats 8000000 in
theorem accept_ok (w:World) (c:Cli) (hok:c.Ok) (A:Option Addr) (cc:Nat) (b:List UInt8) (hr:Zaj w w.heap.size 1 A 13 (bsV b)) (hnc:13≤cc) (hcf:cliF c=true) (hop:c.opn=false) (hid0:c.id≠0)
  (hb:b=ZbB 4 c.key c.id c.nonce c.server (levB c.level)):Calls Tryz.prog 38 #[.agg c.cs.toArray,.slice A 13 cc] w (AccPost w { c with opn:=true }):=by
 have HCF:=jd hcf
 have HOP:=jd hop
 have hl:b.length=13:=by rw [hb]; exact ZbY _ _ _ _ _ _
 have hb0:b[0]?=some 4:=by rw [hb]; exact provF_head _ _ _ _ _ _
 have hbid:leW ((b.drop 1).take 4)=c.id:=by rw [hb]; exact provF_id _ _ _ _ _ _ hok.id
 obtain ⟨g,oo,hA,hgl,hcell⟩:=Zcr hr (by omega)
 have c0:=jd (hcell 0 4 hb0)
 have hlv:=jd (Zd3 (ZdJ hcf))
 have HR:=jd hr
 have HNC:=jd hnc
 have HBID:=jd hbid
 have HB:=jd hb
 have O1:({ c with opn:=true }:Cli).Ok:=⟨hok.user,hok.key,hok.sess,hok.nonce,hok.server,hok.id,hok.hi,hok.se,hok.out⟩
 have HO1:=jd O1
 have hcid:=hok.id
 have hid1:((c.id:Int)==0)=false:=by simp; omega
 have wid:IntKind.u32.wrap (c.id:Int)=(c.id:Int):=IntWalk.u32_in _ (by omega)
 have HSA:=jd (fun W=>sl_lh W A 13 cc 1 5 1 5 rfl rfl (by omega) (by omega))
 have hneq:((c.id:Int) != (c.id:Int))=false:=by simp
 clear hcf hop hr hl hcell hb0 hnc hbid hb hid0 O1
 subst hA
 have K0:Hid (Blk ((w.alloc (.cells c.cs.toArray 65)).alloc (.cells zCli.cs.toArray 65)) w.heap.size 65 c.cs.toArray):=jd ((Blk.new w 65 c.cs.toArray).alloc _)
 have K1:Hid (Blk ((w.alloc (.cells c.cs.toArray 65)).alloc (.cells zCli.cs.toArray 65)) (w.heap.size+1) 65 zCli.cs.toArray):=jd (Blk.new' (by simp))
 have B0:Hid (Below w.heap.size w ((w.alloc (.cells c.cs.toArray 65)).alloc (.cells zCli.cs.toArray 65))):=jd (((Below.refl _ _).alloc (Nat.le_refl _) _).alloc (by rw [Zae]; omega) _)
 have HOK:=jd hok
 clear hok
 go_enter Tryz.func38,Tryz.ntmps38
 go_wp2_with (first
  | (refine Zag rfl 65 rfl _ (w.heap.size+1) (Zae w _) (Zaz _) ?_)
  | (refine wpList_load_row rfl 65 _ rfl w.heap.size rfl 65 _ _ _ (uh K0) Tryz.underlying65 rfl (Zai (uh HOK)) ?_)
  | fail)
 refine (Zcb _ _ (uh HOK) _ (uh HCF)).mono ?_
 rintro e w1 ⟨rfl,hb1⟩
 have Z1:=jd ((uh K0).below hb1 (uh K0).lt)
 have Q1:=jd ((uh K1).below hb1 (uh K1).lt)
 have B1:=jd ((uh B0).trans (hb1.mono (uh B0).size))
 clear hb1
 have hat:=(c.blk (uh HOK) (uh Z1))
 have hc:=hat.opn
 rw [uh HOP] at hc
 have hc20:=hat.id
 have hc0:w1.cell? ⟨g,oo,none⟩=some (.int .u8 4):=((uh B1).cell (p:=⟨g,oo,none⟩) hgl).trans (uh c0)
 have R1:=jd ((uh HR).below (uh B1))
 have R1':=jd (((uh HR).below (uh B1)).more (uh B1).size)
 clear hat
 go_upto_region 5 with fail
 have hS0:(fun wz:World=>Blk wz w.heap.size 65 c.cs.toArray∧wz.cell? ⟨g,oo,none⟩=some (.int .u8 4)) w1.drew:=⟨uh Z1,hc0⟩
 clear hc hc20 hc0
 refine wp_region_noPanic (wp_region_held_drew (S:=fun wz=>Blk wz w.heap.size 65 c.cs.toArray∧wz.cell? ⟨g,oo,none⟩=some (.int .u8 4)) (by kernel_rfl) hS0 (fun _=>?_))
 refine tq 0 rfl hS0 ?_
 refine tq 1 rfl hS0 ?_
 refine tq 2 rfl hS0 ?_
 refine tq 3 rfl hS0 ?_
 refine tq 4 rfl hS0 ?_
 refine tq 5 rfl hS0 ?_
 refine tJz (v:=.int .u8 4) 6 rfl (Or.inl ⟨by rfl,fun wz hSw=>?_⟩) hS0 ?_
 ·have hq:=hSw.2
  go_simp
 refine tq 7 rfl hS0 ?_
 refine tq 8 rfl hS0 ?_
 refine tq 9 rfl hS0 ?_
 refine tq 10 rfl hS0 ?_
 refine tJz (v:=.slice (subA (some ⟨g,oo,none⟩) 1 cc) 4 (cc - 1)) 11 rfl (Or.inl ⟨by rfl,fun wz hSw=>?_⟩) hS0 ?_
 ·have hq:=uh HSA wz
  go_simp
 refine tq 14 rfl hS0 ?_
 refine tJz (v:=.int .u32 (c.id:Int)) 15 rfl (Or.inl ⟨by rfl,fun wz hSw=>?_⟩) hS0 ?_
 ·have hq:=(Cli.blk (uh HOK) hSw.1).id
  go_simp
 refine tCz 12 rfl fun K hK=>?_
 go_simp
 have hr2:=((uh R1).drew).part (i:=1) (j:=5) (c:=cc) (by omega) (by omega) (uh HNC)
 refine (ZcE _ 4 (cc - 1) ((b.drop 1).take 4) _ _ hr2 (by omega)).mono ?_
 rw [uh HBID]
 clear hr2
 rintro e w' ⟨rfl,rfl⟩
 refine hK.out _ _ hS0 (fun _=>?_)
 clear hK K
 try simp only [Act.put,zA,zB,zC]
 refine tJz (v:=.int .u32 (c.id:Int)) 13 rfl (Or.inl ⟨by rfl,fun wz hSw=>?_⟩) hS0 ?_
 ·skip
  go_simp
 refine tJz (v:=.bool false) 16 rfl (Or.inl ⟨by rfl,fun wz hSw=>?_⟩) hS0 ?_
 ·skip
  go_simp
 refine tJz (v:=.bool false) 17 rfl (Or.inl ⟨by rfl,fun wz hSw=>?_⟩) hS0 ?_
 ·skip
  go_simp
 refine tq 18 rfl hS0 ?_
 refine tDz ?_
 clear hS0
 have Z2:Hid (Blk w1.drew w.heap.size 65 c.cs.toArray):=Z1
 have Q2:Hid (Blk w1.drew (w.heap.size+1) 65 zCli.cs.toArray):=Q1
 have B2:Hid (Below w.heap.size w w1.drew):=jd (uh B1).drew
 have R2:Hid (Zaj w1.drew w1.heap.size 1 (some ⟨g,oo,none⟩) 13 (bsV b)):=R1'
 have hat:=(Cli.blk (uh HOK) (uh Z2))
 have h17:=hat.level
 have h18:=hat.nonce
 have h19:=hat.server
 have h20:=hat.id
 clear hat
 obtain ⟨dk,hdk,hdr⟩:=Za5
 have HDK:=jd hdk
 have HDR:=jd hdr
 clear hdk hdr
 go_wp2_with (first
  | (refine Zbe rfl 46 (.tmp 42) rfl w.heap.size 1 65 _ (bsV c.key) dk rfl (uh Z2) ((Cli.at_ (uh HOK)).key) (uh HDK) (uh HDR) (ZaV _ (uh HOK).key) ?_)
  | fail)
 rw [← uh hlv]
 refine (Zeq _ 4 c.key (uh HOK).key c.id c.nonce c.server hcid (levB c.level)).mono ?_
 rintro e w3 ⟨v3,rfl,ho3,hb3⟩
 obtain ⟨A3,c3,hv3,h31,h32⟩:=Zac ho3
 subst hv3
 have hb3:Below w1.heap.size w1.drew w3:=hb3
 have Z3:=jd ((uh Z2).below hb3 (uh Z1).lt)
 have Q3:=jd ((uh Q2).below hb3 (uh Q1).lt)
 have B3:=jd ((uh B2).trans (hb3.mono (uh B1).size))
 have R3:=jd (((uh R2).below hb3).more hb3.size)
 have P3:=jd (Zaj.of_own ho3)
 have EQ:Hid (decide (b=ZbB 4 c.key c.id c.nonce c.server (levB c.level))=true):=jd (by rw [← uh HB]; simp)
 clear ho3 hb3 h17 h18 h19 h20
 go_wp2_with fail
 refine (equal_sx w3 13 _ A3 cc c3 _ _ w3.heap.size (uh R3) (uh P3) (by omega) true (uh EQ)).mono ?_
 rintro e w4 ⟨rfl,hb4⟩
 have Z4:=jd ((uh Z3).below hb4 (uh Z3).lt)
 have Q4:=jd ((uh Q3).below hb4 (uh Q3).lt)
 have B4:=jd ((uh B3).trans (hb4.mono (uh B3).size))
 clear hb4
 go_wp2_with (first
  |(refine Zal rfl 4 (.tmp 56) (.const (.bool true)) rfl w.heap.size 37 65 _ (.bool true) [.bool true] ({ c with opn:=true }:Cli).cs rfl rfl (uh Z4) rfl (by rw [Cli.size (uh HOK)]; simp) (by kernel_rfl) (one1 rfl) (Cli.set_opn (uh HOK) true) ?_
    intro w5 hb5 hg5
    have Z5:=jd hb5
    have Q5:=jd ((uh Q4).gb hg5)
    have B5:=jd (gWz (uh B4) hg5)
    clear hb5 hg5)
  | (refine wpList_load_row rfl 65 _ rfl w.heap.size rfl 65 _ _ _ (uh Z5) Tryz.underlying65 rfl (Zai (uh HO1)) ?_)
  |(refine Zaa rfl 65 (.tmp 4) (.tmp 57) rfl (w.heap.size+1) 65 _ ({ c with opn:=true }:Cli).cs.toArray rfl rfl (uh Q5) (Cli.size_eq (uh HO1)) (Zai (uh HO1)) (fun v hv=>Cli.one v (by simpa using hv)) ?_
    intro w9 hb9 hg9
    have Z9:=jd hb9
    have E9:=jd (gWz (uh B5) hg9)
    clear hb9 hg9)
  | fail)
 exact bodyPost_ret (v:=.tuple #[.agg ({ c with opn:=true }:Cli).cs.toArray,.int .i64 0]) (res2 rfl _ (w.heap.size+1) 65 _ _ _ rfl rfl (uh Z9) Tryz.underlying65 rfl (Zai (uh HO1))) rfl (show AccPost w _ _ _ from ⟨rfl,uh E9⟩)
set_option maxRecDepth 100000 in
set_option maxHeartbeats 8000000 in
theorem post_ok (w:World) (c:Cli) (hok:c.Ok) (kb:UInt8) (A:Option Addr) (n cc:Nat) (data:List UInt8) (hr:Zaj w w.heap.size 1 A n (bsV data)) (hnc:n≤cc) (hcm:cc≤maxLen) (hcf:cliF c=true) (hop:c.opn=true)
  (hsf:ZeK (kb.toNat:Int) n (c.out:Int)=0) (hd:n≤256) (hout:c.out < 4294967295):Calls Tryz.prog 39 #[.agg c.cs.toArray,.int .i64 (kb.toNat:Int),.slice A n cc] w (ZcQ w { c with out:=c.out+1 } (Zb0 5 c.sess c.id (c.out+1) kb data)):=by
 have HCF:=jd hcf
 have HOP:=jd hop
 have hl:data.length=n:=by have:=hr.1; simpa [bsV] using this
 have HL:=jd hl
 have HR:=jd hr
 have HNC:=jd hnc
 have HCM:=jd hcm
 have HSF:=jd hsf
 have O1:({ c with out:=c.out+1 }:Cli).Ok:=⟨hok.user,hok.key,hok.sess,hok.nonce,hok.server,hok.id,hok.hi,hok.se,by show c.out+1 < 4294967296; omega⟩
 have HO1:=jd O1
 have hcid:=hok.id
 obtain ⟨m,hm⟩ :∃m,c.out+1=m:=⟨_,rfl⟩
 have HM:=jd hm
 have hmz:(c.out:Int)+1=(m:Int):=by omega
 have hml:m < 4294967296:=by omega
 have wm:IntKind.u32.wrap ((c.out:Int)+1)=(m:Int):=by rw [hmz]; exact IntWalk.u32_in _ (by omega)
 have wm2:IntKind.u32.wrap (m:Int)=(m:Int):=IntWalk.u32_in _ (by omega)
 have wm3:(m:Int) % 4294967296=(m:Int):=by omega
 rw [hm] at HO1 ⊢
 have HD:Hid (data.length≤900):=jd (by omega)
 clear hcf hop hr hl hnc hcm hsf O1 hm hout hd
 have K0:Hid (Blk ((w.alloc (.cells c.cs.toArray 65)).alloc (.cells zCli.cs.toArray 65)) w.heap.size 65 c.cs.toArray):=jd ((Blk.new w 65 c.cs.toArray).alloc _)
 have K1:Hid (Blk ((w.alloc (.cells c.cs.toArray 65)).alloc (.cells zCli.cs.toArray 65)) (w.heap.size+1) 65 zCli.cs.toArray):=jd (Blk.new' (by simp))
 have B0:Hid (Below w.heap.size w ((w.alloc (.cells c.cs.toArray 65)).alloc (.cells zCli.cs.toArray 65))):=jd (((Below.refl _ _).alloc (Nat.le_refl _) _).alloc (by rw [Zae]; omega) _)
 have HOK:=jd hok
 clear hok
 go_enter Tryz.func39,Tryz.ntmps39
 go_wp2_with (first
  | (refine Zag rfl 65 rfl _ (w.heap.size+1) (Zae w _) (Zaz _) ?_)
  | (refine wpList_load_row rfl 65 _ rfl w.heap.size rfl 65 _ _ _ (uh K0) Tryz.underlying65 rfl (Zai (uh HOK)) ?_)
  | fail)
 refine (Zcb _ _ (uh HOK) _ (uh HCF)).mono ?_
 rintro e w1 ⟨rfl,hb1⟩
 have Z1:=jd ((uh K0).below hb1 (uh K0).lt)
 have Q1:=jd ((uh K1).below hb1 (uh K1).lt)
 have B1:=jd ((uh B0).trans (hb1.mono (uh B0).size))
 clear hb1
 have hat:=(c.blk (uh HOK) (uh Z1))
 have hc:=hat.opn
 rw [uh HOP] at hc
 have hc40:=hat.out
 clear hat
 go_wp2_with fail
 refine (ZdS _ _ _ _ _ _ 0 (uh HSF)).mono ?_
 rintro e w2 ⟨rfl,rfl⟩
 have hat:=(c.blk (uh HOK) (uh Z1))
 go_upto_region 9 with (first
  |(refine Zal rfl 27 (.tmp 30) (.tmp 29) rfl w.heap.size 40 65 _ (.int .u32 (m:Int)) [.int .u32 (m:Int)] ({ c with out:=m }:Cli).cs rfl rfl (uh Z1) rfl (by rw [Cli.size (uh HOK)]; simp) (by kernel_rfl) (one1 rfl) (Cli.set_out (uh HOK) m) ?_
    intro w5 hb5 hg5
    have Z5:=jd hb5
    have Q5:=jd ((uh Q1).gb hg5)
    have B5:=jd (gWz (uh B1) hg5)
    clear hb5 hg5)
  | fail)
 obtain ⟨d,hd⟩ :∃d:Cli,d={ c with out:=m }:=⟨_,rfl⟩
 have Z6:=uh Z5
 have O6:=uh HO1
 have hsd:d.sess=c.sess:=by rw [hd]
 have hid:d.id=c.id:=by rw [hd]
 have hod:d.out=m:=by rw [hd]
 rw [← hd] at Z6 O6 ⊢
 have HZ6:=jd Z6
 have HO6:=jd O6
 have HDD:=jd hd
 obtain ⟨dk,hdk,hdr⟩:=Za5
 have HDK:=jd hdk
 have HDR:=jd hdr
 have R5:=jd (((uh HR).below (uh B5)).more (uh B5).size)
 clear Z5 Z6 O6 HO1 hd hdk hdr hat hc hc40
 have hB0:Below w5.heap.size w5 w5.drew:=(Below.refl _ _).drew
 have hS0:(fun wz=>Blk wz w.heap.size 65 d.cs.toArray) w5.drew:=uh HZ6
 refine wp_region_noPanic (wp_region_held_drew (S:=fun wz=>Blk wz w.heap.size 65 d.cs.toArray) (by kernel_rfl) hS0 (fun _=>?_))
 refine tJz 0 rfl (Zar 65 (.tmp 3) (by rfl) rfl w.heap.size rfl 65 d.cs.toArray _ (fun _ h=>h) Tryz.underlying65 rfl (Zai (uh HO6))) hS0 ?_
 refine tq 1 rfl hS0 ?_
 refine tJz 2 rfl (Zcc 46 (.tmp 32) (by rfl) rfl w.heap.size 21 rfl 65 d.cs.toArray (bsV d.sess) dk (fun _ h=>h) ((Cli.at_ (uh HO6)).sess) (uh HDK) (uh HDR) (ZaV _ (uh HO6).sess)) hS0 ?_
 refine tq 3 rfl hS0 ?_
 refine tJz (v:=.int .u32 (d.id:Int)) 4 rfl (Or.inl ⟨by rfl,fun wz hSw=>?_⟩) hS0 ?_
 ·have hq:=(Cli.blk (uh HO6) hSw).id
  go_simp
 refine tq 5 rfl hS0 ?_
 refine tJz (v:=.int .u32 (d.out:Int)) 6 rfl (Or.inl ⟨by rfl,fun wz hSw=>?_⟩) hS0 ?_
 ·have hq:=(Cli.blk (uh HO6) hSw).out
  go_simp
 refine tq 7 rfl hS0 ?_
 refine tq 8 rfl hS0 ?_
 refine tCz 9 rfl fun K hK=>?_
 go_simp
 refine (packet_sx _ 5 c.sess (uh HOK).sess c.id m hcid hml kb A n cc data (uh R5).drew (uh HNC) (uh HCM) (uh HD)).mono ?_
 rintro e w6 ⟨v6,rfl,ho6,hb6⟩
 have hb6:Below w5.heap.size w5 w6:=hB0.trans hb6
 have hz6:Blk w6 w.heap.size 65 d.cs.toArray:=(uh HZ6).below hb6 (uh HZ6).lt
 have hq6:Blk w6 (w.heap.size+1) 65 zCli.cs.toArray:=(uh Q5).below hb6 (uh Q5).lt
 have hx6:Below w.heap.size w w6:=(uh B5).trans (hb6.mono (uh B5).size)
 have ho6':w6.ownsRow w.heap.size 5 1 v6 (Zb0 5 c.sess c.id m kb data).length (bsV (Zb0 5 c.sess c.id m kb data)):=Zak ho6 (uh B5).size
 refine hK.out _ _ hz6 (fun _=>?_)
 clear hK K
 try simp only [Act.put,zA,zB,zC]
 refine tOz 10 rfl fun K hK=>?_
 have hsq:=Cli.size_eq (uh HO6)
 refine Zaf (by rfl) 65 (.tmp 6) (.tmp 31) rfl (w.heap.size+1) 65 _ d.cs.toArray rfl rfl hq6 hsq (Zai (uh HO6)) (fun v hv=>Cli.one v (by simpa using hv)) ?_
 intro w8 hb8 hg8
 have hz8:Blk w8 w.heap.size 65 d.cs.toArray:=hz6.grown hg8 (fun e=>by injection e with e; omega)
 have hx8:Below w.heap.size w w8:=hx6.grown hg8 hx6.size (fun j e=>by injection e with e; omega)
 have ho8:w8.ownsRow w.heap.size 5 1 v6 (Zb0 5 c.sess c.id m kb data).length (bsV (Zb0 5 c.sess c.id m kb data)):=World.ownsRow.kept ho6' hg8 (.inr (Zad ho6' hq6 (by decide)))
 refine hK.out _ _ hz8 (fun _=>?_)
 clear hK K
 try simp only [Act.put]
 refine tq 11 rfl hz8 ?_
 refine tq 12 rfl hz8 ?_
 refine tDz ?_
 have H8:=jd hb8
 have O8:=jd ho8
 have X8:=jd hx8
 clear hb8 ho8 hx8 hg8 hq6 hz6 hx6 hz8 ho6 ho6' hb6 hS0 hB0
 go_wp2_with fail
 exact bodyPost_ret (v:=.tuple #[.agg d.cs.toArray,v6,.int .i64 0]) (Za4 rfl _ (w.heap.size+1) 65 _ _ _ _ rfl rfl rfl (uh H8) Tryz.underlying65 rfl (Zai (uh HO6))) rfl (show ZcQ w _ _ _ _ from ⟨v6,by rw [← uh HDD],uh O8,uh X8⟩)
structure Sess where
 id:Nat
 user:List UInt8
 level:Int
 client:Nat
 server:Nat
 key:List UInt8
 opn:Bool
 hi:Nat
 se:Nat
 out:Nat
 last:Int
def Sess.cs (x:Sess):List Value :=
 .int .u32 (x.id:Int)::.string ⟨x.user.toArray⟩::.int .i64 x.level::.int .u64 (x.client:Int)::.int .u64 (x.server:Int) ::
  (bsV x.key++[.bool x.opn,.int .u32 (x.hi:Int),.int .u32 (x.se:Int),.int .u32 (x.out:Int),.int .i64 x.last])
structure Sess.Ok (x:Sess):Prop where
 id:x.id < 4294967296
 user:x.user.length≤maxLen
 client:x.client < 18446744073709551616
 server:x.server < 18446744073709551616
 key:x.key.length=16
 hi:x.hi < 4294967296
 se:x.se < 4294967296
 out:x.out < 4294967296
theorem Sess.open_ {x:Sess} (h:x.Ok) :∃(a0 a1 a2 a3 a4 a5 a6 a7 a8 a9 a10 a11 a12 a13 a14 a15:UInt8),x.key=[a0,a1,a2,a3,a4,a5,a6,a7,a8,a9,a10,a11,a12,a13,a14,a15]:=ZdM x.key h.key
theorem Sess.len {x:Sess} (h:x.Ok):x.cs.length=26:=by simp [Sess.cs,h.key]
theorem Sess.size {x:Sess} (h:x.Ok):x.cs.toArray.size=26:=by rw [List.size_toArray,x.len h]
theorem Sess.one {x:Sess}:∀ v∈x.cs,v.oneCell'=true:=by
 intro v hv
 simp only [Sess.cs,List.mem_cons,List.mem_append,List.not_mem_nil,or_false] at hv
 rcases hv with rfl | rfl | rfl | rfl | rfl | h | rfl | rfl | rfl | rfl | rfl
 · rfl
 · rfl
 · rfl
 · rfl
 · rfl
 · exact ZaL _ v h
 · rfl
 · rfl
 · rfl
 · rfl
 · rfl
structure Sess.At (x:Sess) (f:Nat→Option Value):Prop where
 id:f 0=some (.int .u32 (x.id:Int))
 user:f 1=some (.string ⟨x.user.toArray⟩)
 level:f 2=some (.int .i64 x.level)
 client:f 3=some (.int .u64 (x.client:Int))
 server:f 4=some (.int .u64 (x.server:Int))
 opn:f 21=some (.bool x.opn)
 hi:f 22=some (.int .u32 (x.hi:Int))
 se:f 23=some (.int .u32 (x.se:Int))
 out:f 24=some (.int .u32 (x.out:Int))
 last:f 25=some (.int .i64 x.last)
 key:∀ j v,(bsV x.key)[j]?=some v→f (5+j)=some v
theorem Sess.at_ {x:Sess} (h:x.Ok):x.At (fun j=>x.cs[j]?):=by
 obtain ⟨a0,a1,a2,a3,a4,a5,a6,a7,a8,a9,a10,a11,a12,a13,a14,a15,e1⟩:=x.open_ h
 obtain ⟨id,user,level,client,server,key,opn,hi,se,out,last⟩:=x
 dsimp only at e1
 subst e1
 refine ⟨rfl,rfl,rfl,rfl,rfl,rfl,rfl,rfl,rfl,rfl,fun j v hv=>?_⟩
 have hj:j < 16:=by have:=(List.getElem?_eq_some_iff.1 hv).1; simpa [bsV] using this
 have:j=0∨j=1∨j=2∨j=3∨j=4∨j=5∨j=6∨j=7∨j=8∨j=9∨j=10∨j=11∨j=12∨j=13∨j=14∨j=15:=by omega
 rcases this with rfl | rfl | rfl | rfl | rfl | rfl | rfl | rfl | rfl | rfl | rfl | rfl | rfl | rfl | rfl | rfl<;>exact hv
theorem Sess.At.of {x:Sess} {f g:Nat→Option Value} (h:x.At f) (e:∀ j v,f j=some v→g j=some v):x.At g :=
 ⟨e _ _ h.id,e _ _ h.user,e _ _ h.level,e _ _ h.client,e _ _ h.server,e _ _ h.opn,e _ _ h.hi,e _ _ h.se,e _ _ h.out,e _ _ h.last,fun j v hv=>e _ _ (h.key j v hv)⟩
theorem Sess.blk {x:Sess} (h:x.Ok) {w:World} {g:Nat} {t:TypeId} (hb:Blk w g t x.cs.toArray):x.At (fun j=>w.cell? ⟨g,j,none⟩) :=
 (x.at_ h).of fun j v hv=>(hb.cell j).trans (by simpa using hv)
theorem Zbb {x:Sess} (h:x.Ok):(Tryz.prog.info? 50).map (·.size)=some x.cs.toArray.size:=by
 rw [x.size h]; kernel_rfl
theorem Zbf {x:Sess} (h:x.Ok):(Tryz.prog.info? 50).map (·.size)=some x.cs.length:=by
 rw [x.len h]; kernel_rfl
def Za7:Sess:=⟨0,[],0,0,0,z16,false,0,0,0,0⟩
theorem zSess_ok:Za7.Ok:=⟨by decide,by simp [Za7],by decide,by decide,rfl,by decide,by decide,by decide⟩
theorem Sess.size_eq {x:Sess} (h:x.Ok):x.cs.toArray.size=Za7.cs.toArray.size:=by rw [x.size h,Za7.size zSess_ok]
theorem ZbL (w:World):(Instr.alloc 50 true (.tuple #[])).run Tryz.prog w=.ok (.pointer (some ⟨w.heap.size,0,none⟩)) (w.alloc (.cells Za7.cs.toArray 50)):=by kernel_rfl
theorem ZaB (w:World):(Instr.alloc 29 true (.tuple #[])).run Tryz.prog w=.ok (.pointer (some ⟨w.heap.size,0,none⟩)) (w.alloc (.cells #[.slice none 0 0,.int .u32 0] 29)):=by kernel_rfl
def Zat (L:List Sess):List Value:=L.flatMap Sess.cs
def ZaE (L:List Sess):Prop:=∀ x∈L,x.Ok
theorem ZaE.cons {x:Sess} {L:List Sess} (h:ZaE (x::L)):x.Ok∧ZaE L:=⟨h x List.mem_cons_self,fun y hy=>h y (List.mem_cons_of_mem _ hy)⟩
theorem ZbT {L:List Sess} (h:ZaE L):(Zat L).length=L.length*26:=by
 induction L with
 | nil=>rfl
 |cons x L ih =>
  obtain ⟨h1,h2⟩:=h.cons
  rw [Zat,List.flatMap_cons,List.length_append,x.len h1]
  have:=ih h2
  unfold Zat at this
  rw [this,List.length_cons]
  omega
theorem Zdt (L:List Sess):∀ v∈Zat L,v.oneCell'=true:=by
 intro v hv
 obtain ⟨x,_,hx⟩:=List.mem_flatMap.1 hv
 exact Sess.one v hx
theorem Ze5 {L:List Sess} (h:ZaE L):∀ (k:Nat) (x:Sess),L[k]?=some x→∀ (j:Nat) (v:Value),x.cs[j]?=some v→(Zat L)[k*26+j]?=some v:=by
 induction L with
 | nil=>intro k x hk; simp at hk
 |cons y L ih =>
  obtain ⟨h1,h2⟩:=h.cons
  intro k x hk j v hv
  rw [Zat,List.flatMap_cons]
  cases k with
  |zero =>
   obtain rfl:y=x:=by simpa using hk
   rw [Nat.zero_mul,Nat.zero_add,List.getElem?_append_left (List.getElem?_eq_some_iff.1 hv).1]
   exact hv
  |succ k =>
   rw [List.getElem?_append_right (by rw [y.len h1]; omega),y.len h1,show (k+1)*26+j - 26=k*26+j by omega]
   exact ih h2 k x (by simpa using hk) j v hv
theorem spot_any {w:World} {B size n:Nat} {A:Option Addr} {xs:List Value} (h:Zaj w B size A n xs) (hn:0 < n) (hs:0 < size) :∃g o,A=some ⟨g,o,none⟩∧g < B∧∀ j u,xs[j]?=some u→w.cell? ⟨g,o+j,none⟩=some u:=by
 have h1:=h.1
 have h2:0 < n*size:=Nat.mul_pos hn hs
 obtain ⟨ad,rfl,hb,hc⟩:=h.2 hn
 obtain ⟨g,o,sp⟩:=ad
 obtain ⟨u,hu⟩ :∃u,xs[0]?=some u:=⟨xs[0]'(by omega),List.getElem?_eq_getElem _⟩
 have hs:sp=none:=by simpa [Addr.add] using World.cell?_spot (hc 0 u hu)
 subst hs
 exact ⟨g,o,rfl,hb,fun j u hu=>by have:=hc j u hu; rwa [ZbM] at this⟩
structure ZaA (w:World) (B:Nat) (A:Option Addr) (n:Nat) (L:List Sess):Prop where
 reads:Zaj w B 26 A n (Zat L)
 ok:ZaE L
theorem ZaA.len {w:World} {B n:Nat} {A:Option Addr} {L:List Sess} (h:ZaA w B A n L):L.length=n:=by
 have h1:=h.reads.1
 rw [ZbT h.ok] at h1
 omega
theorem ZaA.below {w w':World} {B n:Nat} {A:Option Addr} {L:List Sess} (h:ZaA w B A n L) (hb:Below B w w'):ZaA w' B A n L:=⟨h.reads.below hb,h.ok⟩
theorem ZaA.more {w:World} {B B' n:Nat} {A:Option Addr} {L:List Sess} (h:ZaA w B A n L) (hb:B≤B'):ZaA w B' A n L:=⟨h.reads.more hb,h.ok⟩
theorem ZaA.drew {w:World} {B n:Nat} {A:Option Addr} {L:List Sess} (h:ZaA w B A n L):ZaA w.drew B A n L:=⟨h.reads.drew,h.ok⟩
theorem ZaA.of_own {w:World} {base n:Nat} {e:TypeId} {A:Option Addr} {c:Nat} {L:List Sess} (h:w.ownsRow base e 26 (.slice A n c) n (Zat L)) (ok:ZaE L):ZaA w w.heap.size A n L:=⟨Zaj.of_own h,ok⟩
theorem ZaA.at_ {w:World} {B n k:Nat} {A:Option Addr} {L:List Sess} (h:ZaA w B A n L) (hk:k < n) :∃g o x,A=some ⟨g,o,none⟩∧g < B∧L[k]?=some x∧x.Ok∧w.rangeAt g (o+k*26) x.cs:=by
 obtain ⟨g,o,rfl,hg,hc⟩:=spot_any h.reads (by omega) (by omega)
 have hl:=h.len
 have hx:L[k]?=some (L[k]'(by omega)):=List.getElem?_eq_getElem _
 refine ⟨g,o,L[k]'(by omega),rfl,hg,hx,h.ok _ (List.getElem_mem _),fun j v hv=>?_⟩
 have:=hc (k*26+j) v (Ze5 h.ok k _ hx j v hv)
 rwa [← Nat.add_assoc] at this
theorem Sess.range {x:Sess} (h:x.Ok) {w:World} {g o:Nat} (hr:w.rangeAt g o x.cs):x.At (fun j=>w.cell? ⟨g,o+j,none⟩):=(x.at_ h).of fun j v hv=>hr j v hv
def okX (x:Sess) (nx b:Nat):Bool :=
 decide (b < x.id) && (decide (x.id < nx) && (ZbC x.user && (decide (1≤x.level∧x.level≤3) && (decide (0≤x.last∧x.last≤17179869184) && (x.opn || (x.hi==0 && (x.se==0 && x.out==0)))))))
def Zbu:List Sess→Nat→Nat→Bool
 | [],_,_=>true
 | x::r,nx,b=>okX x nx b && Zbu r nx x.id
def ZaS (L:List Sess) (nx:Nat):Bool:=decide (L.length≤4) && (decide (1≤nx) && Zbu L nx 0)
theorem Zfk {L:List Sess} {k:Nat} {x:Sess} (h:L[k]?=some x) (nx b:Nat):Zbu (L.drop k) nx b=(okX x nx b && Zbu (L.drop (k+1)) nx x.id):=by
 have hk:=(List.getElem?_eq_some_iff.1 h).1
 have e:=(List.getElem?_eq_some_iff.1 h).2
 rw [List.drop_eq_getElem_cons hk,e]
 rfl
set_option maxRecDepth 100000 in
set_option maxHeartbeats 8000000 in
theorem Zdb (w:World) (A:Option Addr) (n c:Nat) (L:List Sess) (nx:Nat) (h:ZaA w w.heap.size A n L) (hnm:n≤maxLen) (hnx:nx < 4294967296) (r:Bool) (hr:ZaS L nx=r) :
  Calls Tryz.prog 13 #[.agg #[.slice A n c,.int .u32 (nx:Int)]] w fun e w'=>e=.returned (.bool r)∧Below w.heap.size w w':=by
 have hl:=h.len
 unfold ZaS at hr
 unfold maxLen at hnm
 rw [hl] at hr
 have HB0:=jd ((Below.refl w.heap.size w).alloc (Nat.le_refl _) (.cells #[.slice A n c,.int .u32 (nx:Int)] 29))
 have HK0:=jd (Blk.new w 29 #[.slice A n c,.int .u32 (nx:Int)])
 by_cases h4:n≤4
 case neg =>
  obtain rfl:false=r:=by rw [← hr]; simp; intro h; omega
  have e1:((4:Int) < (n:Int))=True:=by simp; omega
  clear hr hl h
  go_enter Tryz.func13,Tryz.ntmps13
  go_wp2_with fail
  go_ret
  exact ⟨rfl,uh HB0⟩
 have e1:((4:Int) < (n:Int))=False:=by simp; omega
 by_cases h1:1≤nx
 case neg =>
  obtain rfl:false=r:=by rw [← hr]; simp; intro h; omega
  have e2:((nx:Int) < 1)=True:=by simp; omega
  clear hr hl h
  go_enter Tryz.func13,Tryz.ntmps13
  go_wp2_with fail
  go_ret
  exact ⟨rfl,uh HB0⟩
 have e2:((nx:Int) < 1)=False:=by simp; omega
 have hr0:Zbu (L.drop 0) nx 0=r:=by rw [← hr]; simp [h4,h1]
 have HR0:=jd hr0
 have HS:=jd h
 clear hr hr0 hl h h4 h1
 go_enter Tryz.func13,Tryz.ntmps13
 go_wp2_with fail
 go_loopw [3,18] (fun b i wr=>∃ k bk:Nat,k≤n∧i=.int .i64 k∧b=.int .u32 (bk:Int)∧Hid (Zbu (L.drop k) nx bk=r)∧Blk wr w.heap.size 29 #[.slice A n c,.int .u32 (nx:Int)]∧Below w.heap.size w wr) (fun _ i _=>n - (intOf i).toNat)
 case atStart=>exact ⟨0,0,by omega,rfl,rfl,HR0,uh HK0,uh HB0⟩
 case round =>
  obtain ⟨k,bk,hk,rfl,rfl,hrk,hK,hB⟩:=hrel
  have HK:=jd hK
  have HB:=jd hB
  clear hK hB
  by_cases hlt:k < n
  ·obtain ⟨g,oo,x,rfl,hg,hx,hxo,hrg⟩:=((uh HS).below (uh HB)).at_ hlt
   have hv:=Zfk hx nx bk
   rw [hv] at hrk
   have HRK:=jd hrk
   have HX:=jd hxo
   have HRG:=jd hrg
   have HN:=jd (Blk.new wr 50 Za7.cs.toArray)
   have HBn:=jd ((uh HB).alloc (uh HB).size (.cells Za7.cs.toArray 50))
   have HKn:=jd ((uh HK).alloc (.cells Za7.cs.toArray 50))
   have HRn:=jd (World.rangeAt_alloc (uh HRG) (.cells Za7.cs.toArray 50))
   have hlt2:(k:Int) < (n:Int):=by omega
   clear hrk hx hxo hrg hv
   go_upto_region 7 with (first
    | (refine wpList_load_mid rfl 50 (.tmp 20) rfl g (oo+k*26) rfl _ _ (uh HRG) Tryz.underlying50 rfl (Zbf (uh HX)) ?_)
    | (refine Zag rfl 50 rfl _ wr.heap.size rfl (ZbL _) ?_)
    |(refine Zaa rfl 50 (.tmp 5) (.tmp 21) rfl wr.heap.size 50 _ x.cs.toArray rfl rfl (uh HN) (Sess.size_eq (uh HX)) (Zbb (uh HX)) (fun v hv=>Sess.one v (by simpa using hv)) ?_
      intro w5 hb5 hg5
      have X5:=jd hb5
      have K5:=jd ((uh HKn).grown hg5 (fun e=>by injection e with e; have:=(uh HK).lt; omega))
      have B5:=jd ((uh HBn).grown hg5 (uh HBn).size (fun j e=>by injection e with e; have:=(uh HB).size; omega))
      clear hb5 hg5)
    | fail)
   have hat:=(Sess.blk (uh HX) (uh X5))
   have c0:=hat.id
   have c1:=hat.user
   have c2:=hat.level
   have c25:=hat.last
   have c21:=hat.opn
   have c22:=hat.hi
   have c23:=hat.se
   have c24:=hat.out
   have d1:w5.cell? ⟨w.heap.size,1,none⟩=some (.int .u32 (nx:Int)):=(uh K5).cell 1
   have hux:=(uh HX).user
   have hidx:=(uh HX).id
   have HRK0:Hid (okX x nx bk=false→false=r):=jd (fun e=>by have:=uh HRK; rw [e] at this; exact this)
   have HRK1:Hid (okX x nx bk=true→Zbu (L.drop (k+1)) nx x.id=r):=jd (fun e=>by have:=uh HRK; rwa [e,Bool.true_and] at this)
   clear hat HRK HRn HBn HKn HN HRG
   by_cases t1:bk < x.id
   case neg =>
    have f1:((x.id:Int)≤(bk:Int))=True:=by simp; omega
    obtain rfl:false=r:=uh HRK0 (by unfold okX; simp [t1])
    go_wp2_with (first
     | (go_at_call 45; refine (Za3 _ x.user hux _ (uh HNM)).mono ?_; rintro e w' ⟨rfl,rfl⟩)
     | (go_at_call 44; refine (ZbD _ x.level _ (uh HLV)).mono ?_; rintro e w' ⟨rfl,rfl⟩)
     | (go_at_call 43; refine (Zbj _ x.last _ (uh HTM)).mono ?_; rintro e w' ⟨rfl,rfl⟩)
     | fail)
    go_ret
    exact ⟨rfl,uh B5⟩
   have f1:((x.id:Int)≤(bk:Int))=False:=by simp; omega
   by_cases t2:x.id < nx
   case neg =>
    have f2:((nx:Int)≤(x.id:Int))=True:=by simp; omega
    obtain rfl:false=r:=uh HRK0 (by unfold okX; simp [t2])
    go_wp2_with (first
     | (go_at_call 45; refine (Za3 _ x.user hux _ (uh HNM)).mono ?_; rintro e w' ⟨rfl,rfl⟩)
     | (go_at_call 44; refine (ZbD _ x.level _ (uh HLV)).mono ?_; rintro e w' ⟨rfl,rfl⟩)
     | (go_at_call 43; refine (Zbj _ x.last _ (uh HTM)).mono ?_; rintro e w' ⟨rfl,rfl⟩)
     | fail)
    go_ret
    exact ⟨rfl,uh B5⟩
   have f2:((nx:Int)≤(x.id:Int))=False:=by simp; omega
   obtain ⟨t3,ht3⟩ :∃b,ZbC x.user=b:=⟨_,rfl⟩
   have HNM:=jd ht3
   cases t3
   case false =>
    obtain rfl:false=r:=uh HRK0 (by unfold okX; simp [ht3])
    go_wp2_with (first
     | (go_at_call 45; refine (Za3 _ x.user hux _ (uh HNM)).mono ?_; rintro e w' ⟨rfl,rfl⟩)
     | (go_at_call 44; refine (ZbD _ x.level _ (uh HLV)).mono ?_; rintro e w' ⟨rfl,rfl⟩)
     | (go_at_call 43; refine (Zbj _ x.last _ (uh HTM)).mono ?_; rintro e w' ⟨rfl,rfl⟩)
     | fail)
    go_ret
    exact ⟨rfl,uh B5⟩
   obtain ⟨t4,ht4⟩ :∃b,decide (1≤x.level∧x.level≤3)=b:=⟨_,rfl⟩
   have HLV:=jd ht4
   cases t4
   case false =>
    obtain rfl:false=r:=uh HRK0 (by unfold okX; rw [ht4]; simp)
    go_wp2_with (first
     | (go_at_call 45; refine (Za3 _ x.user hux _ (uh HNM)).mono ?_; rintro e w' ⟨rfl,rfl⟩)
     | (go_at_call 44; refine (ZbD _ x.level _ (uh HLV)).mono ?_; rintro e w' ⟨rfl,rfl⟩)
     | (go_at_call 43; refine (Zbj _ x.last _ (uh HTM)).mono ?_; rintro e w' ⟨rfl,rfl⟩)
     | fail)
    go_ret
    exact ⟨rfl,uh B5⟩
   obtain ⟨t5,ht5⟩ :∃b,decide (0≤x.last∧x.last≤17179869184)=b:=⟨_,rfl⟩
   have HTM:=jd ht5
   cases t5
   case false =>
    obtain rfl:false=r:=uh HRK0 (by unfold okX; rw [ht5]; simp)
    go_wp2_with (first
     | (go_at_call 45; refine (Za3 _ x.user hux _ (uh HNM)).mono ?_; rintro e w' ⟨rfl,rfl⟩)
     | (go_at_call 44; refine (ZbD _ x.level _ (uh HLV)).mono ?_; rintro e w' ⟨rfl,rfl⟩)
     | (go_at_call 43; refine (Zbj _ x.last _ (uh HTM)).mono ?_; rintro e w' ⟨rfl,rfl⟩)
     | fail)
    go_ret
    exact ⟨rfl,uh B5⟩
   obtain ⟨t6,ht6⟩ :∃b,x.opn=b:=⟨_,rfl⟩
   rw [ht6] at c21
   have HOP:=jd ht6
   have HT3:=jd ht3
   clear ht3 ht4 ht5 ht6
   cases t6
   case true =>
    have HNX:=jd (uh HRK1 (by unfold okX; rw [uh HNM,uh HLV,uh HTM,uh HOP]; simp [t1,t2]))
    go_wp2_with (first
     | (go_at_call 45; refine (Za3 _ x.user hux _ (uh HNM)).mono ?_; rintro e w' ⟨rfl,rfl⟩)
     | (go_at_call 44; refine (ZbD _ x.level _ (uh HLV)).mono ?_; rintro e w' ⟨rfl,rfl⟩)
     | (go_at_call 43; refine (Zbj _ x.last _ (uh HTM)).mono ?_; rintro e w' ⟨rfl,rfl⟩)
     | fail)
    go_roundw
    case rel=>exact ⟨k+1,x.id,by omega,by go_num,rfl,HNX,uh K5,uh B5⟩
    case measure=>simp [intOf]; omega
   by_cases t7:x.hi=0
   case neg =>
    obtain rfl:false=r:=uh HRK0 (by unfold okX; rw [uh HOP]; simp [t7])
    go_wp2_with (first
     | (go_at_call 45; refine (Za3 _ x.user hux _ (uh HNM)).mono ?_; rintro e w' ⟨rfl,rfl⟩)
     | (go_at_call 44; refine (ZbD _ x.level _ (uh HLV)).mono ?_; rintro e w' ⟨rfl,rfl⟩)
     | (go_at_call 43; refine (Zbj _ x.last _ (uh HTM)).mono ?_; rintro e w' ⟨rfl,rfl⟩)
     | fail)
    go_ret
    exact ⟨rfl,uh B5⟩
   by_cases t9:x.se=0
   case neg =>
    obtain rfl:false=r:=uh HRK0 (by unfold okX; rw [uh HOP]; simp [t9])
    go_wp2_with (first
     | (go_at_call 45; refine (Za3 _ x.user hux _ (uh HNM)).mono ?_; rintro e w' ⟨rfl,rfl⟩)
     | (go_at_call 44; refine (ZbD _ x.level _ (uh HLV)).mono ?_; rintro e w' ⟨rfl,rfl⟩)
     | (go_at_call 43; refine (Zbj _ x.last _ (uh HTM)).mono ?_; rintro e w' ⟨rfl,rfl⟩)
     | fail)
    go_ret
    exact ⟨rfl,uh B5⟩
   by_cases t8:x.out=0
   case neg =>
    have f8:((x.out:Int) != 0)=true:=by simp; omega
    obtain rfl:false=r:=uh HRK0 (by unfold okX; rw [uh HOP]; simp [t8])
    go_wp2_with (first
     | (go_at_call 45; refine (Za3 _ x.user hux _ (uh HNM)).mono ?_; rintro e w' ⟨rfl,rfl⟩)
     | (go_at_call 44; refine (ZbD _ x.level _ (uh HLV)).mono ?_; rintro e w' ⟨rfl,rfl⟩)
     | (go_at_call 43; refine (Zbj _ x.last _ (uh HTM)).mono ?_; rintro e w' ⟨rfl,rfl⟩)
     | fail)
    go_ret
    exact ⟨rfl,uh B5⟩
   have f8:((x.out:Int) != 0)=false:=by simp; omega
   have HNX:=jd (uh HRK1 (by unfold okX; rw [uh HNM,uh HLV,uh HTM,uh HOP]; simp [t1,t2,t7,t9,t8]))
   go_wp2_with (first
    | (go_at_call 45; refine (Za3 _ x.user hux _ (uh HNM)).mono ?_; rintro e w' ⟨rfl,rfl⟩)
    | (go_at_call 44; refine (ZbD _ x.level _ (uh HLV)).mono ?_; rintro e w' ⟨rfl,rfl⟩)
    | (go_at_call 43; refine (Zbj _ x.last _ (uh HTM)).mono ?_; rintro e w' ⟨rfl,rfl⟩)
    | fail)
   go_roundw
   case rel=>exact ⟨k+1,x.id,by omega,by go_num,rfl,HNX,uh K5,uh B5⟩
   case measure=>simp [intOf]; omega
  ·obtain rfl:k=n:=by omega
   have hdr:L.drop k=[]:=List.drop_of_length_le (by have:=(uh HS).len; omega)
   have h0:=uh hrk
   rw [hdr] at h0
   obtain rfl:true=r:=h0
   clear hrk hdr
   go_wp2_with fail
   go_ret
   exact ⟨rfl,uh HB⟩
def Zbl (p:Sess→Bool):List Sess→Nat→Int
 | [],_=>-1
 | x::r,k=>if p x=true then (k:Int) else Zbl p r (k+1)
theorem ZeB {p:Sess→Bool} {L:List Sess} {k:Nat} {x:Sess} (h:L[k]?=some x):Zbl p (L.drop k) k=if p x=true then (k:Int) else Zbl p (L.drop (k+1)) (k+1):=by
 have hk:=(List.getElem?_eq_some_iff.1 h).1
 have e:=(List.getElem?_eq_some_iff.1 h).2
 rw [List.drop_eq_getElem_cons hk,e]
 rfl
def idP (id:Nat) (x:Sess):Bool:=x.id==id
def oldP (now:Int) (x:Sess):Bool:=if x.opn=true then decide (x.last≤now - 600) else decide (x.last≤now - 50)
set_option maxRecDepth 100000 in
theorem find1_sx (w:World) (x:Sess) (hx:x.Ok) (b id:Nat) (hb:b < w.heap.size) (hc:w.cell? ⟨b,0,none⟩=some (.int .u32 (id:Int))) :
  Calls Tryz.prog 58 #[.agg x.cs.toArray,.pointer (some ⟨b,0,none⟩)] w fun e w'=>e=.returned (.bool (idP id x))∧Below w.heap.size w w':=by
 have hat:=(Sess.blk hx (Blk.new w 50 x.cs.toArray))
 have c0:=hat.id
 have hc2:(w.alloc (.cells x.cs.toArray 50)).cell? ⟨b,0,none⟩=some (.int .u32 (id:Int)):=by rw [World.cell?_alloc_lt _ _ _ hb]; exact hc
 have HB:=jd ((Below.refl w.heap.size w).alloc (Nat.le_refl _) (.cells x.cs.toArray 50))
 have e:((x.id:Int)==(id:Int))=idP id x:=by unfold idP; rw [Bool.eq_iff_iff]; simp; omega
 have HE:=jd e
 clear hat hc e hb hx
 go_enter Tryz.func58,Tryz.ntmps58
 go_wp2_with fail
 go_ret
 exact ⟨by rw [← uh HE]; first | rfl | (simp; done) | (congr 1; simp; done),uh HB⟩
set_option maxRecDepth 100000 in
theorem expire1_sx (w:World) (x:Sess) (hx:x.Ok) (b:Nat) (now:Int) (hn0:0≤now) (hn1:now≤17179869184) (hb:b < w.heap.size) (hc:w.cell? ⟨b,0,none⟩=some (.int .i64 now)) :
  Calls Tryz.prog 56 #[.agg x.cs.toArray,.pointer (some ⟨b,0,none⟩)] w fun e w'=>e=.returned (.bool (oldP now x))∧Below w.heap.size w w':=by
 have hat:=(Sess.blk hx (Blk.new w 50 x.cs.toArray))
 have c21:=hat.opn
 have c25:=hat.last
 have hc2:(w.alloc (.cells x.cs.toArray 50)).cell? ⟨b,0,none⟩=some (.int .i64 now):=by rw [World.cell?_alloc_lt _ _ _ hb]; exact hc
 have HB:=jd ((Below.refl w.heap.size w).alloc (Nat.le_refl _) (.cells x.cs.toArray 50))
 have w1:IntKind.i64.wrap (now - 600)=now - 600:=IntWalk.i64_in _ (by omega)
 have w2:IntKind.i64.wrap (now - 50)=now - 50:=IntWalk.i64_in _ (by omega)
 clear hat hc hb hx
 unfold oldP
 cases ho:x.opn with
 |true =>
  rw [ho] at c21
  clear ho
  go_enter Tryz.func56,Tryz.ntmps56
  go_wp2_with fail
  go_ret
  exact ⟨by first | rfl | (simp; done),uh HB⟩
 |false =>
  rw [ho] at c21
  clear ho
  go_enter Tryz.func56,Tryz.ntmps56
  go_wp2_with fail
  go_ret
  exact ⟨by first | rfl | (simp; done),uh HB⟩
set_option maxRecDepth 100000 in
set_option maxHeartbeats 4000000 in
theorem idxfind_sx (w:World) (A:Option Addr) (n c:Nat) (L:List Sess) (h:ZaA w w.heap.size A n L) (hnm:n≤maxLen) (b:Nat) (id:Nat) (hb:b < w.heap.size) (hc:w.cell? ⟨b,0,none⟩=some (.int .u32 (id:Int))) :
  Calls Tryz.prog 57 #[.slice A n c,.func (.func 58) #[] #[.pointer (some ⟨b,0,none⟩)]] w fun e w'=>e=.returned (.int .i64 (Zbl (idP id) L 0))∧Below w.heap.size w w':=by
 unfold maxLen at hnm
 have HS:=jd h
 have HC:=jd hc
 have HR:Hid (Zbl (idP id) (L.drop 0) 0=Zbl (idP id) L 0):=jd rfl
 obtain ⟨r,hr⟩ :∃r,Zbl (idP id) L 0=r:=⟨_,rfl⟩
 rw [hr] at HR ⊢
 clear h hc hr
 go_enter Tryz.func57,Tryz.ntmps57
 go_wp2_with fail
 go_loopw [8] (fun i wr=>∃ k:Nat,k≤n∧i=.int .i64 k∧Hid (Zbl (idP id) (L.drop k) k=r)∧Below w.heap.size w wr) (fun i _=>n - (intOf i).toNat)
 case atStart=>exact ⟨0,by omega,rfl,HR,Below.refl _ _⟩
 case round =>
  obtain ⟨k,hk,rfl,hrk,hB⟩:=hrel
  have HB:=jd hB
  clear hB
  by_cases hlt:k < n
  ·obtain ⟨g,oo,x,rfl,hg,hx,hxo,hrg⟩:=((uh HS).below (uh HB)).at_ hlt
   have hv:=ZeB (p:=idP id) hx
   have HRK:=jd (hv.symm.trans (uh hrk))
   have HX:=jd hxo
   have HRG:=jd hrg
   have hlt2:(k:Int) < (n:Int):=by omega
   have HCW:=jd (((uh HB).cell (p:=⟨b,0,none⟩) hb).trans (uh HC))
   have hbw:b < wr.heap.size:=Nat.lt_of_lt_of_le hb (uh HB).size
   have HRK0:Hid (idP id x=true→r=(k:Int)):=jd (fun e=>by have:=uh HRK; rw [if_pos e] at this; exact this.symm)
   have HRK1:Hid (idP id x=false→Zbl (idP id) (L.drop (k+1)) (k+1)=r):=jd (fun e=>by have:=uh HRK; rwa [if_neg (by rw [e]; simp)] at this)
   clear hrk hx hxo hrg hv HRK
   obtain ⟨t,ht⟩ :∃t,idP id x=t:=⟨_,rfl⟩
   go_wp2_with (first
    | (refine wpList_load_mid rfl 50 (.tmp 14) rfl g (oo+k*26) rfl _ _ (uh HRG) Tryz.underlying50 rfl (Zbf (uh HX)) ?_)
    | fail)
   refine (find1_sx wr x (uh HX) b id hbw (uh HCW)).mono ?_
   rw [ht]
   rintro e w2 ⟨rfl,hb2⟩
   have B2:=jd ((uh HB).trans (hb2.mono (uh HB).size))
   clear hb2
   cases t with
   |true =>
    have hrr:=uh HRK0 ht
    clear ht
    go_wp2_with fail
    go_ret
    exact ⟨by rw [hrr]; rfl,uh B2⟩
   |false =>
    have hrr:=jd (uh HRK1 ht)
    clear ht
    go_wp2_with fail
    go_roundw
    case rel=>exact ⟨k+1,by omega,by go_num,hrr,uh B2⟩
    case measure=>simp [intOf]; omega
  ·obtain rfl:k=n:=by omega
   have hdr:L.drop k=[]:=List.drop_of_length_le (by have:=(uh HS).len; omega)
   have h0:=uh hrk
   rw [hdr] at h0
   obtain rfl:(-1:Int)=r:=h0
   clear hrk hdr
   go_wp2_with fail
   go_ret
   exact ⟨rfl,uh HB⟩
set_option maxRecDepth 100000 in
set_option maxHeartbeats 4000000 in
theorem idxold_sx (w:World) (A:Option Addr) (n c:Nat) (L:List Sess) (h:ZaA w w.heap.size A n L) (hnm:n≤maxLen) (b:Nat) (now:Int) (hn0:0≤now) (hn1:now≤17179869184) (hb:b < w.heap.size) (hc:w.cell? ⟨b,0,none⟩=some (.int .i64 now)) :
  Calls Tryz.prog 57 #[.slice A n c,.func (.func 56) #[] #[.pointer (some ⟨b,0,none⟩)]] w fun e w'=>e=.returned (.int .i64 (Zbl (oldP now) L 0))∧Below w.heap.size w w':=by
 unfold maxLen at hnm
 have HS:=jd h
 have HC:=jd hc
 have HR:Hid (Zbl (oldP now) (L.drop 0) 0=Zbl (oldP now) L 0):=jd rfl
 obtain ⟨r,hr⟩ :∃r,Zbl (oldP now) L 0=r:=⟨_,rfl⟩
 rw [hr] at HR ⊢
 clear h hc hr
 go_enter Tryz.func57,Tryz.ntmps57
 go_wp2_with fail
 go_loopw [8] (fun i wr=>∃ k:Nat,k≤n∧i=.int .i64 k∧Hid (Zbl (oldP now) (L.drop k) k=r)∧Below w.heap.size w wr) (fun i _=>n - (intOf i).toNat)
 case atStart=>exact ⟨0,by omega,rfl,HR,Below.refl _ _⟩
 case round =>
  obtain ⟨k,hk,rfl,hrk,hB⟩:=hrel
  have HB:=jd hB
  clear hB
  by_cases hlt:k < n
  ·obtain ⟨g,oo,x,rfl,hg,hx,hxo,hrg⟩:=((uh HS).below (uh HB)).at_ hlt
   have hv:=ZeB (p:=oldP now) hx
   have HRK:=jd (hv.symm.trans (uh hrk))
   have HX:=jd hxo
   have HRG:=jd hrg
   have hlt2:(k:Int) < (n:Int):=by omega
   have HCW:=jd (((uh HB).cell (p:=⟨b,0,none⟩) hb).trans (uh HC))
   have hbw:b < wr.heap.size:=Nat.lt_of_lt_of_le hb (uh HB).size
   have HRK0:Hid (oldP now x=true→r=(k:Int)):=jd (fun e=>by have:=uh HRK; rw [if_pos e] at this; exact this.symm)
   have HRK1:Hid (oldP now x=false→Zbl (oldP now) (L.drop (k+1)) (k+1)=r):=jd (fun e=>by have:=uh HRK; rwa [if_neg (by rw [e]; simp)] at this)
   clear hrk hx hxo hrg hv HRK
   obtain ⟨t,ht⟩ :∃t,oldP now x=t:=⟨_,rfl⟩
   go_wp2_with (first
    | (refine wpList_load_mid rfl 50 (.tmp 14) rfl g (oo+k*26) rfl _ _ (uh HRG) Tryz.underlying50 rfl (Zbf (uh HX)) ?_)
    | fail)
   refine (expire1_sx wr x (uh HX) b now hn0 hn1 hbw (uh HCW)).mono ?_
   rw [ht]
   rintro e w2 ⟨rfl,hb2⟩
   have B2:=jd ((uh HB).trans (hb2.mono (uh HB).size))
   clear hb2
   cases t with
   |true =>
    have hrr:=uh HRK0 ht
    clear ht
    go_wp2_with fail
    go_ret
    exact ⟨by rw [hrr]; rfl,uh B2⟩
   |false =>
    have hrr:=jd (uh HRK1 ht)
    clear ht
    go_wp2_with fail
    go_roundw
    case rel=>exact ⟨k+1,by omega,by go_num,hrr,uh B2⟩
    case measure=>simp [intOf]; omega
  ·obtain rfl:k=n:=by omega
   have hdr:L.drop k=[]:=List.drop_of_length_le (by have:=(uh HS).len; omega)
   have h0:=uh hrk
   rw [hdr] at h0
   obtain rfl:(-1:Int)=r:=h0
   clear hrk hdr
   go_wp2_with fail
   go_ret
   exact ⟨rfl,uh HB⟩
set_option maxRecDepth 100000 in
theorem Zfq (w:World) (A:Option Addr) (n c:Nat) (L:List Sess) (nx:Int) (h:ZaA w w.heap.size A n L) (hnm:n≤maxLen) (id:Nat) :
  Calls Tryz.prog 15 #[.agg #[.slice A n c,.int .u32 nx],.int .u32 (id:Int)] w fun e w'=>e=.returned (.int .i64 (Zbl (idP id) L 0))∧Below w.heap.size w w':=by
 have HB:=jd (below2 w (.cells #[.slice A n c,.int .u32 nx] 29) (.cells #[.int .u32 (id:Int)] 27))
 have HS:=jd ((h.below (uh HB)).more (uh HB).size)
 have hcw:((w.alloc (.cells #[.slice A n c,.int .u32 nx] 29)).alloc (.cells #[.int .u32 (id:Int)] 27)).cell? ⟨w.heap.size+1,0,none⟩=some (.int .u32 (id:Int)):=(Blk.new' (g:=w.heap.size+1) (by simp)).cell 0
 have HC:=jd hcw
 clear h hcw
 go_enter Tryz.func15,Tryz.ntmps15
 go_wp2_with fail
 refine (idxfind_sx _ A n c L (uh HS) hnm (w.heap.size+1) id (by simp) (uh HC)).mono ?_
 rintro e w2 ⟨rfl,hb2⟩
 have B2:=jd ((uh HB).trans (hb2.mono (uh HB).size))
 clear hb2
 go_wp2_with fail
 go_ret
 exact ⟨rfl,uh B2⟩
end Go.Proofs.YtfbkkmnkpjgciaaGreat
