/- Joined of GLeaf GValid. No condition. -/
import Derived.Test.YtfbkkmnkpjgciaaGreatPG06
import Derived.Test.YtfbkkmnkpjgciaaGreatPG10
import Derived.Test.YtfbkkmnkpjgciaaGreatPG07
import Derived.Test.YtfbkkmnkpjgciaaGreatPG05
import Derived.Test.YtfbkkmnkpjgciaaGreatPG08
import Derived.Test.YtfbkkmnkpjgciaaGreatPG15
import Derived.Test.YtfbkkmnkpjgciaaGreatPG09
import Derived.Deep.QuietTactic
import Derived.BigQuiet
import Derived.IntWalk
namespace Go.Proofs.YtfbkkmnkpjgciaaGreat
open Go.RowKit
set_option maxRecDepth 100000
theorem Za2 (w:World) (n:Int) (r:Bool) (hr:decide (1≤n∧n≤3)=r):Calls Tryz.prog 63 #[.int .i64 n] w fun e w'=>e=.returned (.bool r)∧w=w':=by
 by_cases h1:1≤n
 ·by_cases h2:n≤3
  ·obtain rfl:true=r:=by rw [← hr]; simp; omega
   clear hr
   go_enter Tryz.func63,Tryz.ntmps63
   go_wp2_with fail
   go_ret
   exact ⟨rfl,rfl⟩
  ·obtain rfl:false=r:=by rw [← hr]; simp; omega
   clear hr
   go_enter Tryz.func63,Tryz.ntmps63
   go_wp2_with fail
   go_ret
   exact ⟨rfl,rfl⟩
 ·obtain rfl:false=r:=by rw [← hr]; simp; omega
  clear hr
  go_enter Tryz.func63,Tryz.ntmps63
  go_wp2_with fail
  go_ret
  exact ⟨rfl,rfl⟩
theorem Zbv (w:World) (n:Int) (r:Bool) (hr:decide (0≤n∧n≤17179869184)=r):Calls Tryz.prog 72 #[.int .i64 n] w fun e w'=>e=.returned (.bool r)∧w=w':=by
 by_cases h1:0≤n
 ·by_cases h2:n≤17179869184
  ·obtain rfl:true=r:=by rw [← hr]; simp; omega
   clear hr
   go_enter Tryz.func72,Tryz.ntmps72
   go_wp2_with fail
   go_ret
   exact ⟨rfl,rfl⟩
  ·obtain rfl:false=r:=by rw [← hr]; simp; omega
   clear hr
   go_enter Tryz.func72,Tryz.ntmps72
   go_wp2_with fail
   go_ret
   exact ⟨rfl,rfl⟩
 ·obtain rfl:false=r:=by rw [← hr]; simp; omega
  clear hr
  go_enter Tryz.func72,Tryz.ntmps72
  go_wp2_with fail
  go_ret
  exact ⟨rfl,rfl⟩
set_option maxRecDepth 100000 in
theorem rnew_sx (w:World):Calls Tryz.prog 40 #[] w fun e w'=>e=.returned (.agg #[.slice none 0 0,.int .u32 1])∧Below w.heap.size w w':=by
 have HZ:=jd (Blk.new w 29 #[.slice none 0 0,.int .u32 0])
 have HB:=jd ((Below.refl w.heap.size w).alloc (Nat.le_refl _) (.cells #[.slice none 0 0,.int .u32 0] 29))
 have one:∀ v∈(#[Value.slice none 0 0,.int .u32 1] : Array Value).toList,v.oneCell'=true:=by intro v hv; simp at hv; rcases hv with rfl | rfl<;>rfl
 go_enter Tryz.func40,Tryz.ntmps40
 go_wp2_with (first
  |(refine Zaa rfl 29 (.tmp 0) (.tmp 1) rfl w.heap.size 29 _ #[.slice none 0 0,.int .u32 1] rfl rfl (uh HZ) rfl (by kernel_rfl) one ?_
    intro w9 hb9 hg9
    have Z9:=jd hb9
    have B9:=jd ((uh HB).grown hg9 (by simp) (fun j e=>by injection e with e; omega))
    clear hb9 hg9)
  | fail)
 exact bodyPost_ret (v:=.agg #[.slice none 0 0,.int .u32 1]) (res1 rfl _ w.heap.size 29 _ _ rfl (uh Z9) Tryz.underlying29 rfl (by kernel_rfl)) rfl ⟨rfl,uh B9⟩
set_option maxRecDepth 100000 in
theorem ZeR (w:World) (n:Int) (r:Bool) (hr:lvl0 n=r):Calls Tryz.prog 112 #[.int .i64 n] w fun e w'=>e=.returned (.bool r)∧w=w':=by
 unfold lvl0 at hr
 by_cases h1:0≤n
 ·by_cases h2:n≤3
  ·obtain rfl:true=r:=by rw [← hr]; simp; omega
   clear hr
   go_enter Tryz.func112,Tryz.ntmps112
   go_wp2_with fail
   go_ret
   exact ⟨rfl,rfl⟩
  ·obtain rfl:false=r:=by rw [← hr]; simp; omega
   clear hr
   go_enter Tryz.func112,Tryz.ntmps112
   go_wp2_with fail
   go_ret
   exact ⟨rfl,rfl⟩
 ·obtain rfl:false=r:=by rw [← hr]; simp; omega
  clear hr
  go_enter Tryz.func112,Tryz.ntmps112
  go_wp2_with fail
  go_ret
  exact ⟨rfl,rfl⟩
theorem Zct (w:World) (b:UInt8) (r:Bool) (hr:Zb6 b=r):Calls Tryz.prog 88 #[.int .i64 (b.toNat:Int)] w fun e w'=>e=.returned (.bool r)∧w=w':=by
 unfold Zb6 at hr
 by_cases h0:b=0
 ·subst h0
  obtain rfl:true=r:=by rw [← hr]; rfl
  ·clear hr
   go_enter Tryz.func88,Tryz.ntmps88
   go_wp2_with fail
   go_ret
   exact ⟨rfl,rfl⟩
 ·by_cases h1:b=1
  ·subst h1
   obtain rfl:true=r:=by rw [← hr]; rfl
   clear hr
   go_enter Tryz.func88,Tryz.ntmps88
   go_wp2_with fail
   go_ret
   exact ⟨rfl,rfl⟩
  ·obtain rfl:false=r:=by rw [← hr]; simp [h0,h1]
   clear hr
   have n0:((b.toNat:Int)==0)=false:=by
    have:b.toNat≠0:=fun e=>h0 (UInt8.toNat_inj.1 e)
    simp; omega
   have n1:((b.toNat:Int)==1)=false:=by
    have:b.toNat≠1:=fun e=>h1 (UInt8.toNat_inj.1 e)
    simp; omega
   clear h0 h1
   go_enter Tryz.func88,Tryz.ntmps88
   go_wp2_with fail
   go_ret
   exact ⟨rfl,rfl⟩
theorem rkindI_sx (w:World) (n:Int) (r:Bool) (hr:decide (n=0∨n=1)=r):Calls Tryz.prog 88 #[.int .i64 n] w fun e w'=>e=.returned (.bool r)∧w=w':=by
 by_cases h0:n=0
 ·subst h0
  obtain rfl:true=r:=by rw [← hr]; rfl
  ·clear hr
   go_enter Tryz.func88,Tryz.ntmps88
   go_wp2_with fail
   go_ret
   exact ⟨rfl,rfl⟩
 ·by_cases h1:n=1
  ·subst h1
   obtain rfl:true=r:=by rw [← hr]; rfl
   clear hr
   go_enter Tryz.func88,Tryz.ntmps88
   go_wp2_with fail
   go_ret
   exact ⟨rfl,rfl⟩
  ·obtain rfl:false=r:=by rw [← hr]; simp [h0,h1]
   clear hr
   have n0:(n==0)=false:=by simp [h0]
   have n1:(n==1)=false:=by simp [h1]
   clear h0 h1
   go_enter Tryz.func88,Tryz.ntmps88
   go_wp2_with fail
   go_ret
   exact ⟨rfl,rfl⟩
theorem Zbt (w:World) (x:Int) (n:Nat) (hn:n≤8):Calls Tryz.prog 64 #[.int .u64 x,.int .i64 (n:Int)] w fun e w'=>∃ v,e=.returned v∧w'.ownsRow w.heap.size 5 1 v n (bsV (leB x n))∧Below w.heap.size w w':=by
 have HN:=jd (fun W=>num_any x W n hn)
 go_enter Tryz.func64,Tryz.ntmps64
 go_wp2_with fail
 refine (uh HN w).mono ?_
 rintro e w1 ⟨v,rfl,ho,hb⟩
 have HO:=jd ho
 have HB:=jd hb
 clear ho hb
 go_wp2_with fail
 go_ret
 exact ⟨v,rfl,uh HO,uh HB⟩
theorem Zcl (A:Option Addr) (n c:Nat) (bs:List UInt8) (w:World) (B:Nat) (h:Zaj w B 1 A n (bsV bs)) (hn:n≤8) :
  Calls Tryz.prog 75 #[.slice A n c] w fun e w'=>e=.returned (.int .u64 (leW bs:Int))∧w=w':=by
 have HN:=jd (Zb4 A n c bs w B h hn)
 clear h
 go_enter Tryz.func75,Tryz.ntmps75
 go_wp2_with fail
 refine (uh HN).mono ?_
 rintro e w1 ⟨rfl,rfl⟩
 go_wp2_with fail
 go_ret
 exact ⟨rfl,rfl⟩
theorem sub_b {w:World} {B n k m:Nat} {ad:Addr} {l:List UInt8} (h:Zaj w B 1 (some ad) n (bsV l)) (hkm:k+m≤n):Zaj w B 1 (some (ad.add k)) m (bsV ((l.drop k).take m)):=by
 have:=h.sub hkm
 rwa [show ((bsV l).drop k).take m=bsV ((l.drop k).take m) by simp [bsV,List.map_take,List.map_drop]] at this
theorem rid_sx (A:Option Addr) (n c:Nat) (bs:List UInt8) (w:World) (B:Nat) (h:Zaj w B 1 A n (bsV bs)) (hn:5≤n) (hnc:n≤c) (hcm:c≤maxLen) :
  Calls Tryz.prog 77 #[.slice A n c] w fun e w'=>e=.returned (.int .u32 (leW ((bs.drop 1).take 4):Int))∧w=w':=by
 obtain ⟨⟨g,oo,al⟩,rfl⟩:=h.some_ (by omega)
 have hw4:=leW4 bs 1
 have h4:=sub_b (k:=1) (m:=4) h (by omega)
 have hn4:=fun c'=>Zcl _ 4 c' _ w B h4 (by decide)
 obtain ⟨v,hv⟩ :∃v,leW ((bs.drop 1).take 4)=v:=⟨_,rfl⟩
 rw [hv] at hw4 ⊢
 simp only [hv] at hn4
 have hwr:(v:Int) % 4294967296=(v:Int):=by omega
 have HN:=jd hn4
 clear hn4 hv
 have hc5:(5:Int)≤(c:Int):=by omega
 have hcm':(c:Int)≤9223372036854775807:=by unfold maxLen at hcm; omega
 clear h h4
 go_enter Tryz.func77,Tryz.ntmps77
 go_wp2_with fail
 refine (uh HN _).mono ?_
 rintro e w1 ⟨rfl,rfl⟩
 go_wp2_with fail
 go_ret
 exact ⟨rfl,rfl⟩
theorem rsecret_sx (w:World) (ks:List UInt8) (hk:ks.length=16) (x y:Nat) :
  Calls Tryz.prog 79 #[.agg (bsV ks).toArray,.int .u64 (x:Int),.int .u64 (y:Int)] w fun e w'=>e=.returned (.agg (bsV (derF ks ZdW (x:Int) (y:Int))).toArray)∧Below w.heap.size w w':=by
 have Z:Hid (Blk ((w.alloc (.cells (bsV ks).toArray 46)).alloc (.cells (bsV (List.replicate 16 0)).toArray 46)) w.heap.size 46 (bsV ks).toArray):=jd ((Blk.new w _ _).alloc _)
 have Z1:Hid (Blk ((w.alloc (.cells (bsV ks).toArray 46)).alloc (.cells (bsV (List.replicate 16 0)).toArray 46)) (w.heap.size+1) 46 (bsV (List.replicate 16 0)).toArray):=jd (Blk.new' (by simp))
 have B0:Hid (Below w.heap.size w ((w.alloc (.cells (bsV ks).toArray 46)).alloc (.cells (bsV (List.replicate 16 0)).toArray 46))):=jd (((Below.refl _ _).alloc (Nat.le_refl _) _).alloc (by rw [Zae]; omega) _)
 have HK:=jd (Zbo hk)
 have hdl:(derF ks ZdW (x:Int) (y:Int)).length=16:=ZbK _ _ _ _
 have HD:=jd (Zbo hdl)
 have hz:(bsV (derF ks ZdW (x:Int) (y:Int))).toArray.size=(bsV (List.replicate 16 (0:UInt8))).toArray.size:=by simp [bsV,hdl]
 clear hdl
 go_enter Tryz.func79,Tryz.ntmps79
 go_wp2_with (first
  | (refine wpList_load_row rfl 46 _ rfl w.heap.size rfl 46 _ _ _ (uh Z) Tryz.underlying46 rfl (uh HK) ?_)
  | fail)
 refine (ref_derive_any _ ks hk ⟨ZdW.toArray⟩ (by decide) (x:Int) (y:Int) (by omega) (by omega)).mono ?_
 rintro e w1 ⟨rfl,hb⟩
 have Z2:=jd ((uh Z1).below hb (uh Z1).lt)
 have B1:=jd ((uh B0).trans (hb.mono (uh B0).size))
 clear hb
 go_wp2_with (first
  |(refine Zaa rfl 46 (.tmp 6) (.tmp 10) rfl (w.heap.size+1) 46 _ (bsV (derF ks ZdW (x:Int) (y:Int))).toArray rfl rfl (uh Z2) hz (uh HD) (by simpa using ZaL (derF ks ZdW (x:Int) (y:Int))) ?_
    intro w2 hb2 hg2
    have Z3:=jd hb2
    have B2:=jd ((uh B1).grown hg2 (uh B1).size (fun g e=>by injection e; omega))
    clear hb2 hg2)
  | fail)
 exact bodyPost_ret (v:=.agg (bsV (derF ks ZdW (x:Int) (y:Int))).toArray) (Zba rfl _ (w.heap.size+1) 46 _ _ rfl (uh Z3) Tryz.underlying46 rfl (uh HD)) rfl ⟨rfl,uh B2⟩
theorem rform_sx (w:World) (A:Option Addr) (n c:Nat) (bs:List UInt8) (f:UInt8) (h:Zaj w w.heap.size 1 A n (bsV bs)) (r:Bool) (hr:(Zcv f bs && Zb6 (bs.getD 9 0))=r) :
  Calls Tryz.prog 83 #[.slice A n c,.int .u8 (f.toNat:Int)] w fun e w'=>e=.returned (.bool r)∧w=w':=by
 have hl:bs.length=n:=by have:=h.1; simpa [bsV] using this
 unfold Zcv at hr
 rw [hl] at hr
 by_cases h18:18≤n
 ·have i18:(18:Int)≤(n:Int):=by omega
  by_cases h274:n≤274
  ·have i274:(n:Int)≤274:=by omega
   obtain ⟨g,oo,hA,hgl,hcell⟩:=Zcr h (by omega)
   subst hA
   obtain ⟨b0,hb0⟩ :∃b,bs[0]?=some b:=⟨_,List.getElem?_eq_getElem (by omega)⟩
   obtain ⟨b9,hb9⟩ :∃b,bs[9]?=some b:=⟨_,List.getElem?_eq_getElem (by omega)⟩
   have c0:w.cell? ⟨g,oo,none⟩=some (.int .u8 (b0.toNat:Int)):=hcell 0 b0 hb0
   have c9:w.cell? ⟨g,oo+9,none⟩=some (.int .u8 (b9.toNat:Int)):=hcell 9 b9 hb9
   rw [List.getD_eq_getElem?_getD,List.getD_eq_getElem?_getD,hb0,hb9,decide_eq_true h18,decide_eq_true h274] at hr
   simp only [Option.getD_some,Bool.true_and] at hr
   have l9:=b9.toNat_lt
   have i9:(b9.toNat:Int) < 256:=by omega
   clear hcell hb0 hb9 h hl h18 h274 hgl
   by_cases hf:b0=f
   ·subst hf
    rw [beq_self_eq_true,Bool.true_and] at hr
    have HR:=jd hr
    clear hr
    have eqf:((b0.toNat:Int)==(b0.toNat:Int))=true:=by simp
    go_enter Tryz.func83,Tryz.ntmps83
    go_wp2_with fail
    refine (Zct w b9 r (uh HR)).mono ?_
    rintro e w1 ⟨rfl,rfl⟩
    go_wp2_with fail
    go_ret
    exact ⟨rfl,rfl⟩
   ·have e1:(b0==f)=false:=by simpa using hf
    rw [e1,Bool.false_and] at hr
    subst hr
    have eqf:((b0.toNat:Int)==(f.toNat:Int))=false:=by
     have:b0.toNat≠f.toNat:=fun e=>hf (UInt8.toNat_inj.1 e)
     simp; omega
    clear hf e1
    go_enter Tryz.func83,Tryz.ntmps83
    go_wp2_with fail
    go_ret
    exact ⟨rfl,rfl⟩
  ·have i274:¬ (n:Int)≤274:=by omega
   rw [decide_eq_false h274,Bool.false_and,Bool.and_false,Bool.false_and] at hr
   subst hr
   clear h hl h18 h274
   go_enter Tryz.func83,Tryz.ntmps83
   go_wp2_with fail
   go_ret
   exact ⟨rfl,rfl⟩
 ·have i18:¬ (18:Int)≤(n:Int):=by omega
  rw [decide_eq_false h18,Bool.false_and,Bool.false_and] at hr
  subst hr
  clear h hl h18
  go_enter Tryz.func83,Tryz.ntmps83
  go_wp2_with fail
  go_ret
  exact ⟨rfl,rfl⟩
set_option maxRecDepth 100000 in
theorem ZeO (w:World) (c:Cli) (h:c.Ok) (r:Bool) (hr:cliF c=r):Calls Tryz.prog 100 #[.agg c.cs.toArray] w fun e w'=>e=.returned (.bool r)∧Below w.heap.size w w':=by
 have hat:=c.blk h (Blk.new w 65 c.cs.toArray)
 have h0:=hat.user
 have h17:=hat.level
 have HB:=jd ((Below.refl w.heap.size w).alloc (Nat.le_refl _) (.cells c.cs.toArray 65))
 have HU:=h.user
 clear hat
 unfold cliF at hr
 cases hn:ZbC c.user with
 |false =>
  rw [hn] at hr
  obtain rfl:false=r:=hr
  have HN:=jd hn
  clear hn
  go_enter Tryz.func100,Tryz.ntmps100
  go_wp2_with (first | (go_at_call 62; refine (ZaN _ c.user HU false (uh HN)).mono ?_; rintro e w' ⟨rfl,rfl⟩) | fail)
  go_ret
  exact ⟨rfl,uh HB⟩
 |true =>
  rw [hn,Bool.true_and] at hr
  have HN:=jd hn
  have HR:=jd hr
  clear hn hr
  go_enter Tryz.func100,Tryz.ntmps100
  go_wp2_with (first | (go_at_call 62; refine (ZaN _ c.user HU true (uh HN)).mono ?_; rintro e w' ⟨rfl,rfl⟩) | (go_at_call 63; refine (Za2 _ c.level r (uh HR)).mono ?_; rintro e w' ⟨rfl,rfl⟩) | fail)
  go_ret
  exact ⟨rfl,uh HB⟩
def prevI (L:List Sess):Nat→Nat
 | 0=>0
 | k+1=>((L[k]?).map Sess.id).getD 0
set_option maxRecDepth 100000 in
set_option maxHeartbeats 8000000 in
theorem Zds (w:World) (A:Option Addr) (n c:Nat) (L:List Sess) (nx:Nat) (h:ZaA w w.heap.size A n L) (hnm:n≤maxLen) (hnx:nx < 4294967296) (r:Bool) (hr:ZaS L nx=r) :
  Calls Tryz.prog 26 #[.agg #[.slice A n c,.int .u32 (nx:Int)]] w fun e w'=>e=.returned (.bool r)∧Below w.heap.size w w':=by
 have hl:=h.len
 unfold ZaS at hr
 unfold maxLen at hnm
 rw [hl] at hr
 have HB0:=jd ((Below.refl w.heap.size w).alloc (Nat.le_refl _) (.cells #[.slice A n c,.int .u32 (nx:Int)] 29))
 have HK0:=jd (Blk.new w 29 #[.slice A n c,.int .u32 (nx:Int)])
 by_cases h4:n≤4
 case neg =>
  obtain rfl:false=r:=by rw [← hr]; simp; intro h; omega
  have e1:((4:Int) < (n:Int))=True:=by simp; omega
  clear hr hl h
  go_enter Tryz.func26,Tryz.ntmps26
  go_wp2_with fail
  go_ret
  exact ⟨rfl,uh HB0⟩
 have e1:((4:Int) < (n:Int))=False:=by simp; omega
 by_cases h1:1≤nx
 case neg =>
  obtain rfl:false=r:=by rw [← hr]; simp; intro h; omega
  have e2:((nx:Int) < 1)=True:=by simp; omega
  clear hr hl h
  go_enter Tryz.func26,Tryz.ntmps26
  go_wp2_with fail
  go_ret
  exact ⟨rfl,uh HB0⟩
 have e2:((nx:Int) < 1)=False:=by simp; omega
 have hr0:Zbu (L.drop 0) nx 0=r:=by rw [← hr]; simp [h4,h1]
 have HR0:=jd hr0
 have HS:=jd h
 clear hr hr0 hl h h1
 go_enter Tryz.func26,Tryz.ntmps26
 go_wp2_with fail
 go_loopw [3] (fun i wr=>∃ k:Nat,k≤n∧i=.int .i64 k∧Hid (Zbu (L.drop k) nx (prevI L k)=r)∧Blk wr w.heap.size 29 #[.slice A n c,.int .u32 (nx:Int)]∧Below w.heap.size w wr) (fun i _=>n - (intOf i).toNat)
 case atStart=>exact ⟨0,by omega,rfl,HR0,uh HK0,uh HB0⟩
 case round =>
  obtain ⟨k,hk,rfl,hrk,hK,hB⟩:=hrel
  have HK:=jd hK
  have HB:=jd hB
  have dr:wr.cell? ⟨w.heap.size,0,none⟩=some (.slice A n c):=hK.cell 0
  clear hK hB
  by_cases hlt:k < n
  ·obtain ⟨g,oo,x,rfl,hg,hx,hxo,hrg⟩:=((uh HS).below (uh HB)).at_ hlt
   obtain ⟨bk,hbk⟩ :∃bk,prevI L k=bk:=⟨_,rfl⟩
   have hpx:prevI L (k+1)=x.id:=by simp [prevI,hx]
   have hv:=Zfk hx nx bk
   rw [hbk,hv] at hrk
   -- the session before
   have hprev:k=0∧bk=0∨∃ (kp:Nat) (y:Sess),kp+1=k∧y.Ok∧bk=y.id∧wr.rangeAt g (oo+kp*26) y.cs:=by
    rcases k with _ | kp
    · exact .inl ⟨rfl,hbk.symm⟩
    ·obtain ⟨g2,oo2,y,hA2,_,hy,hyo,hrg2⟩:=((uh HS).below (uh HB)).at_ (show kp < n by omega)
     injection hA2 with hA2
     injection hA2 with e1 e2
     subst e1 e2
     exact .inr ⟨kp,y,rfl,hyo,by rw [← hbk]; simp [prevI,hy],hrg2⟩
   have HRK:=jd hrk
   have HX:=jd hxo
   have HRG:=jd hrg
   have HN:=jd (Blk.new wr 50 Za7.cs.toArray)
   have HBn:=jd ((uh HB).alloc (uh HB).size (.cells Za7.cs.toArray 50))
   have HKn:=jd ((uh HK).alloc (.cells Za7.cs.toArray 50))
   have HPR:=jd hprev
   have HPX:=jd hpx
   have hlt2:(k:Int) < (n:Int):=by omega
   have hsw:=(uh HB).size
   clear hrk hx hxo hrg hv hbk hprev hpx
   go_upto_region 7 with (first
    | (refine wpList_load_mid rfl 50 (.tmp 24) rfl g (oo+k*26) rfl _ _ (uh HRG) Tryz.underlying50 rfl (Zbf (uh HX)) ?_)
    | (refine Zag rfl 50 rfl _ wr.heap.size rfl (ZbL _) ?_)
    |(refine Zaa rfl 50 (.tmp 4) (.tmp 25) rfl wr.heap.size 50 _ x.cs.toArray rfl rfl (uh HN) (Sess.size_eq (uh HX)) (Zbb (uh HX)) (fun v hv=>Sess.one v (by simpa using hv)) ?_
      intro w5 hb5 hg5
      have X5:=jd hb5
      have K5:=jd ((uh HKn).grown hg5 (fun e=>by injection e with e; have:=(uh HK).lt; omega))
      have B5:=jd ((uh HBn).grown hg5 (uh HBn).size (fun j e=>by injection e with e; have:=(uh HB).size; omega))
      have Y5:=jd (((Below.refl wr.heap.size wr).alloc (Nat.le_refl _) (.cells Za7.cs.toArray 50)).grown hg5 (by rw [Zae]; omega) (fun j e=>by injection e with e; omega))
      clear hb5 hg5
      simp only [Act.put,zA,zB,zC])
    | fail)
   have hat:=(Sess.blk (uh HX) (uh X5))
   have c0:=hat.id
   have c1:=hat.user
   have c2:=hat.level
   have c25:=hat.last
   have c21:=hat.opn
   have c22:=hat.hi
   have c23:=hat.se
   have c24:=hat.out
   clear dr
   have d0:w5.cell? ⟨w.heap.size,0,none⟩=some (.slice (some ⟨g,oo,none⟩) n c):=(uh K5).cell 0
   have d1:w5.cell? ⟨w.heap.size,1,none⟩=some (.int .u32 (nx:Int)):=(uh K5).cell 1
   have hux:=(uh HX).user
   have hidx:=(uh HX).id
   have HRK0:Hid (okX x nx bk=false→false=r):=jd (fun e=>by have:=uh HRK; rw [e] at this; exact this)
   have HRK1:Hid (okX x nx bk=true→Zbu (L.drop (k+1)) nx (prevI L (k+1))=r):=jd (fun e=>by rw [uh HPX]; have:=uh HRK; rwa [e,Bool.true_and] at this)
   clear hat HRK HBn HKn HN HRG
   go_cut [69] from 14 to 83 (fun b W=>(∃ nq,W=w5.drewN nq)∧b=.bool (!(decide (bk < x.id) && (decide (x.id < nx) && (ZbC x.user && (decide (1≤x.level∧x.level≤3) && decide (0≤x.last∧x.last≤17179869184)))))))
   case first =>
    by_cases u1:1≤x.id
    case neg =>
     have f0:((x.id:Int) < 1)=True:=by simp; omega
     have v1:decide (bk < x.id)=false:=by simp; omega
     go_quiet ((first
       | (go_at_call 62; exact Calls.quiet_of_same ((ZaN _ x.user hux _ (uh HNM)).mono fun _ _ h=>⟨h.1,h.2.symm⟩))
       | (go_at_call 63; exact Calls.quiet_of_same ((Za2 _ x.level _ (uh HLV)).mono fun _ _ h=>⟨h.1,h.2.symm⟩))
       | (go_at_call 72; exact Calls.quiet_of_same ((Zbv _ x.last _ (uh HTM)).mono fun _ _ h=>⟨h.1,h.2.symm⟩))
       | fail))
     go_wp2_with fail
     go_meet
     exact ⟨⟨_,rfl⟩,congrArg Value.bool (by rw [v1]; rfl)⟩
    have f0:((x.id:Int) < 1)=False:=by simp; omega
    by_cases u2:x.id < nx
    case neg =>
     have f1:((nx:Int)≤(x.id:Int))=True:=by simp; omega
     have v1:decide (x.id < nx)=false:=by simp; omega
     go_quiet ((first
       | (go_at_call 62; exact Calls.quiet_of_same ((ZaN _ x.user hux _ (uh HNM)).mono fun _ _ h=>⟨h.1,h.2.symm⟩))
       | (go_at_call 63; exact Calls.quiet_of_same ((Za2 _ x.level _ (uh HLV)).mono fun _ _ h=>⟨h.1,h.2.symm⟩))
       | (go_at_call 72; exact Calls.quiet_of_same ((Zbv _ x.last _ (uh HTM)).mono fun _ _ h=>⟨h.1,h.2.symm⟩))
       | fail))
     go_wp2_with fail
     go_meet
     exact ⟨⟨_,rfl⟩,congrArg Value.bool (by rw [v1]; simp)⟩
    have f1:((nx:Int)≤(x.id:Int))=False:=by simp; omega
    have v2:decide (x.id < nx)=true:=by simp; omega
    rcases uh HPR with ⟨hk0,hb0⟩ | ⟨kp,y,hkp,hyo,hby,hrgy⟩
    ·have hi0:decide (0 < k)=false:=by simp; omega
     have v1:decide (bk < x.id)=true:=by simp; omega
     clear hk0 hb0
     obtain ⟨t3,ht3⟩ :∃b,ZbC x.user=b:=⟨_,rfl⟩
     obtain ⟨t4,ht4⟩ :∃b,decide (1≤x.level∧x.level≤3)=b:=⟨_,rfl⟩
     obtain ⟨t5,ht5⟩ :∃b,decide (0≤x.last∧x.last≤17179869184)=b:=⟨_,rfl⟩
     have HNM:=jd ht3
     have HLV:=jd ht4
     have HTM:=jd ht5
     have HV1:=jd v1
     have HV2:=jd v2
     clear ht3 ht4 ht5 v1 v2
     cases t3
     case false =>
       go_quiet ((first
        | (go_at_call 62; exact Calls.quiet_of_same ((ZaN _ x.user hux _ (uh HNM)).mono fun _ _ h=>⟨h.1,h.2.symm⟩))
        | (go_at_call 63; exact Calls.quiet_of_same ((Za2 _ x.level _ (uh HLV)).mono fun _ _ h=>⟨h.1,h.2.symm⟩))
        | (go_at_call 72; exact Calls.quiet_of_same ((Zbv _ x.last _ (uh HTM)).mono fun _ _ h=>⟨h.1,h.2.symm⟩))
        | fail))
       go_wp2_with fail
       go_meet
       exact ⟨⟨_,rfl⟩,congrArg Value.bool (by rw [uh HV1,uh HV2,uh HNM,uh HLV,uh HTM]; rfl)⟩
     cases t4
     case false =>
       go_quiet ((first
        | (go_at_call 62; exact Calls.quiet_of_same ((ZaN _ x.user hux _ (uh HNM)).mono fun _ _ h=>⟨h.1,h.2.symm⟩))
        | (go_at_call 63; exact Calls.quiet_of_same ((Za2 _ x.level _ (uh HLV)).mono fun _ _ h=>⟨h.1,h.2.symm⟩))
        | (go_at_call 72; exact Calls.quiet_of_same ((Zbv _ x.last _ (uh HTM)).mono fun _ _ h=>⟨h.1,h.2.symm⟩))
        | fail))
       go_wp2_with fail
       go_meet
       exact ⟨⟨_,rfl⟩,congrArg Value.bool (by rw [uh HV1,uh HV2,uh HNM,uh HLV,uh HTM]; rfl)⟩
     cases t5
     case false =>
       go_quiet ((first
        | (go_at_call 62; exact Calls.quiet_of_same ((ZaN _ x.user hux _ (uh HNM)).mono fun _ _ h=>⟨h.1,h.2.symm⟩))
        | (go_at_call 63; exact Calls.quiet_of_same ((Za2 _ x.level _ (uh HLV)).mono fun _ _ h=>⟨h.1,h.2.symm⟩))
        | (go_at_call 72; exact Calls.quiet_of_same ((Zbv _ x.last _ (uh HTM)).mono fun _ _ h=>⟨h.1,h.2.symm⟩))
        | fail))
       go_wp2_with fail
       go_meet
       exact ⟨⟨_,rfl⟩,congrArg Value.bool (by rw [uh HV1,uh HV2,uh HNM,uh HLV,uh HTM]; rfl)⟩
     go_quiet ((first
       | (go_at_call 62; exact Calls.quiet_of_same ((ZaN _ x.user hux _ (uh HNM)).mono fun _ _ h=>⟨h.1,h.2.symm⟩))
       | (go_at_call 63; exact Calls.quiet_of_same ((Za2 _ x.level _ (uh HLV)).mono fun _ _ h=>⟨h.1,h.2.symm⟩))
       | (go_at_call 72; exact Calls.quiet_of_same ((Zbv _ x.last _ (uh HTM)).mono fun _ _ h=>⟨h.1,h.2.symm⟩))
       | fail))
     go_wp2_with fail
     go_meet
     exact ⟨⟨_,rfl⟩,congrArg Value.bool (by rw [uh HV1,uh HV2,uh HNM,uh HLV,uh HTM]; rfl)⟩
    ·have hi0:decide (0 < k)=true:=by simp; omega
     have hm:IntKind.i64.wrap ((k:Int) - 1)=(kp:Int):=by rw [IntWalk.i64_in _ (by omega)]; omega
     have hkn:(kp:Int) < (n:Int):=by omega
     have hyl:=hyo.id
     have y0:w5.cell? ⟨g,oo+kp*26,none⟩=some (.int .u32 (y.id:Int)):=((uh Y5).cell (p:=⟨g,oo+kp*26,none⟩) (by show g < wr.heap.size; omega)).trans ((Sess.range hyo hrgy).id)
     subst hby
     by_cases u3:y.id < x.id
     case neg =>
       have f3:((x.id:Int)≤(y.id:Int))=True:=by simp; omega
       have v1:decide (y.id < x.id)=false:=by simp; omega
       clear hkp hrgy hyo
       go_quiet ((first
        | (go_at_call 62; exact Calls.quiet_of_same ((ZaN _ x.user hux _ (uh HNM)).mono fun _ _ h=>⟨h.1,h.2.symm⟩))
        | (go_at_call 63; exact Calls.quiet_of_same ((Za2 _ x.level _ (uh HLV)).mono fun _ _ h=>⟨h.1,h.2.symm⟩))
        | (go_at_call 72; exact Calls.quiet_of_same ((Zbv _ x.last _ (uh HTM)).mono fun _ _ h=>⟨h.1,h.2.symm⟩))
        | fail))
       go_wp2_with fail
       go_meet
       exact ⟨⟨_,rfl⟩,congrArg Value.bool (by rw [v1]; rfl)⟩
     have f3:((x.id:Int)≤(y.id:Int))=False:=by simp; omega
     have v1:decide (y.id < x.id)=true:=by simp; omega
     clear hkp hrgy hyo
     obtain ⟨t3,ht3⟩ :∃b,ZbC x.user=b:=⟨_,rfl⟩
     obtain ⟨t4,ht4⟩ :∃b,decide (1≤x.level∧x.level≤3)=b:=⟨_,rfl⟩
     obtain ⟨t5,ht5⟩ :∃b,decide (0≤x.last∧x.last≤17179869184)=b:=⟨_,rfl⟩
     have HNM:=jd ht3
     have HLV:=jd ht4
     have HTM:=jd ht5
     have HV1:=jd v1
     have HV2:=jd v2
     clear ht3 ht4 ht5 v1 v2
     cases t3
     case false =>
       go_quiet ((first
        | (go_at_call 62; exact Calls.quiet_of_same ((ZaN _ x.user hux _ (uh HNM)).mono fun _ _ h=>⟨h.1,h.2.symm⟩))
        | (go_at_call 63; exact Calls.quiet_of_same ((Za2 _ x.level _ (uh HLV)).mono fun _ _ h=>⟨h.1,h.2.symm⟩))
        | (go_at_call 72; exact Calls.quiet_of_same ((Zbv _ x.last _ (uh HTM)).mono fun _ _ h=>⟨h.1,h.2.symm⟩))
        | fail))
       go_wp2_with fail
       go_meet
       exact ⟨⟨_,rfl⟩,congrArg Value.bool (by rw [uh HV1,uh HV2,uh HNM,uh HLV,uh HTM]; rfl)⟩
     cases t4
     case false =>
       go_quiet ((first
        | (go_at_call 62; exact Calls.quiet_of_same ((ZaN _ x.user hux _ (uh HNM)).mono fun _ _ h=>⟨h.1,h.2.symm⟩))
        | (go_at_call 63; exact Calls.quiet_of_same ((Za2 _ x.level _ (uh HLV)).mono fun _ _ h=>⟨h.1,h.2.symm⟩))
        | (go_at_call 72; exact Calls.quiet_of_same ((Zbv _ x.last _ (uh HTM)).mono fun _ _ h=>⟨h.1,h.2.symm⟩))
        | fail))
       go_wp2_with fail
       go_meet
       exact ⟨⟨_,rfl⟩,congrArg Value.bool (by rw [uh HV1,uh HV2,uh HNM,uh HLV,uh HTM]; rfl)⟩
     cases t5
     case false =>
       go_quiet ((first
        | (go_at_call 62; exact Calls.quiet_of_same ((ZaN _ x.user hux _ (uh HNM)).mono fun _ _ h=>⟨h.1,h.2.symm⟩))
        | (go_at_call 63; exact Calls.quiet_of_same ((Za2 _ x.level _ (uh HLV)).mono fun _ _ h=>⟨h.1,h.2.symm⟩))
        | (go_at_call 72; exact Calls.quiet_of_same ((Zbv _ x.last _ (uh HTM)).mono fun _ _ h=>⟨h.1,h.2.symm⟩))
        | fail))
       go_wp2_with fail
       go_meet
       exact ⟨⟨_,rfl⟩,congrArg Value.bool (by rw [uh HV1,uh HV2,uh HNM,uh HLV,uh HTM]; rfl)⟩
     go_quiet ((first
       | (go_at_call 62; exact Calls.quiet_of_same ((ZaN _ x.user hux _ (uh HNM)).mono fun _ _ h=>⟨h.1,h.2.symm⟩))
       | (go_at_call 63; exact Calls.quiet_of_same ((Za2 _ x.level _ (uh HLV)).mono fun _ _ h=>⟨h.1,h.2.symm⟩))
       | (go_at_call 72; exact Calls.quiet_of_same ((Zbv _ x.last _ (uh HTM)).mono fun _ _ h=>⟨h.1,h.2.symm⟩))
       | fail))
     go_wp2_with fail
     go_meet
     exact ⟨⟨_,rfl⟩,congrArg Value.bool (by rw [uh HV1,uh HV2,uh HNM,uh HLV,uh HTM]; rfl)⟩
   case rest =>
    obtain ⟨⟨nq,rfl⟩,rfl⟩:=hcut
    have X6:=jd ((uh X5).drewN nq)
    have K6:=jd ((uh K5).drewN nq)
    have B6:=jd (ZaK (uh B5) nq)
    have HOKX:Hid (okX x nx bk=((decide (bk < x.id) && (decide (x.id < nx) && (ZbC x.user && (decide (1≤x.level∧x.level≤3) && decide (0≤x.last∧x.last≤17179869184))))) && (x.opn || (x.hi==0 && (x.se==0 && x.out==0))))):=jd (by unfold okX; simp only [Bool.and_assoc])
    obtain ⟨hd,hhd⟩ :∃hd,(decide (bk < x.id) && (decide (x.id < nx) && (ZbC x.user && (decide (1≤x.level∧x.level≤3) && decide (0≤x.last∧x.last≤17179869184)))))=hd:=⟨_,rfl⟩
    have HOK2:Hid (okX x nx bk=(hd && (x.opn || (x.hi==0 && (x.se==0 && x.out==0))))):=jd (hhd ▸ uh HOKX)
    rw [hhd]
    clear hhd HOKX
    obtain ⟨t6,ht6⟩ :∃b,x.opn=b:=⟨_,rfl⟩
    rw [ht6] at c21
    have HOP:=jd ht6
    clear ht6
    cases hd with
    |false =>
     obtain rfl:false=r:=uh HRK0 (by rw [uh HOK2]; rfl)
     go_wp2_with fail
     go_ret
     exact ⟨rfl,uh B6⟩
    |true =>
     cases t6
     case true =>
       have HNX:=jd (uh HRK1 (by rw [uh HOK2,uh HOP]; rfl))
       go_wp2_with fail
       go_roundw
       case rel=>exact ⟨k+1,by omega,by go_num,HNX,uh K6,uh B6⟩
       case measure=>simp [intOf]; omega
     by_cases t7:x.hi=0
     case neg =>
       have f7:((x.hi:Int) != 0)=true:=by simp; omega
       obtain rfl:false=r:=uh HRK0 (by rw [uh HOK2,uh HOP]; simp [t7])
       go_wp2_with fail
       go_ret
       exact ⟨rfl,uh B6⟩
     by_cases t9:x.se=0
     case neg =>
       have f9:((x.se:Int) != 0)=true:=by simp; omega
       obtain rfl:false=r:=uh HRK0 (by rw [uh HOK2,uh HOP]; simp [t9])
       go_wp2_with fail
       go_ret
       exact ⟨rfl,uh B6⟩
     by_cases t8:x.out=0
     case neg =>
       have f8:((x.out:Int) != 0)=true:=by simp; omega
       obtain rfl:false=r:=uh HRK0 (by rw [uh HOK2,uh HOP]; simp [t8])
       go_wp2_with fail
       go_ret
       exact ⟨rfl,uh B6⟩
     have HNX:=jd (uh HRK1 (by rw [uh HOK2,uh HOP]; simp [t7,t8,t9]))
     go_wp2_with fail
     go_roundw
     case rel=>exact ⟨k+1,by omega,by go_num,HNX,uh K6,uh B6⟩
     case measure=>simp [intOf]; omega
  ·obtain rfl:k=n:=by omega
   have hdr:L.drop k=[]:=List.drop_of_length_le (by have:=(uh HS).len; omega)
   have h0:=uh hrk
   rw [hdr] at h0
   obtain rfl:true=r:=h0
   clear hrk hdr
   go_wp2_with fail
   go_ret
   exact ⟨rfl,uh HB⟩
end Go.Proofs.YtfbkkmnkpjgciaaGreat
