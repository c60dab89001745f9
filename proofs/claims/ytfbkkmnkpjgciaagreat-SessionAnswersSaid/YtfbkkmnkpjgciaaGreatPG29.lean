/- Joined of GTake. No condition. -/
import Derived.Test.YtfbkkmnkpjgciaaGreatPG27
import Derived.Test.YtfbkkmnkpjgciaaGreatPG28
namespace Go.Proofs.YtfbkkmnkpjgciaaGreat
open Go.RowKit
theorem res_cttt {P:Program} {w:World} {fn:Func} {p u x u2:Tmp} {ty:TypeId} (h:fn.results=#[.cell p ty,.tmp u,.tmp x,.tmp u2]) (tmps:Array Value) (g:Nat) (t:TypeId) (cs:Array Value) (d:TypeDesc) (z y z2:Value)
  (hp:tmps.getD p undef=.pointer (some ⟨g,0,none⟩)) (hz:tmps.getD u undef=z) (hy:tmps.getD x undef=y) (hz2:tmps.getD u2 undef=z2) (hg:Blk w g t cs)
  (hu:P.underlying ty=some d) (hd:(match d with | .struct _ | .array _ _=>true | _=>false)=true) (hi:(P.info? ty).map (·.size)=some cs.size) :
  (results fn tmps).run P w=.ok (.tuple #[.agg cs,z,y,z2]) w:=by
 have hp':tmps[p]?.getD undef=.pointer (some ⟨g,0,none⟩):=by simpa using hp
 have hz':tmps[u]?.getD undef=z:=by simpa using hz
 have hy':tmps[x]?.getD undef=y:=by simpa using hy
 have hz2':tmps[u2]?.getD undef=z2:=by simpa using hz2
 simp [results,h,hp',hz',hy',hz2',asAddr,run_loadVar_row w g t ty cs (0,0) d hg hu hd hi]
structure TRes where
 e:Int
 c:Cli
 kind:Nat
 d:List UInt8
def badT (x:Int):TRes:=⟨x,zCli,0,[]⟩
def Zc3 (base:Nat) (w:World) (A:Option Addr) (m:Nat) (xs:List Value):Prop:=Zaj w w.heap.size 1 A m xs∧∀ ad,A=some ad→base≤ad.block
theorem Zc3.of_own {w:World} {base base' m c:Nat} {t:TypeId} {A:Option Addr} {xs:List Value} (h:w.ownsRow base t 1 (.slice A m c) m xs) (hb:base'≤base):Zc3 base' w A m xs :=
 ⟨Zaj.of_own h,fun ad e=>Nat.le_trans hb (World.ownsRow.lt h ad.block (by rw [e]; rfl)).1⟩
theorem Zc3.rest {w:World} {base m i c:Nat} {A:Option Addr} {l:List UInt8} (h:Zc3 base w A m (bsV l)) (hi:i≤m) (hc:m≤c):Zc3 base w (subA A i c) (m - i) (bsV (l.drop i)):=by
 refine ⟨h.1.rest hi hc,fun ad e=>?_⟩
 unfold subA at e
 split at e
 · exact h.2 ad e
 ·rcases A with _ | a
  · exact absurd e (by simp)
  ·rw [Option.map_some] at e
   injection e with e
   rw [← e,Za1]
   exact h.2 a rfl
theorem Zc3.below {w w':World} {base m:Nat} {A:Option Addr} {xs:List Value} (h:Zc3 base w A m xs) (hb:Below w.heap.size w w'):Zc3 base w' A m xs:=⟨(h.1.below hb).more hb.size,h.2⟩
theorem Zc3.stored {w w':World} {base m g:Nat} {A:Option Addr} {xs:List Value} (h:Zc3 base w A m xs) (hg:w.grownBy w' (some g)) (hlt:g < base):Zc3 base w' A m xs:=by
 refine ⟨⟨h.1.1,fun h0=>?_⟩,h.2⟩
 obtain ⟨ad,hA,hbl,hc⟩:=h.1.2 h0
 have hb:=h.2 ad hA
 have hs:=hg.size
 refine ⟨ad,hA,by omega,fun j u hu=>?_⟩
 rw [← hc j u hu]
 exact World.cell?_of_block (hg.block _ (by rw [Za1]; exact hbl) (fun e=>by injection e with e; rw [Za1] at e; omega))
def Zcn (w:World) (r:TRes) (e:Ending) (w':World):Prop :=
 if r.e=0 then∃A m c,e=.returned (.tuple #[.agg r.c.cs.toArray,.int .i64 (r.kind:Int),.slice A m c,.int .i64 0])∧Zc3 w.heap.size w' A m (bsV r.d)∧m≤c∧c≤maxLen∧Below w.heap.size w w'
 else e=.returned (.tuple #[.agg zCli.cs.toArray,.int .i64 0,.slice none 0 0,.int .i64 r.e])∧Below w.heap.size w w'
theorem Zcn.bad {w w':World} {c:Int} {e:Ending} (hc:c≠0) (he:e=.returned (.tuple #[.agg zCli.cs.toArray,.int .i64 0,.slice none 0 0,.int .i64 c])) (hb:Below w.heap.size w w'):Zcn w (badT c) e w':=by
 unfold Zcn badT
 dsimp only
 rw [if_neg hc]
 exact ⟨he,hb⟩
theorem rTz {w w9:World} {fn:Func} {p u x y:Tmp} {a:Act} {g:Nat} {c:Int} (h:fn.results=#[.cell p 65,.tmp u,.tmp x,.tmp y]) (hp:a.tmps.getD p undef=.pointer (some ⟨g,0,none⟩)) (hu:a.tmps.getD u undef=.int .i64 0) (hx:a.tmps.getD x undef=.slice none 0 0) (hy:a.tmps.getD y undef=.int .i64 c) (hZ:Blk w9 g 65 zCli.cs.toArray) (hE:Below w.heap.size w w9) (hd:a.defers=[]:=by rfl) (hc:c≠0:=by omega):bodyPost Tryz.prog fn (Zcn w (badT c)) .ret a w9 :=
 bodyPost_ret (v:=.tuple #[.agg zCli.cs.toArray,.int .i64 0,.slice none 0 0,.int .i64 c]) (res_cttt h _ g 65 _ _ _ _ _ hp hu hx hy hZ Tryz.underlying65 rfl (Zai Zau)) hd (Zcn.bad hc rfl hE)
def Zdo (c:Cli) (b:List UInt8):TRes :=
 if cliF c=false then badT 1 else if c.opn=false then badT 46 else if (Zcv 6 b && Zb6 (Zay b).kb)=false then badT 6 else if (Zay b).id≠c.id then badT 6 else
 if genF c.sess b=false then badT 50 else
 if (ZbS c.hi c.se (Zay b).n).2.2≠0 then badT (ZbS c.hi c.se (Zay b).n).2.2 else
 ⟨0,{ c with hi:=(ZbS c.hi c.se (Zay b).n).1,se:=(ZbS c.hi c.se (Zay b).n).2.1 },(Zay b).kb.toNat,(Zay b).data⟩
set_option maxRecDepth 100000 in
set_option maxHeartbeats 16000000 in
theorem rtake_sx (w:World) (c:Cli) (hok:c.Ok) (Ab:Option Addr) (nb cb:Nat) (b:List UInt8) (hb:Zaj w w.heap.size 1 Ab nb (bsV b)) (hbc:nb≤cb) (hbm:cb≤maxLen) (r:TRes) (hp:Zdo c b=r) :
  Calls Tryz.prog 70 #[.agg c.cs.toArray,.slice Ab nb cb] w (Zcn w r):=by
 have hlb:b.length=nb:=by have:=hb.1; simpa [bsV] using this
 obtain ⟨W1,hW1⟩ :∃W1,(w.alloc (.cells c.cs.toArray 65)).alloc (.cells zCli.cs.toArray 65)=W1:=⟨_,rfl⟩
 have K0:Hid (Blk W1 w.heap.size 65 c.cs.toArray):=jd (hW1 ▸ ((Blk.new w _ _).alloc _))
 have K2:Hid (Blk W1 (w.heap.size+1) 65 zCli.cs.toArray):=jd (hW1 ▸ (Blk.new' (by simp)))
 have B1:Hid (Below w.heap.size w W1):=jd (hW1 ▸ ((Below.refl _ _).alloc (Nat.le_refl _) _).alloc (by rw [Zae]; omega) _)
 have HBB:=jd hb
 have HBC:=jd hbc
 have HBM:=jd hbm
 have HLB:=jd hlb
 have HW1:=jd hW1
 have HOK:=jd hok
 have HP:=jd hp
 have hnn:(nb:Int)≤9223372036854775807:=by unfold maxLen at hbm; omega
 obtain ⟨t1,ht1⟩ :∃t,cliF c=t:=⟨_,rfl⟩
 have HT1:=jd ht1
 have hzs:zCli.cs.toArray.size=zCli.cs.toArray.size:=rfl
 clear hW1 hb hbc hbm hlb hok hp ht1 hzs
 go_enter Tryz.func70,Tryz.ntmps70
 go_upto_region 1 with (first
  | (refine Zag rfl 65 rfl _ (w.heap.size+1) (Zae _ _) (Zaz _) ?_)
  | fail)
 rw [uh HW1]
 go_wp2_with (first
  | (refine wpList_load_row rfl 65 _ rfl w.heap.size rfl 65 _ _ _ (uh K0) Tryz.underlying65 rfl (Zai (uh HOK)) ?_)
  | fail)
 refine (ZeO W1 c (uh HOK) t1 (uh HT1)).mono ?_
 rintro e w2 ⟨rfl,hb2⟩
 have J0:=jd ((uh K0).below hb2 (uh K0).lt)
 have J2:=jd ((uh K2).below hb2 (uh K2).lt)
 have X2:=jd ((uh B1).trans (hb2.mono (uh B1).size))
 have hs2:w.heap.size+1 < w2.heap.size:=(uh J2).lt
 clear hb2
 cases t1
 case false =>
  have hrr:=uh HP
  unfold Zdo at hrr
  rw [if_pos (uh HT1)] at hrr
  subst hrr
  clear HP
  go_wp2_with (first
   | (refine Zab rfl 65 _ rfl [] rfl _ Zax ?_)
   | (refine Zaa rfl 65 (.tmp 4) (.tmp 15) rfl (w.heap.size+1) 65 _ zCli.cs.toArray rfl rfl (uh J2) rfl (Zai Zau) (fun v hv=>Cli.one v (by simpa using hv)) ?_
      intro w9 hb9 hg9
      have Z9:=jd hb9
      have E9:=jd (gWz (uh X2) hg9)
      clear hb9 hg9)
   | fail)
  exact rTz rfl rfl rfl rfl rfl (uh Z9) (uh E9)
 have hat:=Cli.blk (uh HOK) (uh J0)
 have c37:=hat.opn
 clear hat
 obtain ⟨t2,ht2⟩ :∃t,c.opn=t:=⟨_,rfl⟩
 have HT2:=jd ht2
 rw [ht2] at c37
 clear ht2
 cases t2
 case false =>
  have hrr:=uh HP
  unfold Zdo at hrr
  rw [if_neg (by rw [uh HT1]; simp),if_pos (uh HT2)] at hrr
  subst hrr
  clear HP
  go_wp2_with (first
   | (refine Zab rfl 65 _ rfl [] rfl _ Zax ?_)
   | (refine Zaa rfl 65 (.tmp 4) (.tmp 20) rfl (w.heap.size+1) 65 _ zCli.cs.toArray rfl rfl (uh J2) rfl (Zai Zau) (fun v hv=>Cli.one v (by simpa using hv)) ?_
      intro w9 hb9 hg9
      have Z9:=jd hb9
      have E9:=jd (gWz (uh X2) hg9)
      clear hb9 hg9)
   | fail)
  exact rTz rfl rfl rfl rfl rfl (uh Z9) (uh E9)
 obtain ⟨tf,htf⟩ :∃t,(Zcv 6 b && Zb6 (b.getD 9 0))=t:=⟨_,rfl⟩
 have HTF:=jd htf
 clear htf
 go_upto_region 5 with fail
 have Q7:=jd ((uh HBB).below (uh X2))
 have Q7s:=jd ((uh Q7).more (uh X2).size)
 cases tf
 case false =>
  have hS0:Below w2.heap.size w2 w2.drew:=(Below.refl _ _).drew
  refine wp_region_noPanic (wp_region_held_drew (S:=fun wz=>Below w2.heap.size w2 wz) (by kernel_rfl) hS0 (fun _=>?_))
  refine tq 0 rfl hS0 ?_
  refine tCz 1 rfl fun K hK=>?_
  go_simp
  refine (rform_sx w2.drew Ab nb cb b 6 (uh Q7s).drew _ (uh HTF)).mono ?_
  rintro e wf ⟨rfl,rfl⟩
  refine hK.out _ _ hS0 (fun _=>?_)
  clear hK K
  try simp only [Act.put,zA,zB,zC]
  refine tq 2 rfl hS0 ?_
  refine tq 3 rfl hS0 ?_
  refine tJz (v:=undef) 4 rfl (Or.inr ⟨by rfl,rfl⟩) hS0 ?_
  refine tJz (v:=undef) 5 rfl (Or.inr ⟨by rfl,rfl⟩) hS0 ?_
  refine tJz (v:=undef) 6 rfl (Or.inr ⟨by rfl,rfl⟩) hS0 ?_
  refine tJz (v:=undef) 7 rfl (Or.inr ⟨by rfl,rfl⟩) hS0 ?_
  refine tJz (v:=undef) 8 rfl (Or.inr ⟨by rfl,rfl⟩) hS0 ?_
  refine tq 9 rfl hS0 ?_
  refine tq 10 rfl hS0 ?_
  refine tDz ?_
  have hrr:=uh HP
  unfold Zdo at hrr
  rw [if_neg (by rw [uh HT1]; simp),if_neg (by rw [uh HT2]; simp),if_pos (show (Zcv 6 b && Zb6 (Zay b).kb)=false from uh HTF)] at hrr
  subst hrr
  have J3:=jd ((uh J2).below hS0 (uh J2).lt)
  have X3:=jd ((uh X2).trans (hS0.mono (uh X2).size))
  clear HP hS0
  go_wp2_with (first
   | (refine Zab rfl 65 _ rfl [] rfl _ Zax ?_)
   | (refine Zaa rfl 65 (.tmp 4) (.tmp 32) rfl (w.heap.size+1) 65 _ zCli.cs.toArray rfl rfl (uh J3) rfl (Zai Zau) (fun v hv=>Cli.one v (by simpa using hv)) ?_
      intro w9 hb9 hg9
      have Z9:=jd hb9
      have E9:=jd (gWz (uh X3) hg9)
      clear hb9 hg9)
   | fail)
  exact rTz rfl rfl rfl rfl rfl (uh Z9) (uh E9)
 have hff:Zcv 6 b=true∧Zb6 (Zay b).kb=true:=by
  have:=uh HTF
  rw [Bool.and_eq_true] at this
  exact this
 have hlen:18≤nb∧nb≤274:=by
  have h1:=hff.1
  unfold Zcv at h1
  rw [uh HLB] at h1
  simp only [Bool.and_eq_true,decide_eq_true_eq] at h1
  exact ⟨h1.1,h1.2.1⟩
 have hl18:=hlen.1
 have hl274:=hlen.2
 obtain ⟨id,hid⟩ :∃x,leW ((b.drop 1).take 4)=x:=⟨_,rfl⟩
 have hidl:id < 4294967296:=by rw [← hid]; exact leW4 _ _
 have hpid:(Zay b).id=id:=hid
 have HID:=jd hid
 have HPID:=jd hpid
 have hrr:=uh HP
 unfold Zdo at hrr
 rw [if_neg (by rw [uh HT1]; simp),if_neg (by rw [uh HT2]; simp),if_neg (by rw [hff.1,hff.2]; simp),hpid] at hrr
 have HP3:=jd hrr
 obtain ⟨t3,ht3⟩ :∃t,decide (id=c.id)=t:=⟨_,rfl⟩
 have HT3:=jd ht3
 have f3:((id:Int) != (c.id:Int))=!t3:=by
  rw [← ht3]
  by_cases hq:id=c.id
  · simp [hq]
  ·have:(id:Int)≠(c.id:Int):=fun h=>hq (by omega)
   simp [hq,this]
 clear hid hff hlen hpid hrr ht3 HP
 have hS0:Below w2.heap.size w2 w2.drew:=(Below.refl _ _).drew
 refine wp_region_noPanic (wp_region_held_drew (S:=fun wz=>Below w2.heap.size w2 wz) (by kernel_rfl) hS0 (fun _=>?_))
 refine tq 0 rfl hS0 ?_
 refine tCz 1 rfl fun K hK=>?_
 go_simp
 refine (rform_sx w2.drew Ab nb cb b 6 (uh Q7s).drew _ (uh HTF)).mono ?_
 rintro e wf ⟨rfl,rfl⟩
 refine hK.out _ _ hS0 (fun _=>?_)
 clear hK K
 try simp only [Act.put,zA,zB,zC]
 refine tq 2 rfl hS0 ?_
 refine tq 3 rfl hS0 ?_
 refine tq 4 rfl hS0 ?_
 refine tq 6 rfl hS0 ?_
 refine tJz (v:=(.int .u32 (c.id:Int))) 7 rfl (Or.inl ⟨by rfl,fun wz hSw=>?_⟩) hS0 ?_
 ·have hq:=(Cli.blk (uh HOK) ((uh J0).below hSw (uh J0).lt)).id
  go_simp
 refine tCz 5 rfl fun K hK=>?_
 go_simp
 refine (rid_sx _ nb cb b w2.drew w.heap.size (uh Q7).drew (by omega) (uh HBC) (uh HBM)).mono ?_
 rintro e w6 ⟨rfl,rfl⟩
 rw [uh HID]
 refine hK.out _ _ hS0 (fun _=>?_)
 clear hK K
 try simp only [Act.put,zA,zB,zC]
 refine tJz (v:=(.bool (!t3))) 8 rfl (Or.inl ⟨by rfl,fun wz hSw=>?_⟩) hS0 ?_
 ·have hq:=f3
  go_simp
 refine tJz (v:=(.bool (!t3))) 9 rfl (Or.inl ⟨by rfl,fun wz hSw=>?_⟩) hS0 ?_
 · go_simp
 refine tq 10 rfl hS0 ?_
 refine tDz ?_
 have N0:=jd ((uh J0).drew)
 have N2:=jd ((uh J2).drew)
 have X3:=jd ((uh X2).drew)
 obtain ⟨w3,hw3⟩ :∃w3,w2.drew=w3:=⟨_,rfl⟩
 rw [hw3] at N0 N2 X3 ⊢
 have hs3:w.heap.size+1 < w3.heap.size:=(uh N2).lt
 clear hw3 hS0 f3
 cases t3
 case false =>
  have hrr:=uh HP3
  rw [if_pos (of_decide_eq_false (uh HT3))] at hrr
  subst hrr
  clear HP3
  go_wp2_with (first
   | (refine Zab rfl 65 _ rfl [] rfl _ Zax ?_)
   | (refine Zaa rfl 65 (.tmp 4) (.tmp 32) rfl (w.heap.size+1) 65 _ zCli.cs.toArray rfl rfl (uh N2) rfl (Zai Zau) (fun v hv=>Cli.one v (by simpa using hv)) ?_
      intro w9 hb9 hg9
      have Z9:=jd hb9
      have E9:=jd (gWz (uh X3) hg9)
      clear hb9 hg9)
   | fail)
  exact rTz rfl rfl rfl rfl rfl (uh Z9) (uh E9)
 have hrr:=uh HP3
 rw [if_neg (by have:=of_decide_eq_true (uh HT3); omega)] at hrr
 have HP4:=jd hrr
 clear hrr HP3
 obtain ⟨dk,hdk,hdr⟩:=Za5
 have HDK:=jd hdk
 have HDR:=jd hdr
 have HKI:=jd (ZaV c.sess (uh HOK).sess)
 have HKP:Hid (∀ (j:Nat) v,(bsV c.sess)[j]?=some v→c.cs.toArray[21+j]?=some v):=jd fun j v hv=>(Cli.at_ (uh HOK)).sess j v hv
 clear hdk hdr
 go_wp2_with (first
  | (refine Zbe rfl 46 _ rfl w.heap.size 21 65 c.cs.toArray (bsV c.sess) dk rfl (uh N0) (uh HKP) (uh HDK) (uh HDR) (uh HKI) ?_)
  | fail)
 obtain ⟨mo,hmo⟩ :∃mo,nb=mo+8:=⟨nb - 8,by omega⟩
 obtain ⟨t4,ht4⟩ :∃t,genF c.sess b=t:=⟨_,rfl⟩
 have HT4:=jd ht4
 have hop:=Zc7 c.sess b (uh HOK).sess Ab mo cb w3 (by rw [← hmo]; exact ((uh HBB).below (uh X3)).more (uh X3).size) (by rw [← hmo]; exact uh HBC) (uh HBM) (by omega) t4 (by rw [gen_ok (by rw [uh HLB]; exact hmo),ht4])
 rw [← hmo] at hop
 have HMO:=jd hmo
 have hmo1:10≤mo:=by omega
 have hmo2:mo≤266:=by omega
 clear hmo ht4
 refine hop.mono ?_
 clear hop
 rintro e w7 ⟨hb7,hpost⟩
 have N07:=jd ((uh N0).below hb7 (uh N0).lt)
 have N27:=jd ((uh N2).below hb7 (uh N2).lt)
 have X7:=jd ((uh X3).trans (hb7.mono (uh X3).size))
 have hs7:w3.heap.size≤w7.heap.size:=hb7.size
 clear hb7 c37
 cases t4
 case false =>
  obtain rfl:=hpost
  have hrr:=uh HP4
  rw [if_pos (uh HT4)] at hrr
  subst hrr
  clear HP4
  go_wp2_with (first
   | (refine Zab rfl 65 _ rfl [] rfl _ Zax ?_)
   | (refine Zaa rfl 65 (.tmp 4) (.tmp 42) rfl (w.heap.size+1) 65 _ zCli.cs.toArray rfl rfl (uh N27) rfl (Zai Zau) (fun v hv=>Cli.one v (by simpa using hv)) ?_
      intro w9 hb9 hg9
      have Z9:=jd hb9
      have E9:=jd (gWz (uh X7) hg9)
      clear hb9 hg9)
   | fail)
  exact rTz rfl rfl rfl rfl rfl (uh Z9) (uh E9)
 obtain ⟨vo,rfl,hro⟩:=hpost
 obtain ⟨Ao,co,rfl,hno,hco⟩:=Zac hro
 have HRO:=jd hro
 have hrr:=uh HP4
 rw [if_neg (by rw [uh HT4]; simp)] at hrr
 have HR8:=jd hrr
 clear hrr HP4 hro
 go_upto_region 10 with fail
 obtain ⟨sn,hsn⟩ :∃v,leW ((b.drop 5).take 4)=v:=⟨_,rfl⟩
 have hsnl:sn < 4294967296:=by rw [← hsn]; exact leW4 _ _
 obtain ⟨⟨h1,s1,q1⟩,hsh⟩ :∃p,ZbS c.hi c.se sn=p:=⟨_,rfl⟩
 have hpn:(Zay b).n=sn:=hsn
 have hrr:=uh HR8
 rw [hpn,hsh] at hrr
 dsimp only at hrr
 have HR9:=jd hrr
 have hlt:=Zdr c.hi c.se sn (uh HOK).hi (uh HOK).se hsnl
 rw [hsh] at hlt
 have HLT:=jd hlt
 have HSN:=jd hsn
 have HSH:=jd hsh
 have HSL:=jd (fun W=>sl_lh W Ab nb cb 5 9 5 9 rfl rfl (by omega) (by have:=uh HBC; omega))
 have HWR:Hid (∀ (j:Nat) v,[Value.int .u32 (c.hi:Int),.int .u32 (c.se:Int)][j]?=some v→c.cs.toArray[38+j]?=some v):=jd fun j v hv=>by
  match j,hv with
  | 0,hv=>rw [← Option.some.inj hv]; exact (Cli.at_ (uh HOK)).hi
  | 1,hv=>rw [← Option.some.inj hv]; exact (Cli.at_ (uh HOK)).se
 obtain ⟨dw,hdw,hdwr⟩:=Zfm
 have HDW:=jd hdw
 have HDWR:=jd hdwr
 clear hrr HR8 hsn hsh hpn hlt hdw hdwr
 go_cut [9,10] from 44 to 53 (fun e p W=>∃ g15,p=.pointer (some ⟨g15,0,none⟩)∧e=.int .i64 q1∧Blk W g15 48 #[.int .u32 (h1:Int),.int .u32 (s1:Int)]∧w7.heap.size≤g15∧Below w7.heap.size w7 W)
 case first =>
  have hS0:Below w7.heap.size w7 w7.drew:=(Below.refl _ _).drew
  refine wp_region_noPanic (wp_region_held_drew (S:=fun wz=>Below w7.heap.size w7 wz) (by kernel_rfl) hS0 (fun _=>?_))
  refine tq 0 rfl hS0 ?_
  refine tJz 1 rfl (Zcc 48 (.tmp 45) (by rfl) rfl w.heap.size 38 rfl 65 c.cs.toArray [.int .u32 (c.hi:Int),.int .u32 (c.se:Int)] dw (fun _ h=>(uh N07).below h (uh N07).lt) (uh HWR) (uh HDW) (uh HDWR) (by kernel_rfl)) hS0 ?_
  refine tq 2 rfl hS0 ?_
  refine tJz (v:=(.slice (subA Ab 5 cb) (9 - 5) (cb - 5))) 3 rfl (Or.inl ⟨by rfl,fun wz hSw=>?_⟩) hS0 ?_
  ·have hq:=uh HSL wz
   go_simp
  refine Zbk (i:=4) (j:=10) rfl rfl (by kernel_rfl) (fun K hK=>?_) (fun K hK=>?_)
  ·skip
   rw [if_pos (by rfl)]
   go_simp
   refine (Zcl (subA Ab 5 cb) 4 (cb - 5) ((b.drop 5).take 4) w7.drew w.heap.size (((uh HBB).below ((uh X7).trans (hS0.mono (uh X7).size))).part (i:=5) (j:=9) (c:=cb) (by omega) (by omega) (uh HBC)) (by decide)).mono ?_
   rintro e wv ⟨rfl,rfl⟩
   rw [uh HSN]
   refine hK.out _ _ hS0 (fun _=>?_)
   clear hK K
   try simp only [Act.put,zA,zB,zC]
   refine tJz (v:=(.int .u32 (sn:Int))) 5 rfl (Or.inl ⟨by rfl,fun wz hSw=>?_⟩) hS0 ?_
   · have hw:IntKind.u32.wrap (sn:Int)=(sn:Int):=by rw [IntKind.wrap_u32]; omega
     go_simp
   refine Zbk (i:=6) (j:=10) rfl rfl (by kernel_rfl) (fun K hK=>?_) (fun K hK=>?_)
   · skip
     rw [if_pos (by rfl)]
     go_simp
     refine (Zc0 w7.drew c.hi c.se sn (uh HOK).hi (uh HOK).se hsnl).mono ?_
     rintro e wf ⟨he,hbn⟩
     rw [uh HSH] at he
     obtain rfl:e=.returned (.tuple #[.agg #[.int .u32 (h1:Int),.int .u32 (s1:Int)],.int .i64 q1]):=he
     have hwf:Below w7.heap.size w7 wf:=hS0.trans (hbn.mono hS0.size)
     refine hK.out _ _ hwf (fun _=>?_)
     clear hK K
     try simp only [Act.put,zA,zB,zC]
     refine tq 7 rfl hwf ?_
     refine tq 8 rfl hwf ?_
     refine tq 9 rfl hwf ?_
     refine tCz 10 rfl fun K hK=>?_
     obtain ⟨g15,hg15⟩ :∃k,(wf).heap.size=k:=⟨_,rfl⟩
     have hz5:Blk (wf.alloc (.cells #[.int .u32 0,.int .u32 0] 48)) g15 48 #[.int .u32 0,.int .u32 0]:=by rw [← hg15]; exact Blk.new wf _ _
     have h5g:w7.heap.size≤g15:=by rw [← hg15]; exact hwf.size
     refine ZaT 48 rfl (Zch _) ?_
     have ha:Below w7.heap.size w7 (wf.alloc (.cells #[.int .u32 0,.int .u32 0] 48)):=hwf.alloc hwf.size _
     refine hK.out _ _ ha (fun _=>?_)
     clear hK K
     try simp only [Act.put,zA,zB,zC]
     rw [hg15]
     clear hg15
     refine tOz 11 rfl fun K hK=>?_
     refine Zaf (by rfl) 48 (.tmp 10) (.tmp 52) rfl g15 48 _ #[.int .u32 (h1:Int),.int .u32 (s1:Int)] rfl rfl hz5 rfl (by kernel_rfl) (oZz rfl rfl) ?_
     intro w9 hb9 hg9
     have h9:Below w7.heap.size w7 w9:=ha.grown hg9 ha.size (fun j e=>by injection e with e; omega)
     refine hK.out _ _ h9 (fun _=>?_)
     clear hK K
     try simp only [Act.put]
     refine tq 12 rfl h9 ?_
     refine tDz ?_
     go_wp2_with fail
     go_meet
     exact ⟨g15,rfl,rfl,hb9,h5g,h9⟩
   · skip
     rw [if_pos (by rfl)]
     obtain ⟨g15,hg15⟩ :∃k,(w7.drew).heap.size=k:=⟨_,rfl⟩
     have hz5:Blk (w7.drew.alloc (.cells #[.int .u32 0,.int .u32 0] 48)) g15 48 #[.int .u32 0,.int .u32 0]:=by rw [← hg15]; exact Blk.new w7.drew _ _
     have h5g:w7.heap.size≤g15:=by rw [← hg15]; exact hS0.size
     refine ZaT 48 rfl (Zch _) ?_
     have ha:Below w7.heap.size w7 (w7.drew.alloc (.cells #[.int .u32 0,.int .u32 0] 48)):=hS0.alloc hS0.size _
     refine hK.out _ _ ha (fun _=>?_)
     clear hK K
     try simp only [Act.put,zA,zB,zC]
     rw [hg15]
     clear hg15
     refine tCz 6 rfl fun K hK=>?_
     go_simp
     refine (Zc0 (w7.drew.alloc (.cells #[.int .u32 0,.int .u32 0] 48)) c.hi c.se sn (uh HOK).hi (uh HOK).se hsnl).mono ?_
     rintro e wf ⟨he,hbn⟩
     rw [uh HSH] at he
     obtain rfl:e=.returned (.tuple #[.agg #[.int .u32 (h1:Int),.int .u32 (s1:Int)],.int .i64 q1]):=he
     have hwf:Below w7.heap.size w7 wf:=ha.trans (hbn.mono ha.size)
     have hz5:=hz5.below hbn hz5.lt
     refine hK.out _ _ hwf (fun _=>?_)
     clear hK K
     try simp only [Act.put,zA,zB,zC]
     refine tq 7 rfl hwf ?_
     refine tq 8 rfl hwf ?_
     refine tq 9 rfl hwf ?_
     refine tOz 11 rfl fun K hK=>?_
     refine Zaf (by rfl) 48 (.tmp 10) (.tmp 52) rfl g15 48 _ #[.int .u32 (h1:Int),.int .u32 (s1:Int)] rfl rfl hz5 rfl (by kernel_rfl) (oZz rfl rfl) ?_
     intro w9 hb9 hg9
     have h9:Below w7.heap.size w7 w9:=hwf.grown hg9 hwf.size (fun j e=>by injection e with e; omega)
     refine hK.out _ _ h9 (fun _=>?_)
     clear hK K
     try simp only [Act.put]
     refine tq 12 rfl h9 ?_
     refine tDz ?_
     go_wp2_with fail
     go_meet
     exact ⟨g15,rfl,rfl,hb9,h5g,h9⟩
  ·skip
   rw [if_pos (by rfl)]
   obtain ⟨g15,hg15⟩ :∃k,(w7.drew).heap.size=k:=⟨_,rfl⟩
   have hz5:Blk (w7.drew.alloc (.cells #[.int .u32 0,.int .u32 0] 48)) g15 48 #[.int .u32 0,.int .u32 0]:=by rw [← hg15]; exact Blk.new w7.drew _ _
   have h5g:w7.heap.size≤g15:=by rw [← hg15]; exact hS0.size
   refine ZaT 48 rfl (Zch _) ?_
   have ha:Below w7.heap.size w7 (w7.drew.alloc (.cells #[.int .u32 0,.int .u32 0] 48)):=hS0.alloc hS0.size _
   refine hK.out _ _ ha (fun _=>?_)
   clear hK K
   try simp only [Act.put,zA,zB,zC]
   rw [hg15]
   clear hg15
   refine tCz 4 rfl fun K hK=>?_
   go_simp
   refine (Zcl (subA Ab 5 cb) 4 (cb - 5) ((b.drop 5).take 4) (w7.drew.alloc (.cells #[.int .u32 0,.int .u32 0] 48)) w.heap.size (((uh HBB).below ((uh X7).trans (ha.mono (uh X7).size))).part (i:=5) (j:=9) (c:=cb) (by omega) (by omega) (uh HBC)) (by decide)).mono ?_
   rintro e wv ⟨rfl,rfl⟩
   rw [uh HSN]
   refine hK.out _ _ ha (fun _=>?_)
   clear hK K
   try simp only [Act.put,zA,zB,zC]
   refine tJz (v:=(.int .u32 (sn:Int))) 5 rfl (Or.inl ⟨by rfl,fun wz hSw=>?_⟩) ha ?_
   · have hw:IntKind.u32.wrap (sn:Int)=(sn:Int):=by rw [IntKind.wrap_u32]; omega
     go_simp
   refine tCz 6 rfl fun K hK=>?_
   go_simp
   refine (Zc0 (w7.drew.alloc (.cells #[.int .u32 0,.int .u32 0] 48)) c.hi c.se sn (uh HOK).hi (uh HOK).se hsnl).mono ?_
   rintro e wf ⟨he,hbn⟩
   rw [uh HSH] at he
   obtain rfl:e=.returned (.tuple #[.agg #[.int .u32 (h1:Int),.int .u32 (s1:Int)],.int .i64 q1]):=he
   have hwf:Below w7.heap.size w7 wf:=ha.trans (hbn.mono ha.size)
   have hz5:=hz5.below hbn hz5.lt
   refine hK.out _ _ hwf (fun _=>?_)
   clear hK K
   try simp only [Act.put,zA,zB,zC]
   refine tq 7 rfl hwf ?_
   refine tq 8 rfl hwf ?_
   refine tq 9 rfl hwf ?_
   refine tOz 11 rfl fun K hK=>?_
   refine Zaf (by rfl) 48 (.tmp 10) (.tmp 52) rfl g15 48 _ #[.int .u32 (h1:Int),.int .u32 (s1:Int)] rfl rfl hz5 rfl (by kernel_rfl) (oZz rfl rfl) ?_
   intro w9 hb9 hg9
   have h9:Below w7.heap.size w7 w9:=hwf.grown hg9 hwf.size (fun j e=>by injection e with e; omega)
   refine hK.out _ _ h9 (fun _=>?_)
   clear hK K
   try simp only [Act.put]
   refine tq 12 rfl h9 ?_
   refine tDz ?_
   go_wp2_with fail
   go_meet
   exact ⟨g15,rfl,rfl,hb9,h5g,h9⟩
 case rest =>
 obtain ⟨g15,rfl,rfl,hb15,hg15,h15⟩:=hcut
 have G15:=jd hb15
 have N08:=jd ((uh N07).below h15 (uh N07).lt)
 have N28:=jd ((uh N27).below h15 (uh N27).lt)
 have X8:=jd ((uh X7).trans (h15.mono (uh X7).size))
 have HRO8:=jd (Zam (uh HRO) h15)
 have hs8:w7.heap.size≤wc.heap.size:=h15.size
 clear hb15 h15 HWR HSL HSN
 by_cases hq0:q1=0
 case neg =>
  have hrr:=uh HR9
  rw [if_pos hq0] at hrr
  subst hrr
  have hne:(q1 != 0)=true:=by simpa using hq0
  have HQ:=jd hq0
  clear HR9 hq0
  go_wp2_with (first
   | (refine Zab rfl 65 _ rfl [] rfl _ Zax ?_)
   | (refine Zaa rfl 65 (.tmp 4) (.tmp 56) rfl (w.heap.size+1) 65 _ zCli.cs.toArray rfl rfl (uh N28) rfl (Zai Zau) (fun v hv=>Cli.one v (by simpa using hv)) ?_
      intro w9 hb9 hg9
      have Z9:=jd hb9
      have E9:=jd (gWz (uh X8) hg9)
      clear hb9 hg9)
   | fail)
  exact bodyPost_ret (v:=.tuple #[.agg zCli.cs.toArray,.int .i64 0,.slice none 0 0,.int .i64 q1]) (res_cttt rfl _ (w.heap.size+1) 65 _ _ _ _ _ rfl rfl rfl rfl (uh Z9) Tryz.underlying65 rfl (Zai Zau)) rfl (Zcn.bad (uh HQ) rfl (uh E9))
 subst hq0
 have hrr:=uh HR9
 rw [if_neg (by simp)] at hrr
 have HR10:=jd hrr
 clear hrr HR9
 have ok1:({ c with hi:=h1,se:=s1 }:Cli).Ok:=⟨(uh HOK).user,(uh HOK).key,(uh HOK).sess,(uh HOK).nonce,(uh HOK).server,(uh HOK).id,(uh HLT).1,(uh HLT).2,(uh HOK).out⟩
 obtain ⟨y,hy⟩ :∃y,({ c with hi:=h1,se:=s1 }:Cli)=y:=⟨_,rfl⟩
 have hset1:=Cli.set_win (uh HOK) h1 s1
 rw [hy] at ok1 hset1
 have HOK1:=jd ok1
 have HSET1:=jd hset1
 have HY:=jd hy
 have HSZ:=jd (Cli.size (uh HOK))
 clear ok1 hset1 hy
 obtain ⟨g,oo,hAb,hgl,hcell⟩:=Zcr (uh HBB) (by omega)
 obtain ⟨b9,hb9⟩ :∃x,b[9]?=some x:=⟨b[9]'(by rw [uh HLB]; omega),List.getElem?_eq_getElem _⟩
 have hkb:(Zay b).kb=b9:=by show b.getD 9 0=b9; simp [List.getD,hb9]
 have HKB:=jd hkb
 have HC9:=jd (fun (W:World) (hW:Below w.heap.size w W)=>(hW.cell (p:=⟨g,oo+9,none⟩) hgl).trans (hcell 9 b9 hb9))
 have HSA:=jd (fun W=>sl_l W Ao mo co 10 10 rfl hmo1)
 have hb9l:=b9.toNat_lt
 have hnb9:(9:Int) < (nb:Int):=by omega
 subst hAb
 clear hcell hb9 hkb
 go_upto_region 14 with (first
  | (refine wpList_load_row rfl 48 _ rfl g15 rfl 48 _ _ _ (uh G15) Tryz.underlying48 rfl (by kernel_rfl) ?_)
  |(refine Zal rfl 48 (.tmp 59) (.tmp 58) rfl w.heap.size 38 65 c.cs.toArray (.agg #[.int .u32 (h1:Int),.int .u32 (s1:Int)]) [.int .u32 (h1:Int),.int .u32 (s1:Int)] y.cs rfl rfl (uh N08) rfl (by rw [uh HSZ]; simp) (by kernel_rfl) (by intro u hu; simp at hu; rcases hu with rfl | rfl<;>rfl) (uh HSET1) ?_
    intro w10 hb hg
    have M0:=jd hb
    have M2:=jd ((uh N28).gb hg)
    have RO:=jd (World.ownsRow.kept (uh HRO8) hg (.inr (Zad (uh HRO8) (uh N08) (by decide))))
    have X10:=jd (gWz (uh X8) hg)
    have hs10:wc.heap.size≤w10.heap.size:=hg.size
    clear hb hg
    simp only [Act.put])
  | fail)
 have hB0:Below w10.heap.size w10 w10.drew:=(Below.refl _ _).drew
 have hS0:(fun wz=>Blk wz w.heap.size 65 y.cs.toArray∧Below w.heap.size w wz) w10.drew:=⟨(uh M0).drew,(uh X10).drew⟩
 refine wp_region_noPanic (wp_region_held_drew (S:=fun wz=>Blk wz w.heap.size 65 y.cs.toArray∧Below w.heap.size w wz) (by kernel_rfl) hS0 (fun _=>?_))
 clear hB0
 refine tJz 0 rfl (Zar 65 (.tmp 2) (by rfl) rfl w.heap.size rfl 65 y.cs.toArray _ (fun _ h=>h.1) Tryz.underlying65 rfl (Zai (uh HOK1))) hS0 ?_
 refine tq 1 rfl hS0 ?_
 refine tq 2 rfl hS0 ?_
 refine tJz (v:=(.int .u8 (b9.toNat:Int))) 3 rfl (Or.inl ⟨by rfl,fun wz hSw=>?_⟩) hS0 ?_
 ·have hq:=uh HC9 wz hSw.2
  go_simp
 refine tJz (v:=(.int .i64 (b9.toNat:Int))) 4 rfl (Or.inl ⟨by rfl,fun wz hSw=>?_⟩) hS0 ?_
 ·have hw:IntKind.i64.wrap (b9.toNat:Int)=(b9.toNat:Int):=IntWalk.i64_in _ (by omega)
  go_simp
 refine tq 5 rfl hS0 ?_
 refine tJz (v:=(.slice (subA Ao 10 co) (mo - 10) (co - 10))) 6 rfl (Or.inl ⟨by rfl,fun wz hSw=>?_⟩) hS0 ?_
 ·have hq:=uh HSA wz
  go_simp
 refine tOz 7 rfl fun K hK=>?_
 refine Zaf (by rfl) 65 (.tmp 4) (.tmp 60) rfl (w.heap.size+1) 65 _ y.cs.toArray rfl rfl (uh M2).drew (Cli.size_eq (uh HOK1)) (Zai (uh HOK1)) (fun v hv=>Cli.one v (by simpa using hv)) ?_
 intro wd hbd hgd
 have XD:Below w.heap.size w wd:=hS0.2.grown hgd (uh X10).size (fun j e=>by injection e with e; omega)
 have SD:Blk wd w.heap.size 65 y.cs.toArray∧Below w.heap.size w wd:=⟨hS0.1.grown hgd (fun e=>by injection e with e; omega),XD⟩
 have ROD:=jd (World.ownsRow.kept (w:=w10.drew) (uh RO) hgd (.inr (Zad (w:=w10.drew) (uh RO) (uh M2).drew (by decide))))
 have RD:=jd hbd
 clear hbd hgd
 refine hK.out _ _ SD (fun _=>?_)
 clear hK K
 try simp only [Act.put]
 refine tq 8 rfl SD ?_
 refine tq 9 rfl SD ?_
 refine tq 10 rfl SD ?_
 refine tDz ?_
 have hrr:=uh HR10
 rw [uh HY,uh HKB] at hrr
 subst hrr
 have XDD:=jd XD
 clear SD hS0 XD
 go_wp2_with fail
 refine bodyPost_ret (v:=.tuple #[.agg y.cs.toArray,.int .i64 (b9.toNat:Int),.slice (subA Ao 10 co) (mo - 10) (co - 10),.int .i64 0]) (res_cttt rfl _ (w.heap.size+1) 65 _ _ _ _ _ rfl rfl rfl rfl (uh RD) Tryz.underlying65 rfl (Zai (uh HOK1))) rfl ?_
 show Zcn w _ _ _
 unfold Zcn
 rw [if_pos rfl]
 refine ⟨subA Ao 10 co,mo - 10,co - 10,rfl,?_,by omega,by omega,uh XDD⟩
 have h:=(Zc3.of_own (base':=w.heap.size) (uh ROD) (by omega)).rest (i:=10) (c:=co) (by omega) hno
 have e:(b.take mo).drop 10=(Zay b).data:=by
  show _=(b.drop 10).take (b.length - 18)
  rw [List.drop_take,uh HLB,show nb - 18=mo - 10 by have:=uh HMO; omega]
 rw [e] at h
 exact h
end Go.Proofs.YtfbkkmnkpjgciaaGreat
