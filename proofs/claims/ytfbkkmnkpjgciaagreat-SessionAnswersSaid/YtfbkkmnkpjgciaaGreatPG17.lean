/- Joined of SProof. No condition. -/
import Derived.Test.YtfbkkmnkpjgciaaGreatPG12
namespace Go.Proofs.YtfbkkmnkpjgciaaGreat
open Go.RowKit
def Zcs (p:Sess→Bool):List Sess→Nat→Option (Nat × Sess)
 | [],_=>none
 | x::r,k=>if p x=true then some (k,x) else Zcs p r (k+1)
theorem Za8 (p:Sess→Bool):∀ (L:List Sess) (k:Nat),(Zbl p L k=-1∧Zcs p L k=none)∨∃ i x,Zbl p L k=((k+i:Nat):Int)∧Zcs p L k=some (k+i,x)∧L[i]?=some x∧p x=true
 | [],_=>.inl ⟨rfl,rfl⟩
 |y::r,k=>by
  cases h:p y with
  | true=>exact .inr ⟨0,y,by simp [Zbl,h],by simp [Zcs,h],rfl,h⟩
  |false =>
   rcases Za8 p r (k+1) with ⟨e,ha⟩ | ⟨i,x,e,ha,hx,hp⟩
   · exact .inl ⟨by simp [Zbl,h,e],by simp [Zcs,h,ha]⟩
   · refine .inr ⟨i+1,x,by simp only [Zbl,h]; rw [if_neg (by simp),e]; congr 1; omega,by simp only [Zcs,h]; rw [if_neg (by simp),ha]; congr 2; omega,by simpa using hx,hp⟩
theorem validG_level {L:List Sess}:∀ (nx b:Nat),Zbu L nx b=true→∀ x∈L,decide (1≤x.level∧x.level≤3)=true:=by
 induction L with
 | nil=>intro nx b _ x hx; cases hx
 |cons y L ih =>
  intro nx b h x hx
  unfold Zbu at h
  simp only [Bool.and_eq_true] at h
  rcases List.mem_cons.1 hx with rfl | hx
  ·have:=h.1
   unfold okX at this
   simp only [Bool.and_eq_true] at this
   exact this.2.2.2.1
  · exact ih nx y.id h.2 x hx
theorem expF_sub (L:List Sess) (nx:Nat) (now:Int):∀ x∈expF L nx now,x∈L:=by
 intro x hx
 unfold expF at hx
 split at hx
 · exact (List.mem_filter.1 hx).1
 · exact hx
theorem expF_level {L:List Sess} {nx:Nat} {now:Int} (h:ZaS L nx=true):∀ x∈expF L nx now,decide (1≤x.level∧x.level≤3)=true:=by
 intro x hx
 unfold ZaS at h
 simp only [Bool.and_eq_true] at h
 exact validG_level nx 0 h.2.2 x (expF_sub L nx now x hx)
theorem RowM.split_ {w:World} {g cap i:Nat} {M:List Sess} {cur:Array Value} {x:Sess} (h:RowM w g cap M cur) (hok:ZaE M) (hx:M[i]?=some x):cur.toList=cur.toList.take (i*26)++(x.cs++cur.toList.drop (i*26+26)):=by
 have hi:=(List.getElem?_eq_some_iff.1 hx).1
 have hxl:=Sess.len (hok x (List.mem_of_getElem? hx))
 have hsz:=h.size
 have hle:=h.le
 have hcu:cur.toList.length=cap*26:=by rw [Array.length_toList]; exact hsz
 have e:(cur.toList.drop (i*26)).take 26=x.cs:=by
  apply List.ext_getElem?
  intro j
  by_cases hj:j < 26
  ·rw [List.getElem?_take_of_lt hj,List.getElem?_drop]
   have hv:x.cs[j]?=some (x.cs[j]'(by omega)):=List.getElem?_eq_getElem _
   have:=Ze5 hok i x hx j _ hv
   rw [← h.take,List.getElem?_take_of_lt (by omega)] at this
   rw [this,hv]
  · rw [List.getElem?_eq_none (by rw [List.length_take]; omega),List.getElem?_eq_none (by omega)]
 rw [← e,← List.drop_drop,List.take_append_drop,List.take_append_drop]
theorem RowM.part {w w':World} {g cap i j:Nat} {M:List Sess} {cur:Array Value} {x x':Sess} {p:List Value} (h:RowM w g cap M cur) (hok:ZaE M) (hx:M[i]?=some x) (hxo:x'.Ok)
  (hp:x.cs.take j++p++x.cs.drop (j+p.length)=x'.cs) (hj:j+p.length≤26) (hb:Blk w' g 50 (cur.toList.take (i*26+j)++p++cur.toList.drop (i*26+j+p.length)).toArray) :
  RowM w' g cap (M.set i x') (cur.toList.take (i*26)++x'.cs++cur.toList.drop (i*26+x'.cs.length)).toArray:=by
 have hi:=(List.getElem?_eq_some_iff.1 hx).1
 have hxl:=Sess.len (hok x (List.mem_of_getElem? hx))
 have hcu:cur.toList.length=cap*26:=by rw [Array.length_toList]; exact h.size
 have hle:=h.le
 have hs:=h.split_ hok hx
 have hal:(cur.toList.take (i*26)).length=i*26:=by rw [List.length_take,hcu]; omega
 refine RowM.set_ h hok hxo hi ?_
 have e1:cur.toList.take (i*26+j)=cur.toList.take (i*26)++x.cs.take j:=by
  conv=>lhs; rw [hs]
  rw [show i*26+j=(cur.toList.take (i*26)).length+j by rw [hal],List.take_length_add_append,List.take_append_of_le_length (by omega)]
 have e2:cur.toList.drop (i*26+j+p.length)=x.cs.drop (j+p.length)++cur.toList.drop (i*26+26):=by
  conv=>lhs; rw [hs]
  rw [show i*26+j+p.length=(cur.toList.take (i*26)).length+(j+p.length) by rw [hal]; omega,List.drop_length_add_append,List.drop_append_of_le_length (by omega)]
 rw [e1,e2] at hb
 rw [Sess.len hxo,← hp]
 simpa [List.append_assoc] using hb
section
variable {x:Sess} (h:x.Ok)
include h
theorem Sess.set_key (k:List UInt8) (hk:k.length=16):x.cs.take 5++bsV k++x.cs.drop (5+(bsV k).length)={ x with key:=k }.cs:=by
 obtain ⟨a0,a1,a2,a3,a4,a5,a6,a7,a8,a9,a10,a11,a12,a13,a14,a15,e1⟩:=x.open_ h
 obtain ⟨d0,d1,d2,d3,d4,d5,d6,d7,d8,d9,d10,d11,d12,d13,d14,d15,rfl⟩:=ZdM k hk
 obtain ⟨id,user,level,client,server,key,opn,hi,se,out,last⟩:=x
 dsimp only at e1
 subst e1
 rfl
theorem Sess.set_opn (b:Bool):x.cs.take 21++[.bool b]++x.cs.drop (21+[Value.bool b].length)={ x with opn:=b }.cs:=by
 obtain ⟨a0,a1,a2,a3,a4,a5,a6,a7,a8,a9,a10,a11,a12,a13,a14,a15,e1⟩:=x.open_ h
 obtain ⟨id,user,level,client,server,key,opn,hi,se,out,last⟩:=x
 dsimp only at e1
 subst e1
 rfl
theorem Sess.set_last (t:Int):x.cs.take 25++[.int .i64 t]++x.cs.drop (25+[Value.int .i64 t].length)={ x with last:=t }.cs:=by
 obtain ⟨a0,a1,a2,a3,a4,a5,a6,a7,a8,a9,a10,a11,a12,a13,a14,a15,e1⟩:=x.open_ h
 obtain ⟨id,user,level,client,server,key,opn,hi,se,out,last⟩:=x
 dsimp only at e1
 subst e1
 rfl
theorem Sess.set_win (a b:Nat):x.cs.take 22++[.int .u32 (a:Int),.int .u32 (b:Int)]++x.cs.drop (22+[Value.int .u32 (a:Int),.int .u32 (b:Int)].length)={ x with hi:=a,se:=b }.cs:=by
 obtain ⟨a0,a1,a2,a3,a4,a5,a6,a7,a8,a9,a10,a11,a12,a13,a14,a15,e1⟩:=x.open_ h
 obtain ⟨id,user,level,client,server,key,opn,hi,se,out,last⟩:=x
 dsimp only at e1
 subst e1
 rfl
theorem Sess.set_out (a:Nat):x.cs.take 24++[.int .u32 (a:Int)]++x.cs.drop (24+[Value.int .u32 (a:Int)].length)={ x with out:=a }.cs:=by
 obtain ⟨a0,a1,a2,a3,a4,a5,a6,a7,a8,a9,a10,a11,a12,a13,a14,a15,e1⟩:=x.open_ h
 obtain ⟨id,user,level,client,server,key,opn,hi,se,out,last⟩:=x
 dsimp only at e1
 subst e1
 rfl
end
def ZeI (x:Sess) (now:Int):Sess:={ x with key:=derF x.key ZdW (x.client:Int) (x.server:Int),opn:=true,last:=now }
def ZbN (L:List Sess) (nx:Nat) (b:List UInt8) (now:Int):SRes :=
 if ZaS L nx=false then badS 1 else if ZcR now=false then badS 2 else if ¬ (b.length=13∧b[0]?=some 3) then badS 6 else
 match Zcs (idP (leW ((b.drop 1).take 4))) (expF L nx now) 0 with
 | none=>badS 44
 |some (i,x)=>if x.opn=true then badS 44 else if decide (b=ZbB 3 x.key x.id x.client x.server (levB x.level))=false then badS 50 else
  ⟨0,(expF L nx now).set i (ZeI x now),nx,ZbB 4 x.key x.id x.client x.server (levB x.level)⟩
def FndR (id:Nat) (i:Int):Nat→Value→World→Prop
 | 3,v,_=>v=.int .u64 (id:Int)
 | 4,v,_=>v=.int .u32 (id:Int)
 | 5,v,_=>v=.int .i64 i
 | _,_,_=>True
theorem FndR.keep {id:Nat} {i:Int}:∀ (k:Nat) (v:Value) (w w':World),FndR id i k v w→Below w.heap.size w w'→FndR id i k v w':=by
 intro k v w w' h _
 unfold FndR at *
 split at h
 · exact h
 · exact h
 · exact h
 · trivial
def DerR (ks:List UInt8) (cl sv:Nat) (z:List UInt8):Nat→Value→World→Prop
 | 6,v,_=>v=.agg (bsV ks).toArray
 | 10,v,_=>v=.int .u64 (cl:Int)
 | 14,v,_=>v=.int .u64 (sv:Int)
 | 15,v,_=>v=.agg (bsV z).toArray
 | _,_,_=>True
theorem DerR.keep {ks:List UInt8} {cl sv:Nat} {z:List UInt8}:∀ (k:Nat) (v:Value) (w w':World),DerR ks cl sv z k v w→Below w.heap.size w w'→DerR ks cl sv z k v w':=by
 intro k v w w' h _
 unfold DerR at *
 split at h
 · exact h
 · exact h
 · exact h
 · exact h
 · trivial
theorem ZaE.set {L:List Sess} {x:Sess} {i:Nat} (h:ZaE L) (hx:x.Ok):ZaE (L.set i x):=fun y hy=>by
 rcases List.mem_or_eq_of_mem_set hy with hy | rfl
 · exact h y hy
 · exact hx
theorem RowM.whole {w:World} {g cap base n:Nat} {M:List Sess} {cur:Array Value} (h:RowM w g cap M cur) (hok:ZaE M) (hb:base≤g) (hn:M.length=n):w.ownsRow base 50 26 (.slice (some ⟨g,0,none⟩) n cap) n (Zat M):=by
 have:=h.own hok hb n (by omega)
 rwa [List.take_of_length_le (by omega)] at this
set_option maxRecDepth 100000 in
set_option maxHeartbeats 16000000 in
theorem proof_sx (w:World) (A:Option Addr) (n c:Nat) (L:List Sess) (nx:Nat) (hS:ZaA w w.heap.size A n L) (hn:n≤1000) (hnx:nx < 4294967296)
  (Ab:Option Addr) (nb cb:Nat) (b:List UInt8) (hb:Zaj w w.heap.size 1 Ab nb (bsV b)) (hbc:nb≤cb) (hbm:cb≤maxLen) (now:Int) (r:SRes) (hr:ZbN L nx b now=r) :
  Calls Tryz.prog 12 #[.agg #[.slice A n c,.int .u32 (nx:Int)],.slice Ab nb cb,.int .i64 now] w (ZaH w r):=by
 obtain ⟨W1,hW1⟩ :∃W1,(w.alloc (.cells #[.slice A n c,.int .u32 (nx:Int)] 29)).alloc (.cells #[.slice none 0 0,.int .u32 0] 29)=W1:=⟨_,rfl⟩
 have hsz:W1.heap.size=w.heap.size+2:=by rw [← hW1,Zb2]
 have K0:Hid (Blk W1 w.heap.size 29 #[.slice A n c,.int .u32 (nx:Int)]):=jd (hW1 ▸ ((Blk.new w _ _).alloc _))
 have K2:Hid (Blk W1 (w.heap.size+1) 29 #[.slice none 0 0,.int .u32 0]):=jd (hW1 ▸ (Blk.new' (by simp)))
 have B1:Hid (Below w.heap.size w W1):=jd (hW1 ▸ ((Below.refl _ _).alloc (Nat.le_refl _) _).alloc (by rw [Zae]; omega) _)
 have HS:=jd hS
 have HBB:=jd hb
 have HR:=jd hr
 have HW1:=jd hW1
 have hlb:b.length=nb:=by have:=hb.1; simpa [bsV] using this
 have HLB:=jd hlb
 have HBC:=jd hbc
 have HBM:=jd hbm
 have hnb:(nb:Int)≤9223372036854775807:=by unfold maxLen at hbm; omega
 have S1:=jd ((hS.below (uh B1)).more (uh B1).size)
 obtain ⟨t1,ht1⟩ :∃t,ZaS L nx=t:=⟨_,rfl⟩
 have HT1:=jd ht1
 clear hW1 hS hb hr hlb hbc hbm ht1
 go_enter Tryz.func12,Tryz.ntmps12
 go_upto_region 1 with fail
 rw [uh HW1]
 go_wp2_with (first
  | (refine wpList_load_row rfl 29 _ rfl w.heap.size rfl 29 _ _ _ (uh K0) Tryz.underlying29 rfl (by kernel_rfl) ?_)
  | fail)
 refine (Zdb W1 A n c L nx (uh S1) (by unfold maxLen; omega) hnx t1 (uh HT1)).mono ?_
 rintro e w2 ⟨rfl,hb2⟩
 have J0:=jd ((uh K0).below hb2 (uh K0).lt)
 have J2:=jd ((uh K2).below hb2 (uh K2).lt)
 have X2:=jd ((uh B1).trans (hb2.mono (uh B1).size))
 have hs2:w.heap.size+2≤w2.heap.size:=by have:=hb2.size; omega
 clear hb2
 cases t1
 case false =>
  have hrr:=uh HR
  unfold ZbN at hrr
  rw [if_pos (uh HT1)] at hrr
  subst hrr
  clear HR
  go_wp2_with (first
   | (refine Zab rfl 29 _ rfl [] rfl _ Zan ?_)
   |(refine Zaa rfl 29 (.tmp 6) (.tmp 16) rfl (w.heap.size+1) 29 _ #[.slice none 0 0,.int .u32 0] rfl rfl (uh J2) rfl (by kernel_rfl) (oZz rfl rfl) ?_
     intro w9 hb9 hg9
     have Z9:=jd hb9
     have E9:=jd (gWz (uh X2) hg9)
     clear hb9 hg9)
   | fail)
  exact rSz rfl rfl rfl rfl (uh Z9) (uh E9)
 obtain ⟨t2,ht2⟩ :∃t,ZcR now=t:=⟨_,rfl⟩
 have HT2:=jd ht2
 have HT2':Hid (decide (0≤now∧now≤17179869184)=t2):=jd ht2
 clear ht2
 cases t2
 case false =>
  have hrr:=uh HR
  unfold ZbN at hrr
  rw [if_neg (by rw [uh HT1]; simp),if_pos (uh HT2)] at hrr
  subst hrr
  clear HR
  go_wp2_with (first
   | (refine Zab rfl 29 _ rfl [] rfl _ Zan ?_)
   |(refine Zaa rfl 29 (.tmp 6) (.tmp 20) rfl (w.heap.size+1) 29 _ #[.slice none 0 0,.int .u32 0] rfl rfl (uh J2) rfl (by kernel_rfl) (oZz rfl rfl) ?_
     intro w9 hb9 hg9
     have Z9:=jd hb9
     have E9:=jd (gWz (uh X2) hg9)
     clear hb9 hg9)
   | (go_at_call 43; refine (Zbj _ now _ (uh HT2')).mono ?_; rintro e w' ⟨rfl,rfl⟩)
   | fail)
  exact rSz rfl rfl rfl rfl (uh Z9) (uh E9)
 have hrr:=uh HR
 unfold ZbN at hrr
 rw [if_neg (by rw [uh HT1]; simp),if_neg (by rw [uh HT2]; simp)] at hrr
 have HR2:=jd hrr
 clear hrr HR
 by_cases h13:nb=13
 case neg =>
  have f1:((nb:Int) != 13)=true:=by simp; omega
  have hrr:=uh HR2
  rw [if_pos (fun h=>h13 ((uh HLB).symm.trans h.1))] at hrr
  subst hrr
  clear HR2
  go_wp2_with (first
   | (refine Zab rfl 29 _ rfl [] rfl _ Zan ?_)
   |(refine Zaa rfl 29 (.tmp 6) (.tmp 30) rfl (w.heap.size+1) 29 _ #[.slice none 0 0,.int .u32 0] rfl rfl (uh J2) rfl (by kernel_rfl) (oZz rfl rfl) ?_
     intro w9 hb9 hg9
     have Z9:=jd hb9
     have E9:=jd (gWz (uh X2) hg9)
     clear hb9 hg9)
   | (go_at_call 43; refine (Zbj _ now _ (uh HT2')).mono ?_; rintro e w' ⟨rfl,rfl⟩)
   | fail)
  exact rSz rfl rfl rfl rfl (uh Z9) (uh E9)
 subst h13
 obtain ⟨g,oo,hAb,hgl,hcell⟩:=Zcr (uh HBB) (by omega)
 obtain ⟨b0,hb0⟩ :∃x,b[0]?=some x:=⟨b[0]'(by rw [uh HLB]; omega),List.getElem?_eq_getElem _⟩
 have c0:w2.cell? ⟨g,oo,none⟩=some (.int .u8 (b0.toNat:Int)):=((uh X2).cell (p:=⟨g,oo,none⟩) hgl).trans (hcell 0 b0 hb0)
 have HB0:=jd hb0
 subst hAb
 clear hcell hb0
 by_cases hz:b0=3
 case neg =>
  have f2:((b0.toNat:Int) != 3)=true:=by
   have:b0.toNat≠3:=fun e=>hz (UInt8.toNat_inj.1 e)
   simp; omega
  have hrr:=uh HR2
  rw [if_pos (fun h=>hz (Option.some.inj ((uh HB0).symm.trans h.2)))] at hrr
  subst hrr
  clear HR2
  go_wp2_with (first
   | (refine Zab rfl 29 _ rfl [] rfl _ Zan ?_)
   |(refine Zaa rfl 29 (.tmp 6) (.tmp 30) rfl (w.heap.size+1) 29 _ #[.slice none 0 0,.int .u32 0] rfl rfl (uh J2) rfl (by kernel_rfl) (oZz rfl rfl) ?_
     intro w9 hb9 hg9
     have Z9:=jd hb9
     have E9:=jd (gWz (uh X2) hg9)
     clear hb9 hg9)
   | (go_at_call 43; refine (Zbj _ now _ (uh HT2')).mono ?_; rintro e w' ⟨rfl,rfl⟩)
   | fail)
  exact rSz rfl rfl rfl rfl (uh Z9) (uh E9)
 subst hz
 have hc0:w2.cell? ⟨g,oo,none⟩=some (.int .u8 3):=c0
 clear c0
 have hrr:=uh HR2
 rw [if_neg (by rw [uh HLB,uh HB0]; simp)] at hrr
 have HR3:=jd hrr
 clear hrr HR2
 go_wp2_with (first
  | (go_at_call 43; refine (Zbj _ now _ (uh HT2')).mono ?_; rintro e w' ⟨rfl,rfl⟩)
  | (refine wpList_load_row rfl 29 _ rfl w.heap.size rfl 29 _ _ _ (uh J0) Tryz.underlying29 rfl (by kernel_rfl) ?_)
  | fail)
 refine (Zea w2 A n c L nx (((uh HS).below (uh X2)).more (uh X2).size) hn hnx now).mono ?_
 rintro e w4 ⟨v4,rfl,ho4,hb4⟩
 obtain ⟨E,hE⟩ :∃E,expF L nx now=E:=⟨_,rfl⟩
 have hEok:ZaE E:=by rw [← hE]; exact ZcP (uh HS).ok
 have hEl:E.length≤n:=by rw [← hE,← (uh HS).len]; exact Zd2 _ _ _
 have hlev:∀ x∈E,decide (1≤x.level∧x.level≤3)=true:=by rw [← hE]; exact expF_level (uh HT1)
 have hr3:=uh HR3
 rw [hE] at ho4 hr3
 have HR4:=jd hr3
 obtain ⟨m,hm⟩ :∃m,E.length=m:=⟨_,rfl⟩
 rw [hm] at ho4 hEl
 obtain ⟨A4,c4,hv4,hmc4,hcm4⟩:=Zac ho4
 subst hv4
 have M2:=jd (((uh J2).below hb4 (uh J2).lt).alloc (.cells #[.slice none 0 0,.int .u32 0] 29))
 have O4:=jd (ho4.alloc (.cells #[.slice none 0 0,.int .u32 0] 29))
 have M3:=jd (Blk.new w4 29 #[.slice none 0 0,.int .u32 0])
 have hs4:w2.heap.size≤w4.heap.size:=hb4.size
 have X4:=jd (((uh X2).trans (hb4.mono (by omega))).alloc (by omega) (.cells #[.slice none 0 0,.int .u32 0] 29))
 have HEOK:=jd hEok
 have HM:=jd hm
 have HLEV:=jd hlev
 clear ho4 hb4 hE hEok hm hlev hr3 HR3 hc0
 go_upto_region 8 with (first
  | (refine Zag rfl 29 rfl _ w4.heap.size rfl (ZaB _) ?_)
  |(refine Zaa rfl 29 (.tmp 9) (.tmp 33) rfl w4.heap.size 29 _ #[.slice A4 m c4,.int .u32 (nx:Int)] rfl rfl (uh M3) rfl (by kernel_rfl) (oZz rfl rfl) ?_
    intro w5 hb5 hg5
    have N3:=jd hb5
    have N2:=jd ((uh M2).gb hg5)
    have O5:=jd (World.ownsRow.kept (uh O4) hg5 (.inr (Zad (uh O4) (uh M3) (by decide))))
    have X5:=jd (gWz (uh X4) hg5)
    have hs5:w4.heap.size < w5.heap.size:=hb5.lt
    clear hb5 hg5)
  | fail)
 obtain ⟨id,hid⟩ :∃x,leW ((b.drop 1).take 4)=x:=⟨_,rfl⟩
 have hidl:id < 4294967296:=by rw [← hid]; exact leW4 _ _
 have hr4:=uh HR4
 rw [hid] at hr4
 have HR5:=jd hr4
 have HID:=jd hid
 have R5:=jd ((uh HBB).below (uh X5))
 have HSA:=jd (fun W=>sl_lh W (some ⟨g,oo,none⟩) 13 cb 1 5 1 5 rfl rfl (by omega) (by have:=uh HBC; omega))
 have EGN':=jd (ZaO Tryz.func47 (by kernel_rfl) rfl)
 have EGF':=jd (ZaO Tryz.func15 (by kernel_rfl) rfl)
 have wid:IntKind.u32.wrap (id:Int)=(id:Int):=IntWalk.u32_in _ (by omega)
 obtain ⟨fi,hfi⟩ :∃i,Zbl (idP id) E 0=i:=⟨_,rfl⟩
 have HFI:=jd hfi
 clear hr4 HR4 hid hfi
 have hS0:Below w5.heap.size w5 w5.drew:=(Below.refl _ _).drew
 refine wp_region_noPanic (wp_region_held_drew (S:=fun wz=>Below w5.heap.size w5 wz) (by kernel_rfl) hS0 (fun _=>?_))
 refine tJz 0 rfl (Zar 29 (.tmp 9) (by rfl) rfl w4.heap.size rfl 29 #[.slice A4 m c4,.int .u32 (nx:Int)] _ (fun _ h=>(uh N3).below h (uh N3).lt) Tryz.underlying29 rfl (by kernel_rfl)) hS0 ?_
 refine tq 1 rfl hS0 ?_
 refine tJz (v:=.slice (subA (some ⟨g,oo,none⟩) 1 cb) 4 (cb - 1)) 2 rfl (Or.inl ⟨by rfl,fun wz hSw=>?_⟩) hS0 ?_
 ·have hq:=uh HSA wz
  go_simp
 refine ZbH (FndR id fi) w5 [3,4,5] #[true,true,true,true,true,true,false] [(3,some 37),(4,some 38),(5,some 39)] 126 1 (by kernel_rfl) rfl FndR.keep (fun _ h=>h) hS0 ⟨?_,?_,?_,trivial⟩ ?_ rfl
 ·intro a wa hBa hout hin
  have e:a.eval (.tmp 36)=.slice (subA (some ⟨g,oo,none⟩) 1 cb) 4 (cb - 1):=hout 36 (by kernel_rfl)
  refine ZaI [.slice (subA (some ⟨g,oo,none⟩) 1 cb) 4 (cb - 1)] rfl rfl rfl rfl (uh EGN') ?_ ?_
  ·show [a.eval (.tmp 36)]=_
   rw [e]
  ·have hr:=((uh HBB).below ((uh X5).trans (hBa.mono (uh X5).size))).part (i:=1) (j:=5) (c:=cb) (by omega) (by omega) (uh HBC)
   refine (ZcE _ 4 (cb - 1) ((b.drop 1).take 4) wa _ hr (by omega)).mono fun e w' ⟨he,hw⟩=>⟨_,he,by subst hw; exact Below.refl _ _,?_⟩
   rw [uh HID]
   rfl
 ·intro a wa hBa hout hin
  have e0:a.eval (.tmp 37)=.int .u64 (id:Int):=hin 3 37 (by kernel_rfl)
  refine ZaF rfl rfl (v:=.int .u32 (id:Int)) (w':=wa) ?_ ⟨Below.refl _ _,rfl⟩
  unfold execOp
  simp only [e0]
  go_simp
 ·intro a wa hBa hout hin
  have e34:a.eval (.tmp 34)=.agg #[.slice A4 m c4,.int .u32 (nx:Int)]:=hout 34 (by kernel_rfl)
  have e38:a.eval (.tmp 38)=.int .u32 (id:Int):=hin 4 38 (by kernel_rfl)
  refine ZaI [.agg #[.slice A4 m c4,.int .u32 (nx:Int)],.int .u32 (id:Int)] rfl rfl rfl rfl (uh EGF') ?_ ?_
  ·show [a.eval (.tmp 34),a.eval (.tmp 38)]=_
   rw [e34,e38]
  ·have hS:=ZaA.of_own (Zam (uh O5) (hBa.mono (Nat.le_refl _))) (uh HEOK)
   refine (Zfq wa A4 m c4 E _ hS (by unfold maxLen; omega) id).mono fun e w' ⟨he,hb⟩=>⟨_,he,hb,?_⟩
   rw [uh HFI]
   rfl
 intro vals ww hBw hRw
 simp only [puts,Act.put,zA,zB,zC]
 have e5:vals 5=.int .i64 fi:=hRw 5 (by rfl)
 rw [e5]
 refine tq 6 rfl hBw ?_
 refine tDz ?_
 have N36:=jd ((uh N3).below hBw hs5)
 have N26:=jd ((uh N2).below hBw (uh N2).lt)
 have O6:=jd (Zam (uh O5) hBw)
 have X6:=jd ((uh X5).trans (hBw.mono (uh X5).size))
 have hs6:w5.heap.size≤ww.heap.size:=hBw.size
 clear hRw e5 hBw hS0
 have d0:ww.cell? ⟨w4.heap.size,0,none⟩=some (.slice A4 m c4):=(uh N36).cell 0
 rcases Za8 (idP id) E 0 with ⟨e1,f1⟩ | ⟨i,x,e1,f1,hx,hpx⟩
 ·obtain rfl:fi=-1:=by rw [← uh HFI,e1]
  have hrr:=uh HR5
  rw [f1] at hrr
  dsimp only at hrr
  subst hrr
  clear HR5 e1 f1
  go_wp2_with (first
   | (refine Zab rfl 29 _ rfl [] rfl _ Zan ?_)
   |(refine Zaa rfl 29 (.tmp 6) (.tmp 50) rfl (w.heap.size+1) 29 _ #[.slice none 0 0,.int .u32 0] rfl rfl (uh N26) rfl (by kernel_rfl) (oZz rfl rfl) ?_
     intro w9 hb9 hg9
     have Z9:=jd hb9
     have E9:=jd (gWz (uh X6) hg9)
     clear hb9 hg9)
   | fail)
  exact rSz rfl rfl rfl rfl (uh Z9) (uh E9)
 rw [Nat.zero_add] at e1 f1
 obtain rfl:fi=(i:Int):=by rw [← uh HFI,e1]
 have hrr:=uh HR5
 rw [f1] at hrr
 dsimp only at hrr
 have HR6:=jd hrr
 have him:i < m:=by have:=(List.getElem?_eq_some_iff.1 hx).1; have:=uh HM; omega
 have hxo:x.Ok:=(uh HEOK) x (List.mem_of_getElem? hx)
 have hlx:=uh HLEV x (List.mem_of_getElem? hx)
 obtain ⟨gr,cap,cur,hv6,hgb,hrow,hml⟩:=RowM.of_own (uh O6) (uh HEOK) (by omega)
 injection hv6 with hA4 _ hc4
 subst hA4 hc4
 have hat:=Sess.range hxo (hrow.range (uh HEOK) hx)
 have hi0:((i:Int) < 0)=False:=by simp
 have hi0b:(0:Int)≤(i:Int):=by omega
 have hiz:(i:Int) < (m:Int):=by omega
 have c21:=hat.opn
 have HX:=jd hx
 have HXO:=jd hxo
 have HROW:=jd hrow
 have HLX:=jd (Zd3 hlx)
 clear hrr HR5 e1 f1 hx hxo hlx hrow hat hpx
 obtain ⟨t3,ht3⟩ :∃t,x.opn=t:=⟨_,rfl⟩
 rw [ht3] at c21
 have HT3:=jd ht3
 clear ht3
 cases t3
 case true =>
  have hrr:=uh HR6
  rw [if_pos (uh HT3)] at hrr
  subst hrr
  clear HR6
  go_wp2_with (first
   | (refine Zab rfl 29 _ rfl [] rfl _ Zan ?_)
   |(refine Zaa rfl 29 (.tmp 6) (.tmp 50) rfl (w.heap.size+1) 29 _ #[.slice none 0 0,.int .u32 0] rfl rfl (uh N26) rfl (by kernel_rfl) (oZz rfl rfl) ?_
     intro w9 hb9 hg9
     have Z9:=jd hb9
     have E9:=jd (gWz (uh X6) hg9)
     clear hb9 hg9)
   | fail)
  exact rSz rfl rfl rfl rfl (uh Z9) (uh E9)
 have hrr:=uh HR6
 rw [if_neg (by rw [uh HT3]; simp)] at hrr
 have HR7:=jd hrr
 clear hrr HR6
 obtain ⟨dk,hdk,hdr⟩:=Za5
 have HDK:=jd hdk
 have HDR:=jd hdr
 have HKX:=jd (uh HXO).key
 have hidx:=(uh HXO).id
 have hgrw:=(uh HROW).blk.lt
 have HRG:=jd ((uh HROW).range (uh HEOK) (uh HX))
 have HAT:=jd (fun (W:World) (hW:Below ww.heap.size ww W)=>Sess.range (uh HXO) (show W.rangeAt gr (i*26) x.cs from fun j v hv=>(hW.cell (p:=⟨gr,i*26+j,none⟩) hgrw).trans (uh HRG j v hv)))
 clear hdk hdr
 go_upto_region 12 with fail
 clear c21 d0
 have hS0:Below ww.heap.size ww ww.drew:=(Below.refl _ _).drew
 refine wp_region_noPanic (wp_region_held_drew (S:=fun wz=>Below ww.heap.size ww wz) (by kernel_rfl) hS0 (fun _=>?_))
 refine tq 0 rfl hS0 ?_
 refine tq 1 rfl hS0 ?_
 refine tq 2 rfl hS0 ?_
 refine tq 3 rfl hS0 ?_
 refine tJz (v:=.agg (bsV x.key).toArray) 4 rfl (yieldsIf_load_mid (by rfl) 46 (.tmp 58) rfl gr (i*26+5) rfl (bsV x.key) dk (fun wz hSw=>(show wz.rangeAt gr (i*26+5) (bsV x.key) from fun j v hv=>by rw [Nat.add_assoc (i*26) 5 j]; exact (uh HAT wz hSw).key j v hv)) (uh HDK) (uh HDR) (ZaV _ (uh HKX))) hS0 ?_
 refine tq 5 rfl hS0 ?_
 refine tq 6 rfl hS0 ?_
 refine tq 7 rfl hS0 ?_
 refine tJz (v:=.int .u32 (x.id:Int)) 8 rfl (Or.inl ⟨by rfl,fun wz hSw=>?_⟩) hS0 ?_
 ·have hq:wz.cell? ⟨gr,i*26,none⟩=some (.int .u32 (x.id:Int)):=(uh HAT wz hSw).id
  go_simp
 refine tq 9 rfl hS0 ?_
 refine tq 10 rfl hS0 ?_
 refine tq 11 rfl hS0 ?_
 refine tJz (v:=.int .u64 (x.client:Int)) 12 rfl (Or.inl ⟨by rfl,fun wz hSw=>?_⟩) hS0 ?_
 ·have hq:=(uh HAT wz hSw).client
  go_simp
 refine tq 13 rfl hS0 ?_
 refine tq 14 rfl hS0 ?_
 refine tq 15 rfl hS0 ?_
 refine tJz (v:=.int .u64 (x.server:Int)) 16 rfl (Or.inl ⟨by rfl,fun wz hSw=>?_⟩) hS0 ?_
 ·have hq:=(uh HAT wz hSw).server
  go_simp
 refine tq 17 rfl hS0 ?_
 refine tq 18 rfl hS0 ?_
 refine tq 19 rfl hS0 ?_
 refine tJz (v:=.int .i64 ((levB x.level).toNat:Int)) 20 rfl (Or.inl ⟨by rfl,fun wz hSw=>?_⟩) hS0 ?_
 ·have hq:=(uh HAT wz hSw).level
  rw [← uh HLX] at hq
  go_simp
 refine tCz 21 rfl fun K hK=>?_
 go_simp
 refine (Zeq _ 3 x.key (uh HKX) x.id x.client x.server hidx (levB x.level)).mono ?_
 rintro e w7 ⟨v7,rfl,ho7,hb7⟩
 have hb7:Below ww.heap.size ww w7:=hS0.trans hb7
 obtain ⟨A7,c7,hv7,h71,h72⟩:=Zac ho7
 subst hv7
 have R7:=jd (Zaj.of_own ho7)
 have Q7:=jd ((((uh HBB).below (uh X6)).more (uh X6).size).below hb7)
 have Q7':=jd ((uh Q7).more hb7.size)
 obtain ⟨t4,ht4⟩ :∃t,decide (b=ZbB 3 x.key x.id x.client x.server (levB x.level))=t:=⟨_,rfl⟩
 have HT4:=jd ht4
 refine hK.out _ _ hb7 (fun _=>?_)
 clear hK K
 try simp only [Act.put,zA,zB,zC]
 refine tCz 22 rfl fun K hK=>?_
 go_simp
 refine (equal_sx w7 13 _ A7 cb c7 _ _ w7.heap.size (uh Q7') (uh R7) (by omega) t4 (uh HT4)).mono ?_
 rintro e w8 ⟨rfl,hb8⟩
 have hb8:Below ww.heap.size ww w8:=hb7.trans (hb8.mono hb7.size)
 refine hK.out _ _ hb8 (fun _=>?_)
 clear hK K
 try simp only [Act.put,zA,zB,zC]
 refine tq 23 rfl hb8 ?_
 refine tDz ?_
 have N38:=jd ((uh N36).below hb8 (uh N36).lt)
 have N28:=jd ((uh N26).below hb8 (uh N26).lt)
 have X8:=jd ((uh X6).trans (hb8.mono (uh X6).size))
 have ROW8:=jd ((uh HROW).below hb8)
 have hs8:ww.heap.size≤w8.heap.size:=hb8.size
 clear hb8 hb7 ho7 ht4 hS0
 cases t4
 case false =>
  have hrr:=uh HR7
  rw [if_pos (uh HT4)] at hrr
  subst hrr
  clear HR7
  go_wp2_with (first
   | (refine Zab rfl 29 _ rfl [] rfl _ Zan ?_)
   |(refine Zaa rfl 29 (.tmp 6) (.tmp 79) rfl (w.heap.size+1) 29 _ #[.slice none 0 0,.int .u32 0] rfl rfl (uh N28) rfl (by kernel_rfl) (oZz rfl rfl) ?_
     intro w9 hb9 hg9
     have Z9:=jd hb9
     have E9:=jd (gWz (uh X8) hg9)
     clear hb9 hg9)
   | fail)
  exact rSz rfl rfl rfl rfl (uh Z9) (uh E9)
 have hrr:=uh HR7
 rw [if_neg (by rw [uh HT4]; simp)] at hrr
 have HR8:=jd hrr
 clear hrr HR7
 have HRG8:=jd ((uh ROW8).range (uh HEOK) (uh HX))
 have hgrw8:=(uh ROW8).blk.lt
 have HAT8:=jd (fun (W:World) (hW:Below w8.heap.size w8 W)=>Sess.range (uh HXO) (show W.rangeAt gr (i*26) x.cs from fun j v hv=>(hW.cell (p:=⟨gr,i*26+j,none⟩) hgrw8).trans (uh HRG8 j v hv)))
 go_upto_region 14 with fail
 have hS0:Below w8.heap.size w8 w8.drew:=(Below.refl _ _).drew
 refine wp_region_noPanic (wp_region_held_drew (S:=fun wz=>Below w8.heap.size w8 wz) (by kernel_rfl) hS0 (fun _=>?_))
 refine tq 0 rfl hS0 ?_
 refine tq 1 rfl hS0 ?_
 refine tq 2 rfl hS0 ?_
 refine tJz (v:=.agg (bsV x.key).toArray) 3 rfl (yieldsIf_load_mid (by rfl) 46 (.tmp 82) rfl gr (i*26+5) rfl (bsV x.key) dk (fun wz hSw=>(show wz.rangeAt gr (i*26+5) (bsV x.key) from fun j v hv=>by rw [Nat.add_assoc (i*26) 5 j]; exact (uh HAT8 wz hSw).key j v hv)) (uh HDK) (uh HDR) (ZaV _ (uh HKX))) hS0 ?_
 refine tq 4 rfl hS0 ?_
 refine tq 5 rfl hS0 ?_
 refine tq 6 rfl hS0 ?_
 refine tJz (v:=.int .u32 (x.id:Int)) 7 rfl (Or.inl ⟨by rfl,fun wz hSw=>?_⟩) hS0 ?_
 ·have hq:wz.cell? ⟨gr,i*26,none⟩=some (.int .u32 (x.id:Int)):=(uh HAT8 wz hSw).id
  go_simp
 refine tq 8 rfl hS0 ?_
 refine tq 9 rfl hS0 ?_
 refine tq 10 rfl hS0 ?_
 refine tJz (v:=.int .u64 (x.client:Int)) 11 rfl (Or.inl ⟨by rfl,fun wz hSw=>?_⟩) hS0 ?_
 ·have hq:=(uh HAT8 wz hSw).client
  go_simp
 refine tq 12 rfl hS0 ?_
 refine tq 13 rfl hS0 ?_
 refine tq 14 rfl hS0 ?_
 refine tJz (v:=.int .u64 (x.server:Int)) 15 rfl (Or.inl ⟨by rfl,fun wz hSw=>?_⟩) hS0 ?_
 ·have hq:=(uh HAT8 wz hSw).server
  go_simp
 refine tq 16 rfl hS0 ?_
 refine tq 17 rfl hS0 ?_
 refine tq 18 rfl hS0 ?_
 refine tJz (v:=.int .i64 ((levB x.level).toNat:Int)) 19 rfl (Or.inl ⟨by rfl,fun wz hSw=>?_⟩) hS0 ?_
 ·have hq:=(uh HAT8 wz hSw).level
  rw [← uh HLX] at hq
  go_simp
 refine tCz 20 rfl fun K hK=>?_
 go_simp
 refine (Zeq _ 4 x.key (uh HKX) x.id x.client x.server hidx (levB x.level)).mono ?_
 rintro e w10 ⟨v10,rfl,ho10,hb10⟩
 have hb10:Below w8.heap.size w8 w10:=hS0.trans hb10
 refine hK.out _ _ hb10 (fun _=>?_)
 clear hK K
 try simp only [Act.put,zA,zB,zC]
 refine tq 21 rfl hb10 ?_
 refine tDz ?_
 have N310:=jd ((uh N38).below hb10 (uh N38).lt)
 have N210:=jd ((uh N28).below hb10 (uh N28).lt)
 have X10:=jd ((uh X8).trans (hb10.mono (uh X8).size))
 have ROW10:=jd ((uh ROW8).below hb10)
 have hs10:w8.heap.size≤w10.heap.size:=hb10.size
 have V10:Hid (w10.ownsRow w.heap.size 5 1 v10 13 (bsV (ZbB 4 x.key x.id x.client x.server (levB x.level)))):=jd (Zak ho10 (uh X8).size)
 clear hb10 ho10 hS0
 have HRG10:=jd ((uh ROW10).range (uh HEOK) (uh HX))
 have hgrw10:=(uh ROW10).blk.lt
 have HAT10:=jd (fun (W:World) (hW:Below w10.heap.size w10 W)=>Sess.range (uh HXO) (show W.rangeAt gr (i*26) x.cs from fun j v hv=>(hW.cell (p:=⟨gr,i*26+j,none⟩) hgrw10).trans (uh HRG10 j v hv)))
 obtain ⟨z,hz⟩ :∃z,derF x.key ZdW (x.client:Int) (x.server:Int)=z:=⟨_,rfl⟩
 have hzl:z.length=16:=by rw [← hz]; exact ZbK _ _ _ _
 have HZ:=jd hz
 have HZL:=jd hzl
 have EGD':=jd (ZaO Tryz.func53 (by kernel_rfl) rfl)
 clear hz hzl
 go_upto_region 15 with fail
 have hT0:(fun _:World=>True) w10.drew:=trivial
 have hB0:Below w10.heap.size w10 w10.drew:=(Below.refl _ _).drew
 refine wp_region_noPanic (wp_region_held_drew (S:=fun _=>True) (by kernel_rfl) hT0 (fun _=>?_))
 refine tq 0 rfl hT0 ?_
 refine tq 1 rfl hT0 ?_
 refine tq 2 rfl hT0 ?_
 refine tq 3 rfl hT0 ?_
 refine tq 4 rfl hT0 ?_
 refine tq 5 rfl hT0 ?_
 refine tq 7 rfl hT0 ?_
 refine tq 8 rfl hT0 ?_
 refine tq 9 rfl hT0 ?_
 refine tq 11 rfl hT0 ?_
 refine tq 12 rfl hT0 ?_
 refine tq 13 rfl hT0 ?_
 refine tq 16 rfl hT0 ?_
 refine ZbH (DerR x.key x.client x.server z) w10 [6,10,14,15] #[true,true,true,true,true,true,true,true,true,true,true,true,true,true,true,true,true,false,false,false,false,false,false,false,false,false] [(6,some 107),(10,some 111),(14,some 115),(15,some 116)] 126 9 (by kernel_rfl) rfl DerR.keep (fun _ _=>trivial) hB0 ⟨?_,?_,?_,?_,trivial⟩ ?_ rfl
 ·intro a wa hBa hout hin
  have e:a.eval (.tmp 106)=.pointer (some ⟨gr,i*26+5,none⟩):=hout 106 (by kernel_rfl)
  have hr:wa.rangeAt gr (i*26+5) (bsV x.key):=fun j v hv=>by rw [Nat.add_assoc (i*26) 5 j]; exact (uh HAT10 wa hBa).key j v hv
  refine ZaF rfl rfl (v:=.agg (bsV x.key).toArray) (w':=wa) ?_ ⟨Below.refl _ _,rfl⟩
  have hl:=run_loadAt_mid (P:=Tryz.prog) wa gr (i*26+5) 46 (bsV x.key) dk hr (uh HDK) (uh HDR) (ZaV _ (uh HKX))
  simp only [execOp,e,hl,Sem.run_bind,Sem.run_pure,Result.andThen_ok]
 ·intro a wa hBa hout hin
  have e:a.eval (.tmp 110)=.pointer (some ⟨gr,i*26+3,none⟩):=hout 110 (by kernel_rfl)
  have hq:=(uh HAT10 wa hBa).client
  refine ZaF rfl rfl (v:=.int .u64 (x.client:Int)) (w':=wa) ?_ ⟨Below.refl _ _,rfl⟩
  unfold execOp
  simp only [e]
  go_simp
 ·intro a wa hBa hout hin
  have e:a.eval (.tmp 114)=.pointer (some ⟨gr,i*26+4,none⟩):=hout 114 (by kernel_rfl)
  have hq:=(uh HAT10 wa hBa).server
  refine ZaF rfl rfl (v:=.int .u64 (x.server:Int)) (w':=wa) ?_ ⟨Below.refl _ _,rfl⟩
  unfold execOp
  simp only [e]
  go_simp
 ·intro a wa hBa hout hin
  have e6:a.eval (.tmp 107)=.agg (bsV x.key).toArray:=hin 6 107 (by kernel_rfl)
  have e10:a.eval (.tmp 111)=.int .u64 (x.client:Int):=hin 10 111 (by kernel_rfl)
  have e14:a.eval (.tmp 115)=.int .u64 (x.server:Int):=hin 14 115 (by kernel_rfl)
  refine ZaI [.agg (bsV x.key).toArray,.string ⟨#[115,101,115,115,105,111,110]⟩,.int .u64 (x.client:Int),.int .u64 (x.server:Int)] rfl rfl rfl rfl (uh EGD') ?_ ?_
  ·show [a.eval (.tmp 107),_,a.eval (.tmp 111),a.eval (.tmp 115)]=_
   rw [e6,e10,e14]
   rfl
  ·refine (derive_any wa x.key (uh HKX) ⟨#[115,101,115,115,105,111,110]⟩ (by decide) (x.client:Int) (x.server:Int) (by omega) (by omega)).mono fun e w' ⟨he,hb⟩=>⟨_,he,hb,?_⟩
   show Value.agg (bsV (derF x.key (ByteArray.mk #[115,101,115,115,105,111,110]).data.toList (x.client:Int) (x.server:Int))).toArray=Value.agg (bsV z).toArray
   rw [← uh HZ]
   rfl
 intro vals ww hBw hRw
 simp only [puts,Act.put,zA,zB,zC]
 have e15:vals 15=.agg (bsV z).toArray:=hRw 15 (by rfl)
 rw [e15]
 have hrow11:=(uh ROW10).below hBw
 have hx11:Below w.heap.size w ww:=(uh X10).trans (hBw.mono (uh X10).size)
 have n311:=(uh N310).below hBw (uh N310).lt
 have n211:=(uh N210).below hBw (uh N210).lt
 have v11:=Zam (uh V10) hBw
 clear e15 hRw
 have hxz1:({ x with key:=z }:Sess).Ok:=⟨(uh HXO).id,(uh HXO).user,(uh HXO).client,(uh HXO).server,uh HZL,(uh HXO).hi,(uh HXO).se,(uh HXO).out⟩
 have hxz2:({ x with key:=z,opn:=true }:Sess).Ok:=⟨(uh HXO).id,(uh HXO).user,(uh HXO).client,(uh HXO).server,uh HZL,(uh HXO).hi,(uh HXO).se,(uh HXO).out⟩
 have hxz3:({ x with key:=z,opn:=true,last:=now }:Sess).Ok:=⟨(uh HXO).id,(uh HXO).user,(uh HXO).client,(uh HXO).server,uh HZL,(uh HXO).hi,(uh HXO).se,(uh HXO).out⟩
 have hok1:ZaE (E.set i { x with key:=z }):=(uh HEOK).set hxz1
 have hok2:ZaE ((E.set i { x with key:=z }).set i { x with key:=z,opn:=true }):=hok1.set hxz2
 have hiE:i < E.length:=(List.getElem?_eq_some_iff.1 (uh HX)).1
 have hx1:(E.set i { x with key:=z })[i]?=some { x with key:=z }:=List.getElem?_set_self hiE
 have hx2:((E.set i { x with key:=z }).set i { x with key:=z,opn:=true })[i]?=some { x with key:=z,opn:=true }:=List.getElem?_set_self (by rw [List.length_set]; exact hiE)
 have hsplit:∀ {W:World} {M:List Sess} {cu:Array Value} {k:Nat},RowM W gr c4 M cu→i < M.length→k≤26→i*26+k≤cu.size:=fun h1 h2 h3=>by have:=h1.size; have:=h1.le; omega
 refine tq 17 rfl trivial ?_
 refine tq 18 rfl trivial ?_
 refine tOz 19 rfl fun K hK=>?_
 refine Zao (by rfl) 46 (.tmp 119) (.tmp 116) rfl gr (i*26+5) 50 _ (.agg (bsV z).toArray) (bsV z) _ rfl rfl hrow11.blk rfl (by have:=hsplit hrow11 hiE (k:=21) (by omega); simp [uh HZL]; omega) (ZaV _ (uh HZL)) (ZaL z) rfl ?_
 intro w12 hb12 hg12
 obtain ⟨cu12,hr12⟩ :∃cu,RowM w12 gr c4 (E.set i { x with key:=z }) cu:=⟨_,RowM.part hrow11 (uh HEOK) (uh HX) hxz1 (Sess.set_key (uh HXO) z (uh HZL)) (by simp [uh HZL]) hb12⟩
 refine hK.out _ _ trivial (fun _=>?_)
 clear hK K
 try simp only [Act.put]
 refine tq 20 rfl trivial ?_
 refine tq 21 rfl trivial ?_
 refine tOz 22 rfl fun K hK=>?_
 refine Zao (by rfl) 4 (.tmp 121) (.const (.bool true)) rfl gr (i*26+21) 50 _ (.bool true) [.bool true] _ rfl rfl hr12.blk rfl (by have:=hsplit hr12 (by rw [List.length_set]; exact hiE) (k:=22) (by omega); simp; omega) (by kernel_rfl) (one1 rfl) rfl ?_
 intro w13 hb13 hg13
 obtain ⟨cu13,hr13⟩ :∃cu,RowM w13 gr c4 ((E.set i { x with key:=z }).set i { x with key:=z,opn:=true }) cu:=⟨_,RowM.part hr12 hok1 hx1 hxz2 (Sess.set_opn hxz1 true) (by simp) hb13⟩
 refine hK.out _ _ trivial (fun _=>?_)
 clear hK K
 try simp only [Act.put]
 refine tq 23 rfl trivial ?_
 refine tq 24 rfl trivial ?_
 refine tOz 25 rfl fun K hK=>?_
 refine Zao (by rfl) 2 (.tmp 123) (.tmp 117) rfl gr (i*26+25) 50 _ (.int .i64 now) [.int .i64 now] _ rfl rfl hr13.blk rfl (by have:=hsplit hr13 (by rw [List.length_set,List.length_set]; exact hiE) (k:=26) (by omega); simp; omega) (by kernel_rfl) (one1 rfl) rfl ?_
 intro w14 hb14 hg14
 obtain ⟨cu14,hr14⟩ :∃cu,RowM w14 gr c4 (((E.set i { x with key:=z }).set i { x with key:=z,opn:=true }).set i { x with key:=z,opn:=true,last:=now }) cu:=⟨_,RowM.part hr13 hok2 hx2 hxz3 (Sess.set_last hxz2 now) (by simp) hb14⟩
 refine hK.out _ _ trivial (fun _=>?_)
 clear hK K
 try simp only [Act.put]
 refine tDz ?_
 rw [List.set_set,List.set_set] at hr14
 have hng:∀ {q:Nat} {cs:Array Value},Blk ww q 29 cs→some q≠some gr:=fun hq e=>by
  injection e with e
  subst e
  exact Blk.ne_ hq hrow11.blk (by decide) rfl
 have hngv:∀ {W:World} {v:Value} {k:Nat} {xs:List Value} {cu:Array Value},W.ownsRow w.heap.size 5 1 v k xs→Blk W gr 50 cu→v.ownBlock≠some gr:=fun hv hb=>Zad hv hb (by decide)
 have n314:=((n311.grown hg12 (hng n311)).grown hg13 (hng n311)).grown hg14 (hng n311)
 have n214:=((n211.grown hg12 (hng n211)).grown hg13 (hng n211)).grown hg14 (hng n211)
 have v12:=World.ownsRow.kept v11 hg12 (.inr (hngv v11 hrow11.blk))
 have v13:=World.ownsRow.kept v12 hg13 (.inr (hngv v12 hr12.blk))
 have v14:=World.ownsRow.kept v13 hg14 (.inr (hngv v13 hr13.blk))
 have hgb2:w.heap.size≤gr:=by omega
 have x12:=hx11.grown hg12 hx11.size (fun j e=>by injection e with e; omega)
 have x13:=x12.grown hg13 x12.size (fun j e=>by injection e with e; omega)
 have x14:=x13.grown hg14 x13.size (fun j e=>by injection e with e; omega)
 have N314:=jd n314
 have N214:=jd n214
 have V14:=jd v14
 have X14:=jd x14
 have ROW14:=jd hr14
 have HOKF:=jd ((uh HEOK).set (i:=i) hxz3)
 have HIE:=jd hiE
 clear hr14 hr13 hr12 hb12 hb13 hb14 hg12 hg13 hg14 n314 n214 v12 v13 v14 x12 x13 x14 hng hngv n311 n211 v11 hx11 hrow11 hok1 hok2 hx1 hx2 hxz1 hxz2 hxz3 hBw hT0 hB0 hsplit hiE
 go_wp2_with (first
  | (refine wpList_load_row rfl 29 _ rfl w4.heap.size rfl 29 _ _ _ (uh N314) Tryz.underlying29 rfl (by kernel_rfl) ?_)
  |(refine Zaa rfl 29 (.tmp 6) (.tmp 124) rfl (w.heap.size+1) 29 _ #[.slice (some ⟨gr,0,none⟩) m c4,.int .u32 (nx:Int)] rfl rfl (uh N214) rfl (by kernel_rfl) (oZz rfl rfl) ?_
    intro w20 hb20 hg20
    have Z20:=jd hb20
    have hne:gr≠w.heap.size+1:=fun e=>Blk.ne_ (uh ROW14).blk (e ▸ uh N214) (by decide) rfl
    have ROW20:=jd ((uh ROW14).grown hg20 hne)
    have V20:=jd (World.ownsRow.kept (uh V14) hg20 (.inr (Zad (uh V14) (uh N214) (by decide))))
    have X20:=jd (gWz (uh X14) hg20)
    clear hb20 hg20)
  | fail)
 refine bodyPost_ret (v:=.tuple #[.agg #[.slice (some ⟨gr,0,none⟩) m c4,.int .u32 (nx:Int)],v10,.int .i64 0]) (Za4 rfl _ (w.heap.size+1) 29 _ _ _ _ rfl rfl rfl (uh Z20) Tryz.underlying29 rfl (by kernel_rfl)) rfl ?_
 rw [← uh HR8]
 unfold ZaH
 rw [if_pos rfl]
 have he:ZeI x now={ x with key:=z,opn:=true,last:=now }:=by rw [← uh HZ]; rfl
 rw [he]
 refine ⟨_,v10,rfl,?_,?_,uh X20⟩
 ·dsimp only
  rw [List.length_set,uh HM]
  exact (uh ROW20).whole (uh HOKF) (by omega) (by rw [List.length_set]; exact uh HM)
 ·dsimp only
  rw [ZbY]
  exact uh V20
end Go.Proofs.YtfbkkmnkpjgciaaGreat
