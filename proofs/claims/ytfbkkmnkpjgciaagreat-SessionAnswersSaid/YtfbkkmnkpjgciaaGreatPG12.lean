/- Joined of SHello. No condition. -/
import Derived.Test.YtfbkkmnkpjgciaaGreatPG11
namespace Go.Proofs.YtfbkkmnkpjgciaaGreat
open Go.RowKit
structure SRes where
 code:Int
 L:List Sess
 nx:Nat
 bs:List UInt8
def badS (c:Int):SRes:=⟨c,[],0,[]⟩
def ZaH (w:World) (r:SRes) (e:Ending) (w':World):Prop :=
 if r.code=0 then∃v vb,e=.returned (.tuple #[.agg #[v,.int .u32 (r.nx:Int)],vb,.int .i64 0])∧w'.ownsRow w.heap.size 50 26 v r.L.length (Zat r.L)∧w'.ownsRow w.heap.size 5 1 vb r.bs.length (bsV r.bs)∧Below w.heap.size w w'
 else e=.returned (.tuple #[.agg #[.slice none 0 0,.int .u32 0],.slice none 0 0,.int .i64 r.code])∧Below w.heap.size w w'
theorem ZaH.bad {w w':World} {c:Int} {e:Ending} (hc:c≠0) (he:e=.returned (.tuple #[.agg #[.slice none 0 0,.int .u32 0],.slice none 0 0,.int .i64 c])) (hb:Below w.heap.size w w'):ZaH w (badS c) e w':=by
 unfold ZaH badS
 dsimp only
 rw [if_neg hc]
 exact ⟨he,hb⟩
theorem rSz {w w9:World} {fn:Func} {p u x:Tmp} {a:Act} {g:Nat} {c:Int} (h:fn.results=#[.cell p 29,.tmp u,.tmp x]) (hp:a.tmps.getD p undef=.pointer (some ⟨g,0,none⟩)) (hu:a.tmps.getD u undef=.slice none 0 0) (hx:a.tmps.getD x undef=.int .i64 c) (hZ:Blk w9 g 29 #[.slice none 0 0,.int .u32 0]) (hE:Below w.heap.size w w9) (hd:a.defers=[]:=by rfl) (hc:c≠0:=by omega):bodyPost Tryz.prog fn (ZaH w (badS c)) .ret a w9 :=
 bodyPost_ret (v:=.tuple #[.agg #[.slice none 0 0,.int .u32 0],.slice none 0 0,.int .i64 c]) (Za4 h _ g 29 _ _ _ _ hp hu hx hZ Tryz.underlying29 rfl (by kernel_rfl)) hd (ZaH.bad hc rfl hE)
def ZcW (b:List UInt8):Bool:=decide (11≤b.length) && (b.getD 0 0==1 && (decide (1≤((b.getD 9 0).toNat:Int)∧((b.getD 9 0).toNat:Int)≤3) && ZbC (b.drop 10)))
def Zdh (U:List Usr) (s:List UInt8):List UInt8:=((U.find? (ZbR s)).map (·.key)).getD z16
def newS (U:List Usr) (b:List UInt8) (nonce nx:Nat) (now:Int):Sess :=
 ⟨nx,b.drop 10,((b.getD 9 0).toNat:Int),leW ((b.drop 1).take 8),nonce,Zdh U (b.drop 10),false,0,0,0,now⟩
def ZdZ (nx nonce:Nat):List UInt8:=Zbh 2 [leB (nx:Int) 4,leB (nonce:Int) 8]
theorem ZbA (nx nonce:Nat):(ZdZ nx nonce).length=13:=by simp [ZdZ,Zbh,Zbr]
def ZbI (L:List Sess) (nx:Nat) (U:List Usr) (C:List Chn) (ch:Int) (b:List UInt8) (nonce:Nat) (now:Int):SRes :=
 if ZaS L nx=false then badS 1 else if ZcR now=false then badS 2 else if ZcW b=false then badS 6 else
 if (limF U C (b.drop 10) ch).2≠0 then badS (limF U C (b.drop 10) ch).2 else
 if (limF U C (b.drop 10) ch).1 < ((b.getD 9 0).toNat:Int) then badS 43 else
 if 4≤(expF L nx now).length∨nx=4294967295 then badS 9 else
 ⟨0,expF L nx now++[newS U b nonce nx now],nx+1,ZdZ nx nonce⟩
theorem ZdI (id:Nat) (u:List UInt8) (l:Int) (cl sv:Nat) (ks:List UInt8) (hk:ks.length=16) (now:Int) :
  Tryz.prog.built 50 [(0,.int .u32 (id:Int)),(1,.string ⟨u.toArray⟩),(2,.int .i64 l),(3,.int .u64 (cl:Int)),(4,.int .u64 (sv:Int)),(5,.agg (bsV ks).toArray),(9,.int .i64 now)]=some (Sess.mk id u l cl sv ks false 0 0 0 now).cs.toArray:=by
 obtain ⟨a0,a1,a2,a3,a4,a5,a6,a7,a8,a9,a10,a11,a12,a13,a14,a15,rfl⟩:=ZdM ks hk
 kernel_rfl
theorem Zan:Tryz.prog.built 29 []=some #[.slice none 0 0,.int .u32 0]:=by kernel_rfl
theorem ZcJ (w:World) (x:Sess) (hx:x.Ok):(Instr.buildSlice 26 1 #[(0,.agg x.cs.toArray)]).run Tryz.prog w=.ok (.slice (some ⟨w.heap.size,0,none⟩) 1 1) (w.alloc (.cells x.cs.toArray 50)):=by
 obtain ⟨a0,a1,a2,a3,a4,a5,a6,a7,a8,a9,a10,a11,a12,a13,a14,a15,e1⟩:=x.open_ hx
 obtain ⟨id,user,level,client,server,key,opn,hi,se,out,last⟩:=x
 dsimp only at e1
 subst e1
 kernel_rfl
theorem Zcy {b:List UInt8} (h:ZcW b=true):11≤b.length∧b.length≤26:=by
 unfold ZcW at h
 simp only [Bool.and_eq_true,decide_eq_true_eq] at h
 obtain ⟨h1,_,_,h4⟩:=h
 have:=Zd4 h4
 rw [List.length_drop] at this
 omega
def HelR (B:Nat) (U:List Usr) (b:List UInt8) (nonce nx:Nat) (now:Int) (iu:Nat) (gu ou:Nat):Nat→Value→World→Prop
 | 6,v,_=>v=.int .u64 (leW ((b.drop 1).take 8):Int)
 | 12,v,_=>v=.int .i64 (iu:Int)
 | 13,v,_=>v=.pointer (some ⟨gu,ou+iu*19,none⟩)
 | 14,v,_=>v=.pointer (some ⟨gu,ou+iu*19+1,none⟩)
 | 15,v,_=>v=.agg (bsV (Zdh U (b.drop 10))).toArray
 | 17,v,_=>v=.agg (newS U b nonce nx now).cs.toArray
 | 18,v,w=>∃ g,v=.pointer (some ⟨g,0,none⟩)∧Blk w g 50 Za7.cs.toArray∧B≤g
 | _,_,_=>True
theorem HelR.keep {B:Nat} {U:List Usr} {b:List UInt8} {nonce nx:Nat} {now:Int} {iu gu ou:Nat}:∀ (k:Nat) (v:Value) (w w':World),HelR B U b nonce nx now iu gu ou k v w→Below w.heap.size w w'→HelR B U b nonce nx now iu gu ou k v w':=by
 intro k v w w' h hb
 unfold HelR at *
 split at h
 · exact h
 · exact h
 · exact h
 · exact h
 · exact h
 · exact h
 ·obtain ⟨g,h1,h2,h3⟩:=h
  exact ⟨g,h1,h2.below hb h2.lt,h3⟩
 · trivial
def ChaR (B:Nat) (nx nonce:Nat):Nat→Value→World→Prop
 | 4,v,w=>ZaR w 4 (leB (nx:Int) 4) v
 | 6,v,w=>ZaR w 8 (leB (nonce:Int) 8) v
 | 7,v,w=>Zbx w 2 [leB (nx:Int) 4,leB (nonce:Int) 8] v
 | 8,v,w=>Zdn B w 13 (ZdZ nx nonce) v
 | _,_,_=>True
theorem ChaR.keep {B nx nonce:Nat}:∀ (k:Nat) (v:Value) (w w':World),ChaR B nx nonce k v w→Below w.heap.size w w'→ChaR B nx nonce k v w':=by
 intro k v w w' h hb
 unfold ChaR at *
 split at h
 · exact h.below hb
 · exact h.below hb
 · exact h.below hb
 · exact h.below hb
 · trivial
theorem own_snoc_ok {L:List Sess} {x:Sess} (h:ZaE L) (hx:x.Ok):ZaE (L++[x]):=fun y hy=>by
 rcases List.mem_append.1 hy with hy | hy
 · exact h y hy
 · simp at hy; subst hy; exact hx
theorem limF_ok {U:List Usr} {C:List Chn} {s:List UInt8} {ch l:Int} (h:limF U C s ch=(l,0)) :∃(i:Nat) (u:Usr),Zby (ZbR s) U 0=(i:Int)∧U[i]?=some u∧Zdh U s=u.key:=by
 unfold limF at h
 by_cases hv:accV U C=0
 ·rw [if_neg (by simpa using hv)] at h
  rcases Zcw (ZbR s) U 0 with ⟨_,f1⟩ | ⟨i,u,e1,hu,f1⟩
  ·rw [f1] at h
   injection h with _ h
   omega
  · exact ⟨i,u,by rw [e1,Nat.zero_add],hu,by unfold Zdh; rw [f1]; rfl⟩
 ·rw [if_pos hv] at h
  injection h with _ h
  exact absurd h hv
section
variable {P:Program} {ops:Array Oper} {rest:List Oper} {o:Oper} {a:Act} {w:World} {Q:Exit→Act→World→Prop}
theorem ZaD (hgd:o.guard=none) (t:TypeId) (len:Nat) (parts:Array (Nat × Operand)) (ho:o.op=.buildSlice t len parts) (pl:List (Nat × Value)) (hp:(parts.toList.map fun p=>(p.1,a.eval p.2))=pl) (v:Value) (w':World)
  (hr:(Instr.buildSlice t len pl.toArray).run P w=.ok v w') (h:wpList P ops Q rest (a.put o.dst v) w'):wpList P ops Q (o::rest) a w:=by
 refine wpList_plain hgd fun _ hK=>?_
 have hq:(parts.map fun p=>(p.1,a.eval p.2))=pl.toArray:=by rw [← hp]; apply Array.ext'; simp
 unfold Oper.wp execOp
 simp only [ho,Sem.run_bind]
 rw [hq,hr]
 exact hK _ _ h
end
section
variable {P:Program} {l:List Oper} {Q:Exit→Act→World→Prop} {a:Act} {w:World} {i:Nat} {o:Oper} {G:Value→World→Prop}
theorem Zey (ho:l[i]?=some o) (hg:o.guard=none) (t:TypeId) (parts:Array (Nat × Operand)) (hop:o.op=.build t parts) (pl:List (Nat × Value)) (hp:(parts.toList.map fun p=>(p.1,a.eval p.2))=pl) (cells:Array Value)
  (hc:P.built t pl=some cells) (h:G (.agg cells) w):wpOp P l.toArray Q i (fun a' w'=>∃ v,a'=a.put ((l[i]?).bind (·.dst)) v∧G v w') a w:=by
 have hq:(parts.map fun p=>(p.1,a.eval p.2)).toList=pl:=by rw [← hp]; simp
 have hr:=run_build (P:=P) w t (parts.map fun p=>(p.1,a.eval p.2)) cells (by rw [hq]; exact hc)
 refine b_wp ho hg ?_
 unfold Oper.wp execOp
 simp only [hop,Sem.run_bind]
 rw [hr]
 exact ⟨_,rfl,h⟩
end
set_option maxRecDepth 100000 in
set_option maxHeartbeats 16000000 in
theorem hello_sx (w:World) (A:Option Addr) (n c:Nat) (L:List Sess) (nx:Nat) (hS:ZaA w w.heap.size A n L) (hn:n≤1000) (hnx:nx < 4294967296)
  (AU:Option Addr) (nU cU:Nat) (AC:Option Addr) (nC cC:Nat) (U:List Usr) (C:List Chn) (hU:UsrL w w.heap.size AU nU U) (hC:ChnL w w.heap.size AC nC C) (hnU:nU≤maxLen) (hnC:nC≤maxLen)
  (ch:Int) (Ab:Option Addr) (nb cb:Nat) (b:List UInt8) (hb:Zaj w w.heap.size 1 Ab nb (bsV b)) (hbc:nb≤cb) (hbm:cb≤maxLen) (nonce:Nat) (hno:nonce < 18446744073709551616) (now:Int) (r:SRes) (hr:ZbI L nx U C ch b nonce now=r) :
  Calls Tryz.prog 11 #[.agg #[.slice A n c,.int .u32 (nx:Int)],.agg #[.slice AU nU cU,.slice AC nC cC],.int .i64 ch,.slice Ab nb cb,.int .u64 (nonce:Int),.int .i64 now] w (ZaH w r):=by
 obtain ⟨W1,hW1⟩ :∃W1,((w.alloc (.cells #[.slice A n c,.int .u32 (nx:Int)] 29)).alloc (.cells #[.slice AU nU cU,.slice AC nC cC] 33)).alloc (.cells #[.slice none 0 0,.int .u32 0] 29)=W1:=⟨_,rfl⟩
 have hsz:W1.heap.size=w.heap.size+3:=by rw [← hW1,Zfn]
 have K0:Hid (Blk W1 w.heap.size 29 #[.slice A n c,.int .u32 (nx:Int)]):=jd (hW1 ▸ (((Blk.new w _ _).alloc _).alloc _))
 have K1:Hid (Blk W1 (w.heap.size+1) 33 #[.slice AU nU cU,.slice AC nC cC]):=jd (hW1 ▸ ((Blk.new' (by simp)).alloc _))
 have K2:Hid (Blk W1 (w.heap.size+2) 29 #[.slice none 0 0,.int .u32 0]):=jd (hW1 ▸ (Blk.new' (by simp)))
 have B1:Hid (Below w.heap.size w W1):=jd (hW1 ▸ (((Below.refl _ _).alloc (Nat.le_refl _) _).alloc (by rw [Zae]; omega) _).alloc (by rw [Zae,Zae]; omega) _)
 have HS:=jd hS
 have HU:=jd hU
 have HC:=jd hC
 have HBB:=jd hb
 have HR:=jd hr
 have HW1:=jd hW1
 have hlb:b.length=nb:=by have:=hb.1; simpa [bsV] using this
 have HLB:=jd hlb
 have HBC:=jd hbc
 have HBM:=jd hbm
 have hnb:(nb:Int)≤9223372036854775807:=by unfold maxLen at hbm; omega
 have S1:=jd ((hS.below (uh B1)).more (uh B1).size)
 obtain ⟨t1,ht1⟩ :∃t,ZaS L nx=t:=⟨_,rfl⟩
 have HT1:=jd ht1
 clear hW1 hS hU hC hb hr hlb hbc hbm ht1
 go_enter Tryz.func11,Tryz.ntmps11
 go_upto_region 1 with fail
 rw [uh HW1]
 go_wp2_with (first
  | (refine wpList_load_row rfl 29 _ rfl w.heap.size rfl 29 _ _ _ (uh K0) Tryz.underlying29 rfl (by kernel_rfl) ?_)
  | fail)
 refine (Zdb W1 A n c L nx (uh S1) (by unfold maxLen; omega) hnx t1 (uh HT1)).mono ?_
 rintro e w2 ⟨rfl,hb2⟩
 have J0:=jd ((uh K0).below hb2 (uh K0).lt)
 have J1:=jd ((uh K1).below hb2 (uh K1).lt)
 have J2:=jd ((uh K2).below hb2 (uh K2).lt)
 have X2:=jd ((uh B1).trans (hb2.mono (uh B1).size))
 have hs2:w.heap.size+3≤w2.heap.size:=by have:=hb2.size; omega
 clear hb2
 cases t1
 case false =>
  have hrr:=uh HR
  unfold ZbI at hrr
  rw [if_pos (uh HT1)] at hrr
  subst hrr
  clear HR
  go_wp2_with (first
   | (refine Zab rfl 29 _ rfl [] rfl _ Zan ?_)
   |(refine Zaa rfl 29 (.tmp 12) (.tmp 24) rfl (w.heap.size+2) 29 _ #[.slice none 0 0,.int .u32 0] rfl rfl (uh J2) rfl (by kernel_rfl) (oZz rfl rfl) ?_
     intro w9 hb9 hg9
     have Z9:=jd hb9
     have E9:=jd (gWz (uh X2) hg9)
     clear hb9 hg9)
   | fail)
  exact rSz rfl rfl rfl rfl (uh Z9) (uh E9)
 obtain ⟨t2,ht2⟩ :∃t,ZcR now=t:=⟨_,rfl⟩
 have HT2:=jd ht2
 have HT2':Hid (decide (0≤now∧now≤17179869184)=t2):=jd ht2
 clear ht2
 cases t2
 case false =>
  have hrr:=uh HR
  unfold ZbI at hrr
  rw [if_neg (by rw [uh HT1]; simp),if_pos (uh HT2)] at hrr
  subst hrr
  clear HR
  go_wp2_with (first
   | (refine Zab rfl 29 _ rfl [] rfl _ Zan ?_)
   |(refine Zaa rfl 29 (.tmp 12) (.tmp 28) rfl (w.heap.size+2) 29 _ #[.slice none 0 0,.int .u32 0] rfl rfl (uh J2) rfl (by kernel_rfl) (oZz rfl rfl) ?_
     intro w9 hb9 hg9
     have Z9:=jd hb9
     have E9:=jd (gWz (uh X2) hg9)
     clear hb9 hg9)
   | (go_at_call 43; refine (Zbj _ now _ (uh HT2')).mono ?_; rintro e w' ⟨rfl,rfl⟩)
   | fail)
  exact rSz rfl rfl rfl rfl (uh Z9) (uh E9)
 go_upto_region 5 with (first
  | (go_at_call 43; refine (Zbj _ now _ (uh HT2')).mono ?_; rintro e w' ⟨rfl,rfl⟩)
  | fail)
 have HFM:Hid (ZcW b=false→r=badS 6):=jd (fun e=>by have hrr:=uh HR; unfold ZbI at hrr; rw [if_neg (by rw [uh HT1]; simp),if_neg (by rw [uh HT2]; simp),if_pos e] at hrr; exact hrr.symm)
 by_cases h11:nb < 11
 ·have f1:((nb:Int) < 11)=True:=by simp; omega
  have hrr:=uh HFM (by unfold ZcW; rw [uh HLB]; simp; intro h; omega)
  subst hrr
  clear HFM HR
  go_wp2_with (first
   | (refine Zab rfl 29 _ rfl [] rfl _ Zan ?_)
   |(refine Zaa rfl 29 (.tmp 12) (.tmp 53) rfl (w.heap.size+2) 29 _ #[.slice none 0 0,.int .u32 0] rfl rfl (uh J2) rfl (by kernel_rfl) (oZz rfl rfl) ?_
     intro w9 hb9 hg9
     have Z9:=jd hb9
     have E9:=jd (gWz (uh X2) hg9)
     clear hb9 hg9)
   | fail)
  exact rSz rfl rfl rfl rfl (uh Z9) (uh E9)
 have f1:((nb:Int) < 11)=False:=by simp; omega
 have f9:(9:Int) < (nb:Int):=by omega
 have f0:(0:Int) < (nb:Int):=by omega
 obtain ⟨g,oo,hAb,hgl,hcell⟩:=Zcr (uh HBB) (by omega)
 have hgw:g < w2.heap.size:=by omega
 have HCL:=jd (fun (W:World) (hW:Below w.heap.size w W) (j:Nat) (x:UInt8) (hj:b[j]?=some x)=>(hW.cell (p:=⟨g,oo+j,none⟩) hgl).trans (hcell j x hj))
 obtain ⟨b0,hb0⟩ :∃x,b[0]?=some x:=⟨b[0]'(by rw [uh HLB]; omega),List.getElem?_eq_getElem _⟩
 obtain ⟨lb,hlb⟩ :∃x,b[9]?=some x:=⟨b[9]'(by rw [uh HLB]; omega),List.getElem?_eq_getElem _⟩
 have e0:b.getD 0 0=b0:=by simp [List.getD,hb0]
 have e9:b.getD 9 0=lb:=by simp [List.getD,hlb]
 have HE0:=jd e0
 have HE9:=jd e9
 have HB0:=jd hb0
 have HB9:=jd hlb
 have c0:w2.cell? ⟨g,oo,none⟩=some (.int .u8 (b0.toNat:Int)):=(uh HCL) w2 (uh X2) 0 b0 hb0
 have c9:w2.cell? ⟨g,oo+9,none⟩=some (.int .u8 (lb.toNat:Int)):=(uh HCL) w2 (uh X2) 9 lb hlb
 subst hAb
 have hlbt:=lb.toNat_lt
 have wlb:IntKind.i64.wrap (lb.toNat:Int)=(lb.toNat:Int):=IntWalk.i64_in _ (by omega)
 clear e0 e9 hb0 hlb hcell
 by_cases hz:b0=1
 case neg =>
  have f2:((b0.toNat:Int) != 1)=true:=by
   have:b0.toNat≠1:=fun e=>hz (UInt8.toNat_inj.1 e)
   simp; omega
  have hrr:=uh HFM (by unfold ZcW; rw [uh HE0]; simp [hz])
  subst hrr
  clear HFM HR
  go_wp2_with (first
   | (refine Zab rfl 29 _ rfl [] rfl _ Zan ?_)
   |(refine Zaa rfl 29 (.tmp 12) (.tmp 53) rfl (w.heap.size+2) 29 _ #[.slice none 0 0,.int .u32 0] rfl rfl (uh J2) rfl (by kernel_rfl) (oZz rfl rfl) ?_
     intro w9 hb9 hg9
     have Z9:=jd hb9
     have E9:=jd (gWz (uh X2) hg9)
     clear hb9 hg9)
   | fail)
  exact rSz rfl rfl rfl rfl (uh Z9) (uh E9)
 subst hz
 have f2:(((1:UInt8).toNat:Int) != 1)=false:=rfl
 have hc0:w2.cell? ⟨g,oo,none⟩=some (.int .u8 1):=c0
 clear c0
 obtain ⟨t3,ht3⟩ :∃t,decide (1≤(lb.toNat:Int)∧(lb.toNat:Int)≤3)=t:=⟨_,rfl⟩
 have HLV:=jd ht3
 clear ht3
 cases t3
 case false =>
  have hrr:=uh HFM (by unfold ZcW; rw [uh HE9,uh HLV]; simp)
  subst hrr
  clear HFM HR
  go_wp2_with (first
   | (refine Zab rfl 29 _ rfl [] rfl _ Zan ?_)
   |(refine Zaa rfl 29 (.tmp 12) (.tmp 53) rfl (w.heap.size+2) 29 _ #[.slice none 0 0,.int .u32 0] rfl rfl (uh J2) rfl (by kernel_rfl) (oZz rfl rfl) ?_
     intro w9 hb9 hg9
     have Z9:=jd hb9
     have E9:=jd (gWz (uh X2) hg9)
     clear hb9 hg9)
   | (go_at_call 44; refine (ZbD _ (lb.toNat:Int) _ (uh HLV)).mono ?_; rintro e w' ⟨rfl,rfl⟩)
   | fail)
  exact rSz rfl rfl rfl rfl (uh Z9) (uh E9)
 obtain ⟨t4,ht4⟩ :∃t,ZbC (b.drop 10)=t:=⟨_,rfl⟩
 have HNM:=jd ht4
 clear ht4
 have hnl:(b.drop 10).length≤maxLen:=by rw [List.length_drop,uh HLB]; unfold maxLen; omega
 have hsl:(Instr.sliceAt 22 (.slice (some ⟨g,oo,none⟩) nb cb) (some (.int .i64 10)) none none).run Tryz.prog w2=.ok (.slice (subA (some ⟨g,oo,none⟩) 10 cb) (nb - 10) (cb - 10)) w2:=sl_l w2 _ nb cb 10 10 rfl (by omega)
 have HSL:=jd (fun W=>sl_l W (some ⟨g,oo,none⟩) nb cb 10 10 rfl (by omega))
 have HCV:=jd (fun (W:World) (hW:Below w.heap.size w W)=>Zb8 (c:=cb - 10) (((uh HBB).below hW).rest (i:=10) (c:=cb) (by omega) (uh HBC)) 22 9 5 Tryz.underlying22 Tryz.underlying5 Tryz.underlying9)
 have hcv:=(uh HCV) w2 (uh X2)
 cases t4
 case false =>
  have hrr:=uh HFM (by unfold ZcW; rw [uh HNM]; simp)
  subst hrr
  clear HFM HR
  go_wp2_with (first
   | (refine Zab rfl 29 _ rfl [] rfl _ Zan ?_)
   |(refine Zaa rfl 29 (.tmp 12) (.tmp 53) rfl (w.heap.size+2) 29 _ #[.slice none 0 0,.int .u32 0] rfl rfl (uh J2) rfl (by kernel_rfl) (oZz rfl rfl) ?_
     intro w9 hb9 hg9
     have Z9:=jd hb9
     have E9:=jd (gWz (uh X2) hg9)
     clear hb9 hg9)
   | (go_at_call 44; refine (ZbD _ (lb.toNat:Int) _ (uh HLV)).mono ?_; rintro e w' ⟨rfl,rfl⟩)
   | (go_at_call 45; refine (Za3 _ (b.drop 10) hnl _ (uh HNM)).mono ?_; rintro e w' ⟨rfl,rfl⟩)
   | fail)
  exact rSz rfl rfl rfl rfl (uh Z9) (uh E9)
 have hf:ZcW b=true:=by
  unfold ZcW
  rw [uh HE0,uh HE9,uh HLV,uh HNM,uh HLB]
  simp; omega
 have HF:=jd hf
 have hnb26:nb≤26:=by have:=(Zcy hf).2; rw [uh HLB] at this; exact this
 clear HFM hf
 go_upto_region 7 with (first
  | (go_at_call 44; refine (ZbD _ (lb.toNat:Int) _ (uh HLV)).mono ?_; rintro e w' ⟨rfl,rfl⟩)
  | (go_at_call 45; refine (Za3 _ (b.drop 10) hnl _ (uh HNM)).mono ?_; rintro e w' ⟨rfl,rfl⟩)
  | fail)
 clear hsl hcv hc0 c9
 have hS0:(fun W:World=>Below w.heap.size w W) w2.drew:=(uh X2).drew
 refine wp_region_noPanic (wp_region_held_drew (S:=fun W=>Below w.heap.size w W) (by kernel_rfl) hS0 (fun _=>?_))
 refine tq 0 rfl hS0 ?_
 refine tJz (v:=.slice (subA (some ⟨g,oo,none⟩) 10 cb) (nb - 10) (cb - 10)) 1 rfl (Or.inl ⟨by rfl,fun wz hSw=>?_⟩) hS0 ?_
 ·have hq:=uh HSL wz
  go_simp
 refine tJz (v:=.string ⟨(b.drop 10).toArray⟩) 2 rfl (Or.inl ⟨by rfl,fun wz hSw=>?_⟩) hS0 ?_
 ·have hq:=uh HCV wz hSw
  go_simp
 refine tq 3 rfl hS0 ?_
 refine tq 4 rfl hS0 ?_
 refine tJz (v:=.int .u8 (lb.toNat:Int)) 5 rfl (Or.inl ⟨by rfl,fun wz hSw=>?_⟩) hS0 ?_
 ·have hq:wz.cell? ⟨g,oo+9,none⟩=some (.int .u8 (lb.toNat:Int)):=(uh HCL) wz hSw 9 lb (uh HB9)
  go_simp
 refine tJz (v:=.int .i64 (lb.toNat:Int)) 6 rfl (Or.inl ⟨by rfl,fun wz hSw=>?_⟩) hS0 ?_
 ·skip
  go_simp
 refine tq 7 rfl hS0 ?_
 refine tq 8 rfl hS0 ?_
 refine tDz ?_
 clear hS0
 have J0':Hid (Blk w2.drew w.heap.size 29 #[.slice A n c,.int .u32 (nx:Int)]):=J0
 have J1':Hid (Blk w2.drew (w.heap.size+1) 33 #[.slice AU nU cU,.slice AC nC cC]):=J1
 have J2':Hid (Blk w2.drew (w.heap.size+2) 29 #[.slice none 0 0,.int .u32 0]):=J2
 have X2':Hid (Below w.heap.size w w2.drew):=jd (uh X2).drew
 obtain ⟨name,hname⟩ :∃s,b.drop 10=s:=⟨_,rfl⟩
 have HNAME:=jd hname
 rw [hname] at HNM hnl ⊢
 clear hname HCV HSL
 obtain ⟨⟨lim,le⟩,hlim⟩ :∃p,limF U C name ch=p:=⟨_,rfl⟩
 have HLIM:=jd hlim
 clear hlim
 have hrr:=uh HR
 unfold ZbI at hrr
 rw [if_neg (by rw [uh HT1]; simp),if_neg (by rw [uh HT2]; simp),if_neg (by rw [uh HF]; simp),uh HNAME,uh HLIM,uh HE9] at hrr
 dsimp only at hrr
 have HR2:=jd hrr
 clear hrr HR
 go_wp2_with (first
  | (refine wpList_load_row rfl 33 _ rfl (w.heap.size+1) rfl 33 _ _ _ (uh J1') Tryz.underlying33 rfl (by kernel_rfl) ?_)
  | fail)
 refine (limit_sx w2.drew AU nU cU AC nC cC U C (((uh HU).below (uh X2')).more (uh X2').size) (((uh HC).below (uh X2')).more (uh X2').size) hnU hnC name ch lim le (uh HLIM)).mono ?_
 rintro e w3 ⟨rfl,hb3⟩
 have hb3:Below w2.heap.size w2.drew w3:=hb3
 have L0:=jd ((uh J0').below hb3 (uh J0).lt)
 have L1:=jd ((uh J1').below hb3 (uh J1).lt)
 have L2:=jd ((uh J2').below hb3 (uh J2).lt)
 have X3:=jd ((uh X2').trans (hb3.mono (uh X2).size))
 have hs3:w.heap.size+3≤w3.heap.size:=by have:w2.heap.size≤w3.heap.size:=hb3.size; omega
 clear hb3 J0' J1' J2' X2'
 by_cases hle:le=0
 case neg =>
  have hleb:(le != 0)=true:=by simpa using hle
  have hrr:=uh HR2
  rw [if_pos hle] at hrr
  subst hrr
  have HLE:=jd hle
  clear HR2 hle
  go_wp2_with (first
   | (refine Zab rfl 29 _ rfl [] rfl _ Zan ?_)
   |(refine Zaa rfl 29 (.tmp 12) (.tmp 70) rfl (w.heap.size+2) 29 _ #[.slice none 0 0,.int .u32 0] rfl rfl (uh L2) rfl (by kernel_rfl) (oZz rfl rfl) ?_
     intro w9 hb9 hg9
     have Z9:=jd hb9
     have E9:=jd (gWz (uh X3) hg9)
     clear hb9 hg9)
   | fail)
  exact bodyPost_ret (v:=.tuple #[.agg #[.slice none 0 0,.int .u32 0],.slice none 0 0,.int .i64 le]) (Za4 rfl _ (w.heap.size+2) 29 _ _ _ _ rfl rfl rfl (uh Z9) Tryz.underlying29 rfl (by kernel_rfl)) rfl (ZaH.bad (uh HLE) rfl (uh E9))
 have hleb:(le != 0)=false:=by simpa using hle
 have hrr:=uh HR2
 rw [if_neg (by simpa using hle)] at hrr
 have HR3:=jd hrr
 clear hrr HR2 hle
 by_cases hlv:lim < (lb.toNat:Int)
 ·have hrr:=uh HR3
  rw [if_pos hlv] at hrr
  subst hrr
  clear HR3
  go_wp2_with (first
   | (refine Zab rfl 29 _ rfl [] rfl _ Zan ?_)
   |(refine Zaa rfl 29 (.tmp 12) (.tmp 75) rfl (w.heap.size+2) 29 _ #[.slice none 0 0,.int .u32 0] rfl rfl (uh L2) rfl (by kernel_rfl) (oZz rfl rfl) ?_
     intro w9 hb9 hg9
     have Z9:=jd hb9
     have E9:=jd (gWz (uh X3) hg9)
     clear hb9 hg9)
   | fail)
  exact rSz rfl rfl rfl rfl (uh Z9) (uh E9)
 have hlvz:(lim < (lb.toNat:Int))=False:=by simpa using hlv
 have hrr:=uh HR3
 rw [if_neg hlv] at hrr
 have HR4:=jd hrr
 clear hrr HR3 hlv
 go_wp2_with (first
  | (refine wpList_load_row rfl 29 _ rfl w.heap.size rfl 29 _ _ _ (uh L0) Tryz.underlying29 rfl (by kernel_rfl) ?_)
  | fail)
 refine (Zea w3 A n c L nx (((uh HS).below (uh X3)).more (uh X3).size) hn hnx now).mono ?_
 rintro e w4 ⟨v4,rfl,ho4,hb4⟩
 obtain ⟨E,hE⟩ :∃E,expF L nx now=E:=⟨_,rfl⟩
 have hEok:ZaE E:=by rw [← hE]; exact ZcP (uh HS).ok
 have hEl:E.length≤n:=by rw [← hE,← (uh HS).len]; exact Zd2 _ _ _
 rw [hE] at ho4 HR4
 obtain ⟨m,hm⟩ :∃m,E.length=m:=⟨_,rfl⟩
 rw [hm] at ho4 HR4 hEl
 obtain ⟨A4,c4,hv4,hmc4,hcm4⟩:=Zac ho4
 subst hv4
 have M0:=jd ((uh L0).below hb4 (uh L0).lt)
 have M1:=jd ((uh L1).below hb4 (uh L1).lt)
 have M2:=jd (((uh L2).below hb4 (uh L2).lt).alloc (.cells #[.slice none 0 0,.int .u32 0] 29))
 have O4:=jd (ho4.alloc (.cells #[.slice none 0 0,.int .u32 0] 29))
 have M3:=jd (Blk.new w4 29 #[.slice none 0 0,.int .u32 0])
 have hs4:w3.heap.size≤w4.heap.size:=hb4.size
 have X4:=jd (((uh X3).trans (hb4.mono (by omega))).alloc (by omega) (.cells #[.slice none 0 0,.int .u32 0] 29))
 have M1a:=jd ((uh M1).alloc (.cells #[.slice none 0 0,.int .u32 0] 29))
 have HEOK:=jd hEok
 have HM:=jd hm
 have HEE:=jd hE
 clear ho4 hb4 hE hEok hm
 go_upto_region 14 with (first
  | (refine Zag rfl 29 rfl _ w4.heap.size rfl (ZaB _) ?_)
  |(refine Zaa rfl 29 (.tmp 19) (.tmp 78) rfl w4.heap.size 29 _ #[.slice A4 m c4,.int .u32 (nx:Int)] rfl rfl (uh M3) rfl (by kernel_rfl) (oZz rfl rfl) ?_
    intro w5 hb5 hg5
    have N3:=jd hb5
    have N1:=jd ((uh M1a).gb hg5)
    have N2:=jd ((uh M2).gb hg5)
    have O5:=jd (World.ownsRow.kept (uh O4) hg5 (.inr (Zad (uh O4) (uh M3) (by decide))))
    have X5:=jd (gWz (uh X4) hg5)
    have hs5:w4.heap.size < w5.heap.size:=hb5.lt
    clear hb5 hg5)
  | fail)
 have d0:w5.cell? ⟨w4.heap.size,0,none⟩=some (.slice A4 m c4):=(uh N3).cell 0
 have d1:w5.cell? ⟨w4.heap.size,1,none⟩=some (.int .u32 (nx:Int)):=(uh N3).cell 1
 by_cases h4:4≤m
 ·have f4:((4:Int)≤(m:Int))=True:=by simp; omega
  have hrr:=uh HR4
  rw [if_pos (.inl h4)] at hrr
  subst hrr
  clear HR4
  go_wp2_with (first
   | (refine Zab rfl 29 _ rfl [] rfl _ Zan ?_)
   |(refine Zaa rfl 29 (.tmp 12) (.tmp 88) rfl (w.heap.size+2) 29 _ #[.slice none 0 0,.int .u32 0] rfl rfl (uh N2) rfl (by kernel_rfl) (oZz rfl rfl) ?_
     intro w9 hb9 hg9
     have Z9:=jd hb9
     have E9:=jd (gWz (uh X5) hg9)
     clear hb9 hg9)
   | fail)
  exact rSz rfl rfl rfl rfl (uh Z9) (uh E9)
 have f4:((4:Int)≤(m:Int))=False:=by simp; omega
 by_cases hmx:nx=4294967295
 ·have f5:((nx:Int)==4294967295)=true:=by simp; omega
  have hrr:=uh HR4
  rw [if_pos (.inr hmx)] at hrr
  subst hrr
  clear HR4 hmx
  go_wp2_with (first
   | (refine Zab rfl 29 _ rfl [] rfl _ Zan ?_)
   |(refine Zaa rfl 29 (.tmp 12) (.tmp 88) rfl (w.heap.size+2) 29 _ #[.slice none 0 0,.int .u32 0] rfl rfl (uh N2) rfl (by kernel_rfl) (oZz rfl rfl) ?_
     intro w9 hb9 hg9
     have Z9:=jd hb9
     have E9:=jd (gWz (uh X5) hg9)
     clear hb9 hg9)
   | fail)
  exact rSz rfl rfl rfl rfl (uh Z9) (uh E9)
 have f5:((nx:Int)==4294967295)=false:=by simp; omega
 have hrr:=uh HR4
 rw [if_neg (by omega)] at hrr
 have HRF:=jd hrr
 clear hrr HR4
 have hle0:le=0:=by simpa using hleb
 obtain ⟨iu,u,hiu,hu,hky⟩:=limF_ok (by rw [uh HLIM,hle0])
 obtain ⟨gu,ou,u',hAU,hgu,hu',huo,_,hru⟩:=((uh HU).below (uh X5)).at_ (k:=iu) (by omega) (by have:=(List.getElem?_eq_some_iff.1 hu).1; have:=(uh HU).len (by omega); omega)
 obtain rfl:u=u':=Option.some.inj (hu.symm.trans hu')
 have hiul:iu < nU:=by have:=(List.getElem?_eq_some_iff.1 hu).1; have:=(uh HU).len (by omega); omega
 have hiuz:(iu:Int) < (nU:Int):=by omega
 have hgw5:gu < w5.heap.size:=Nat.lt_of_lt_of_le hgu (uh X5).size
 have HKEY:=jd (fun (W:World) (hW:Below w5.heap.size w5 W)=>(show W.rangeAt gu (ou+iu*19+1) (bsV u.key) from fun j v hv=>by
  rw [hW.cell (p:=⟨gu,ou+iu*19+1+j,none⟩) hgw5,Nat.add_assoc (ou+iu*19) 1 j]
  exact (Usr.range huo hru).key j v hv))
 have HUK:=jd huo.key
 have HKY:Hid (Zdh U (b.drop 10)=u.key):=jd (by rw [uh HNAME]; exact hky)
 have HIU:=jd hiu
 have hnxl:nx < 4294967295:=by omega
 have X1:(newS U b nonce nx now).Ok:=⟨hnx,by show (b.drop 10).length≤maxLen; rw [uh HNAME]; exact hnl,Zez _ (by simp; omega),hno,by show (Zdh U (b.drop 10)).length=16; rw [uh HKY]; exact uh HUK,by show 0 < 4294967296; omega,by show 0 < 4294967296; omega,by show 0 < 4294967296; omega⟩
 have HX1:=jd X1
 subst hAU
 obtain ⟨dk,hdk,hdr⟩:=Za5
 have HDK:=jd hdk
 have HDR:=jd hdr
 have HD0:=jd (fun W (hW:Below w5.heap.size w5 W)=>(hW.cell (p:=⟨w4.heap.size,1,none⟩) hs5).trans d1)
 have HDU:=jd (fun W (hW:Below w5.heap.size w5 W)=>(hW.cell (p:=⟨w.heap.size+1,0,none⟩) (uh N1).lt).trans ((uh N1).cell 0))
 have EGN':=jd (ZaO Tryz.func47 (by kernel_rfl) rfl)
 have EGF':=jd (ZaO Tryz.func48 (by kernel_rfl) rfl)
 have EGL':=jd (ZaO Tryz.func50 (by kernel_rfl) rfl)
 have EGJ':=jd (ZaO Tryz.func49 (by kernel_rfl) rfl)
 have HSA:=jd (fun W=>sl_lh W (some ⟨g,oo,none⟩) nb cb 1 9 1 9 rfl rfl (by omega) (by have:=uh HBC; omega))
 clear hdk hdr hu hu' hru huo hiu hky X1 hle0 hleb hlvz
 go_upto_region 16 with fail
 clear d0 d1
 have hS0:Below w5.heap.size w5 w5.drew:=(Below.refl _ _).drew
 refine wp_region_noPanic (wp_region_held_drew (S:=fun wz=>Below w5.heap.size w5 wz) (by kernel_rfl) hS0 (fun _=>?_))
 refine tq 0 rfl hS0 ?_
 refine tJz (v:=.int .u32 (nx:Int)) 1 rfl (Or.inl ⟨by rfl,fun wz hSw=>?_⟩) hS0 ?_
 ·have hq:=uh HD0 wz hSw
  go_simp
 refine tq 2 rfl hS0 ?_
 refine tq 3 rfl hS0 ?_
 refine tq 4 rfl hS0 ?_
 refine tJz (v:=.slice (subA (some ⟨g,oo,none⟩) 1 cb) 8 (cb - 1)) 5 rfl (Or.inl ⟨by rfl,fun wz hSw=>?_⟩) hS0 ?_
 ·have hq:=uh HSA wz
  go_simp
 refine tq 7 rfl hS0 ?_
 refine tq 8 rfl hS0 ?_
 refine tJz (v:=.slice (some ⟨gu,ou,none⟩) nU cU) 9 rfl (Or.inl ⟨by rfl,fun wz hSw=>?_⟩) hS0 ?_
 ·have hq:=uh HDU wz hSw
  go_simp
 refine tJz 10 rfl (Zar 33 (.tmp 7) (by rfl) rfl (w.heap.size+1) rfl 33 #[.slice (some ⟨gu,ou,none⟩) nU cU,.slice AC nC cC] _ (fun _ h=>(uh N1).below h (uh N1).lt) Tryz.underlying33 rfl (by kernel_rfl)) hS0 ?_
 refine tq 11 rfl hS0 ?_
 refine tq 16 rfl hS0 ?_
 refine ZbH (HelR w5.heap.size U b nonce nx now iu gu ou) w5 [6,12,13,14,15,17,18] #[true,true,true,true,true,true,true,true,true,true,true,true,true,true,true,true,true,true,true,false] [(6,some 95),(12,some 101),(13,some 102),(14,some 103),(15,some 104),(17,some 106),(18,some 20)] 126 1 (by kernel_rfl) rfl HelR.keep (fun _ h=>h) hS0 ⟨?_,?_,?_,?_,?_,?_,?_,trivial⟩ ?_ rfl
 ·intro a wa hBa hout hin
  have e:a.eval (.tmp 94)=.slice (subA (some ⟨g,oo,none⟩) 1 cb) 8 (cb - 1):=hout 94 (by kernel_rfl)
  refine ZaI [.slice (subA (some ⟨g,oo,none⟩) 1 cb) 8 (cb - 1)] rfl rfl rfl rfl (uh EGN') ?_ ?_
  ·show [a.eval (.tmp 94)]=_
   rw [e]
  ·have hr:=((uh HBB).below ((uh X5).trans (hBa.mono (uh X5).size))).part (i:=1) (j:=9) (c:=cb) (by omega) (by omega) (uh HBC)
   exact (ZcE _ 8 (cb - 1) ((b.drop 1).take 8) wa _ hr (by omega)).mono fun e w' ⟨he,hw⟩=>⟨_,he,by subst hw; exact Below.refl _ _,rfl⟩
 ·intro a wa hBa hout hin
  have e9:a.eval (.tmp 99)=.agg #[.slice (some ⟨gu,ou,none⟩) nU cU,.slice AC nC cC]:=hout 99 (by kernel_rfl)
  have e10:a.eval (.tmp 100)=.string ⟨name.toArray⟩:=hout 100 (by kernel_rfl)
  refine ZaI [.agg #[.slice (some ⟨gu,ou,none⟩) nU cU,.slice AC nC cC],.string ⟨name.toArray⟩] rfl rfl rfl rfl (uh EGF') ?_ ?_
  ·show [a.eval (.tmp 99),a.eval (.tmp 100)]=_
   rw [e9,e10]
  ·have hXa:=(uh X5).trans (hBa.mono (uh X5).size)
   refine (ufind_sx wa (some ⟨gu,ou,none⟩) nU cU _ U (((uh HU).below hXa).more hXa.size) hnU name).mono fun e w' ⟨he,hb⟩=>⟨_,he,hb,?_⟩
   rw [uh HIU]
   rfl
 ·intro a wa hBa hout hin
  have e98:a.eval (.tmp 98)=.slice (some ⟨gu,ou,none⟩) nU cU:=hout 98 (by kernel_rfl)
  have e101:a.eval (.tmp 101)=.int .i64 (iu:Int):=hin 12 101 (by kernel_rfl)
  refine ZaF rfl rfl (v:=.pointer (some ⟨gu,ou+iu*19,none⟩)) (w':=wa) ?_ ⟨Below.refl _ _,rfl⟩
  unfold execOp
  simp only [e98,e101]
  go_simp
 ·intro a wa hBa hout hin
  have e102:a.eval (.tmp 102)=.pointer (some ⟨gu,ou+iu*19,none⟩):=hin 13 102 (by kernel_rfl)
  refine ZaF rfl rfl (v:=.pointer (some ⟨gu,ou+iu*19+1,none⟩)) (w':=wa) ?_ ⟨Below.refl _ _,rfl⟩
  unfold execOp
  simp only [e102]
  go_simp
 ·intro a wa hBa hout hin
  have e103:a.eval (.tmp 103)=.pointer (some ⟨gu,ou+iu*19+1,none⟩):=hin 14 103 (by kernel_rfl)
  refine ZaF rfl rfl (v:=.agg (bsV u.key).toArray) (w':=wa) ?_ ⟨Below.refl _ _,by show _=Value.agg (bsV (Zdh U (b.drop 10))).toArray; rw [uh HKY]⟩
  have hl:=run_loadAt_mid (P:=Tryz.prog) wa gu (ou+iu*19+1) 46 (bsV u.key) dk (uh HKEY wa hBa) (uh HDK) (uh HDR) (ZaV _ (uh HUK))
  simp only [execOp,e103,hl,Sem.run_bind,Sem.run_pure,Result.andThen_ok]
 ·intro a wa hBa hout hin
  have e0:a.eval (.tmp 90)=.int .u32 (nx:Int):=hout 90 (by kernel_rfl)
  have e1:a.eval (.tmp 91)=.string ⟨name.toArray⟩:=hout 91 (by kernel_rfl)
  have e2:a.eval (.tmp 92)=.int .i64 (lb.toNat:Int):=hout 92 (by kernel_rfl)
  have e3:a.eval (.tmp 95)=.int .u64 (leW ((b.drop 1).take 8):Int):=hin 6 95 (by kernel_rfl)
  have e4:a.eval (.tmp 96)=.int .u64 (nonce:Int):=hout 96 (by kernel_rfl)
  have e5:a.eval (.tmp 104)=.agg (bsV (Zdh U (b.drop 10))).toArray:=hin 15 104 (by kernel_rfl)
  have e6:a.eval (.tmp 105)=.int .i64 now:=hout 105 (by kernel_rfl)
  have hb:=ZdI nx name (lb.toNat:Int) (leW ((b.drop 1).take 8)) nonce (Zdh U (b.drop 10)) (by rw [uh HKY]; exact uh HUK) now
  have en:newS U b nonce nx now=Sess.mk nx name (lb.toNat:Int) (leW ((b.drop 1).take 8)) nonce (Zdh U (b.drop 10)) false 0 0 0 now:=by unfold newS; rw [uh HNAME,uh HE9]
  rw [← en] at hb
  refine Zey rfl rfl 50 _ rfl _ ?_ _ hb ⟨Below.refl _ _,rfl⟩
  show [(0,a.eval (.tmp 90)),(1,a.eval (.tmp 91)),(2,a.eval (.tmp 92)),(3,a.eval (.tmp 95)),(4,a.eval (.tmp 96)),(5,a.eval (.tmp 104)),(9,a.eval (.tmp 105))]=_
  rw [e0,e1,e2,e3,e4,e5,e6]
 ·intro a wa hBa hout hin
  refine ZaF rfl rfl (v:=.pointer (some ⟨wa.heap.size,0,none⟩)) (w':=wa.alloc (.cells Za7.cs.toArray 50)) ?_ ⟨(Below.refl _ _).alloc (Nat.le_refl _) _,wa.heap.size,rfl,Blk.new _ _ _,hBa.size⟩
  simp [execOp,ZbL]
 intro vals ww hBw hRw
 simp only [puts,Act.put,zA,zB,zC]
 have e17:vals 17=.agg (newS U b nonce nx now).cs.toArray:=hRw 17 (by rfl)
 obtain ⟨g20,e18,hb18,hg18⟩ :∃g,vals 18=.pointer (some ⟨g,0,none⟩)∧Blk ww g 50 Za7.cs.toArray∧w5.heap.size≤g:=hRw 18 (by rfl)
 rw [e17,e18]
 clear e17 e18 hRw
 have hsq:=Sess.size_eq (uh HX1)
 refine tOz 19 rfl fun K hK=>?_
 refine Zaf (by rfl) 50 (.tmp 20) (.tmp 106) rfl g20 50 _ (newS U b nonce nx now).cs.toArray rfl rfl hb18 hsq (Zbb (uh HX1)) (fun v hv=>Sess.one v (by simpa using hv)) ?_
 intro w6 hb6 hg6
 have hS6:Below w5.heap.size w5 w6:=hBw.grown hg6 hBw.size (fun j e=>by injection e with e; omega)
 refine hK.out _ _ hS6 (fun _=>?_)
 clear hK K
 try simp only [Act.put]
 refine tDz ?_
 have P6:=jd hb6
 have N36:=jd ((uh N3).below hS6 hs5)
 have N26:=jd ((uh N2).below hS6 (uh N2).lt)
 have O6:=jd (Zam (uh O5) hS6)
 have X6:=jd ((uh X5).trans (hS6.mono (uh X5).size))
 have hs6:w5.heap.size≤w6.heap.size:=hS6.size
 have d0:w6.cell? ⟨w4.heap.size,0,none⟩=some (.slice A4 m c4):=(uh N36).cell 0
 clear hb6 hg6 hS6 hBw hS0 hb18
 have hs8:w.heap.size≤w4.heap.size:=by omega
 have P6a:=jd ((uh P6).alloc (.cells (newS U b nonce nx now).cs.toArray 50))
 have N36a:=jd ((uh N36).alloc (.cells (newS U b nonce nx now).cs.toArray 50))
 have N26a:=jd ((uh N26).alloc (.cells (newS U b nonce nx now).cs.toArray 50))
 have O6a:=jd ((uh O6).alloc (.cells (newS U b nonce nx now).cs.toArray 50))
 have X6a:=jd ((uh X6).alloc (uh X6).size (.cells (newS U b nonce nx now).cs.toArray 50))
 have R6a:Hid (Zaj (w6.alloc (.cells (newS U b nonce nx now).cs.toArray 50)) (w6.alloc (.cells (newS U b nonce nx now).cs.toArray 50)).heap.size 26 (some ⟨w6.heap.size,0,none⟩) 1 (Zat [newS U b nonce nx now])):=jd (by
  have hl:(Zat [newS U b nonce nx now])=(newS U b nonce nx now).cs:=by simp [Zat]
  rw [hl]
  refine ⟨by rw [Sess.len (uh HX1)],fun _=>⟨_,rfl,by rw [Zae]; show w6.heap.size < _; omega,fun j v hv=>?_⟩⟩
  rw [ZbM,Nat.zero_add,(Blk.new w6 50 (newS U b nonce nx now).cs.toArray).cell]
  simpa using hv)
 have hneP:¬ (some g20=(Value.slice A4 m c4).ownBlock):=fun e=>by
  have h1:=(uh O5).lt g20 e.symm
  omega
 obtain ⟨N1,hN1⟩ :∃N1,nx+1=N1:=⟨_,rfl⟩
 have HN1:=jd hN1
 have hNz:(nx:Int)+1=(N1:Int):=by omega
 have wN:IntKind.u32.wrap ((nx:Int)+1)=(N1:Int):=by rw [hNz]; exact IntWalk.u32_in _ (by omega)
 have wN2:IntKind.u32.wrap (N1:Int)=(N1:Int):=IntWalk.u32_in _ (by omega)
 have wN3:(N1:Int) % 4294967296=(N1:Int):=by omega
 have wnx:IntKind.u64.wrap (nx:Int)=(nx:Int):=IntWalk.u64_in _ (by omega)
 clear hN1
 obtain ⟨i0,hi,hz0,hz1,hz2⟩:=info_parts ZeG
 go_upto_region 19 with (first
  | (refine wpList_load_row rfl 50 _ rfl g20 rfl 50 _ _ _ (uh P6) Tryz.underlying50 rfl (Zbb (uh HX1)) ?_)
  | (refine ZaD rfl 26 1 _ rfl [(0,.agg (newS U b nonce nx now).cs.toArray)] rfl _ _ (ZcJ w6 _ (uh HX1)) ?_)
  |(at_builtin; refine ZaM (w6.alloc (.cells (newS U b nonce nx now).cs.toArray 50)) rfl (.tmp 108) (.tmp 110) 26 rfl w.heap.size 50 i0 (.agg Za7.cs.toArray) 26 88 Tryz.underlying26 hi hz0 hz1 hz2 ZcU (by omega) _ m _ rfl (Zak (uh O6a) (by omega)) _ (some ⟨w6.heap.size,0,none⟩) 1 1 (Zat [newS U b nonce nx now]) rfl (uh R6a) (Zdt _) (by unfold maxLen; omega) (by omega) (by rw [Zae]; omega) ?_
    intro v7 w7 ho7 hg7 _
    obtain ⟨A7,c7,hv7,hmc7,hcm7⟩:=Zac ho7
    subst hv7
    have O7:=jd ho7
    have hne7:∀ (q:Nat) (cs:Array Value),Blk (w6.alloc (.cells (newS U b nonce nx now).cs.toArray 50)) q 29 cs→some q≠(Value.slice A4 m c4).ownBlock:=fun q cs hq=>(Zad (uh O6a) hq (by decide)).symm
    have N37:=jd ((uh N36a).grown hg7 (hne7 _ _ (uh N36a)))
    have N27:=jd ((uh N26a).grown hg7 (hne7 _ _ (uh N26a)))
    have P7:=jd ((uh P6a).grown hg7 (fun e=>hneP e))
    have X7:=jd ((uh X6a).grown hg7 (uh X6a).size (fun j e=>by have:=Zaw (uh O6a) j e; omega))
    clear ho7 hne7
    simp only [Act.put,zA,zB,zC])
  |(refine Zal rfl 26 (.tmp 112) (.tmp 111) rfl w4.heap.size 0 29 _ (.slice A7 (m+1) c7) [.slice A7 (m+1) c7] [.slice A7 (m+1) c7,.int .u32 (nx:Int)] rfl rfl (uh N37) rfl (by simp) (by kernel_rfl) (one1 rfl) rfl ?_
    intro w8 hb8 hg8
    have d1:w8.cell? ⟨w4.heap.size,1,none⟩=some (.int .u32 (nx:Int)):=hb8.cell 1
    have N38:=jd hb8
    have O8:=jd (World.ownsRow.kept (uh O7) hg8 (.inr (Zad (uh O7) (uh N37) (by decide))))
    have N28:=jd ((uh N27).gb hg8)
    have P8:=jd ((uh P7).gb hg8)
    have X8:=jd (gWz (uh X7) hg8)
    clear hb8 hg8
    simp only [Act.put])
  |(refine Zal rfl 27 (.tmp 116) (.tmp 115) rfl w4.heap.size 1 29 _ (.int .u32 (N1:Int)) [.int .u32 (N1:Int)] [.slice A7 (m+1) c7,.int .u32 (N1:Int)] rfl rfl (uh N38) rfl (by simp) (by kernel_rfl) (one1 rfl) rfl ?_
    intro w9 hb9 hg9
    have N39:=jd hb9
    have O9:=jd (World.ownsRow.kept (uh O8) hg9 (.inr (Zad (uh O8) (uh N38) (by decide))))
    have N29:=jd ((uh N28).gb hg9)
    have P9:=jd ((uh P8).gb hg9)
    have X9:=jd (gWz (uh X8) hg9)
    clear hb9 hg9 d1
    simp only [Act.put])
  | fail)
 clear d0
 have hB0:Below w9.heap.size w9 w9.drew:=(Below.refl _ _).drew
 have hS0:(fun wz=>Blk wz w4.heap.size 29 #[.slice A7 (m+1) c7,.int .u32 (N1:Int)]∧Blk wz g20 50 (newS U b nonce nx now).cs.toArray) w9.drew:=⟨uh N39,uh P9⟩
 refine wp_region_noPanic (wp_region_held_drew (S:=fun wz=>Blk wz w4.heap.size 29 #[.slice A7 (m+1) c7,.int .u32 (N1:Int)]∧Blk wz g20 50 (newS U b nonce nx now).cs.toArray) (by kernel_rfl) hS0 (fun _=>?_))
 refine tJz 0 rfl (Zar 29 (.tmp 19) (by rfl) rfl w4.heap.size rfl 29 #[.slice A7 (m+1) c7,.int .u32 (N1:Int)] _ (fun _ h=>h.1) Tryz.underlying29 rfl (by kernel_rfl)) hS0 ?_
 refine tq 1 rfl hS0 ?_
 refine tJz (v:=.int .u32 (nx:Int)) 2 rfl (Or.inl ⟨by rfl,fun wz hSw=>?_⟩) hS0 ?_
 ·have hq:wz.cell? ⟨g20,0,none⟩=some (.int .u32 (nx:Int)):=(Sess.blk (uh HX1) hSw.2).id
  go_simp
 refine tJz (v:=.int .u64 (nx:Int)) 3 rfl (Or.inl ⟨by rfl,fun wz hSw=>?_⟩) hS0 ?_
 ·skip
  go_simp
 refine tq 5 rfl hS0 ?_
 refine ZbH (ChaR w.heap.size nx nonce) w9 [4,6,7,8] #[true,true,true,true,true,true,true,true,true,false,false,false] [(4,some 121),(6,some 123),(7,some 124),(8,some 125)] 126 3 (by kernel_rfl) rfl ChaR.keep (fun _ h=>⟨(uh N39).below h (uh N39).lt,(uh P9).below h (uh P9).lt⟩) hB0 ⟨?_,?_,?_,?_,trivial⟩ ?_ rfl
 ·intro a wa hBa hout hin
  refine ZaI [.int .u64 (nx:Int),.int .i64 ((4:Nat):Int)] rfl rfl rfl rfl (uh EGL') ?_ ?_
  ·show [a.eval (.tmp 120),_]=_
   rw [hout 120 (by kernel_rfl)]
   rfl
  · exact ZbV wa nx 4 (.inl rfl)
 ·intro a wa hBa hout hin
  refine ZaI [.int .u64 (nonce:Int),.int .i64 ((8:Nat):Int)] rfl rfl rfl rfl (uh EGL') ?_ ?_
  ·show [a.eval (.tmp 122),_]=_
   rw [hout 122 (by kernel_rfl)]
   rfl
  · exact ZbV wa nonce 8 (.inr rfl)
 ·intro a wa hBa hout hin
  obtain ⟨A2,c2,e2,h21,h22,h23⟩:=hin 4 121 (by kernel_rfl)
  obtain ⟨A5,c5,e5,h51,h52,h53⟩:=hin 6 123 (by kernel_rfl)
  refine ZaF rfl rfl (v:=.slice (some ⟨wa.heap.size,0,none⟩) 2 2) (w':=wa.alloc (.cells [Value.slice A2 4 c2,.slice A5 8 c5].toArray 22)) ?_ ⟨(Below.refl _ _).alloc (Nat.le_refl _) _,Zbx.new 2 rfl (.cons h21 h22 h23 (.cons h51 h52 h53 (.nil _ _)))⟩
  simp [execOp,e2,e5,run_slice_2]
 ·intro a wa hBa hout hin
  refine ZaI [.int .u8 ((2:UInt8).toNat:Int),a.eval (.tmp 124)] rfl rfl rfl rfl (uh EGJ') rfl ?_
  refine (Zdy wa 2 2 _ _ (hin 7 124 (by kernel_rfl)) (by simp [Zbr]) (by omega)).mono fun e w' ⟨v,he,ho,hb⟩=>⟨v,he,hb,?_⟩
  have hl:(Zbh 2 [leB (nx:Int) 4,leB (nonce:Int) 8]).length=13:=ZbA nx nonce
  rw [hl] at ho
  exact Zak ho (Nat.le_trans (uh X9).size hBa.size)
 intro vals ww hBw hRw
 simp only [puts,Act.put,zA,zB,zC]
 have h8:Zdn w.heap.size ww 13 (ZdZ nx nonce) (vals 8):=hRw 8 (by rfl)
 have hx1:Below w.heap.size w ww:=(uh X9).trans (hBw.mono (uh X9).size)
 have q1:=(uh N29).below hBw (uh N29).lt
 have n1:=(uh N39).below hBw (uh N39).lt
 have p1:=(uh P9).below hBw (uh P9).lt
 have o1:=Zam (uh O9) hBw
 clear hRw
 refine tOz 9 rfl fun K hK=>?_
 refine Zaf (by rfl) 29 (.tmp 12) (.tmp 117) rfl (w.heap.size+2) 29 _ #[.slice A7 (m+1) c7,.int .u32 (N1:Int)] rfl rfl q1 rfl (by kernel_rfl) (oZz rfl rfl) ?_
 intro w10 hb10 hg10
 have hx10:Below w.heap.size w w10:=hx1.grown hg10 hx1.size (fun j e=>by injection e with e; omega)
 have ho10:Zdn w.heap.size w10 13 (ZdZ nx nonce) (vals 8):=World.ownsRow.kept h8 hg10 (.inr (Zad h8 q1 (by decide)))
 have o10:=World.ownsRow.kept o1 hg10 (.inr (Zad o1 q1 (by decide)))
 have hS10:Blk w10 w4.heap.size 29 #[.slice A7 (m+1) c7,.int .u32 (N1:Int)]∧Blk w10 g20 50 (newS U b nonce nx now).cs.toArray:=⟨n1.grown hg10 (fun e=>by injection e with e; omega),p1.grown hg10 (fun e=>by injection e with e; omega)⟩
 refine hK.out _ _ hS10 (fun _=>?_)
 clear hK K
 try simp only [Act.put]
 refine tq 10 rfl hS10 ?_
 refine tq 11 rfl hS10 ?_
 refine tDz ?_
 have H10:=jd hb10
 have C10:=jd ho10
 have O10:=jd o10
 have X10:=jd hx10
 clear hb10 ho10 o10 hx10 hg10 q1 n1 p1 o1 h8 hx1 hS10 hS0 hB0 hBw
 go_wp2_with fail
 refine bodyPost_ret (v:=.tuple #[.agg #[.slice A7 (m+1) c7,.int .u32 (N1:Int)],vals 8,.int .i64 0]) (Za4 rfl _ (w.heap.size+2) 29 _ _ _ _ rfl rfl rfl (uh H10) Tryz.underlying29 rfl (by kernel_rfl)) rfl ?_
 rw [← uh HRF]
 unfold ZaH
 rw [if_pos rfl]
 refine ⟨.slice A7 (m+1) c7,vals 8,?_,?_,?_,uh X10⟩
 · rw [← uh HN1]
 ·have hl:(E++[newS U b nonce nx now]).length=m+1:=by rw [List.length_append,uh HM]; rfl
  have hf:Zat (E++[newS U b nonce nx now])=Zat E++Zat [newS U b nonce nx now]:=by simp [Zat]
  dsimp only
  rw [hl,hf]
  exact uh O10
 ·dsimp only
  rw [ZbA]
  exact uh C10
end Go.Proofs.YtfbkkmnkpjgciaaGreat
