/- Joined of SSess SValid SFind. No condition. -/
import Derived.Test.YtfbkkmnkpjgciaaGreatPD09
namespace Go.Proofs.YtfbkkmnkpjgciaaGreat
open Go.RowKit
structure Sess where
 id:Nat
 user:List UInt8
 level:Int
 client:Nat
 server:Nat
 key:List UInt8
 opn:Bool
 hi:Nat
 se:Nat
 out:Nat
 last:Int
def Sess.cs (x:Sess):List Value :=
 .int .u32 (x.id:Int)::.string ⟨x.user.toArray⟩::.int .i64 x.level::.int .u64 (x.client:Int)::.int .u64 (x.server:Int) ::
  (bsV x.key++[.bool x.opn,.int .u32 (x.hi:Int),.int .u32 (x.se:Int),.int .u32 (x.out:Int),.int .i64 x.last])
structure Sess.Ok (x:Sess):Prop where
 id:x.id < 4294967296
 user:x.user.length≤maxLen
 client:x.client < 18446744073709551616
 server:x.server < 18446744073709551616
 key:x.key.length=16
 hi:x.hi < 4294967296
 se:x.se < 4294967296
 out:x.out < 4294967296
theorem Sess.open_ {x:Sess} (h:x.Ok) :∃(a0 a1 a2 a3 a4 a5 a6 a7 a8 a9 a10 a11 a12 a13 a14 a15:UInt8),x.key=[a0,a1,a2,a3,a4,a5,a6,a7,a8,a9,a10,a11,a12,a13,a14,a15]:=list16 x.key h.key
theorem Sess.len {x:Sess} (h:x.Ok):x.cs.length=26:=by simp [Sess.cs,h.key]
theorem Sess.size {x:Sess} (h:x.Ok):x.cs.toArray.size=26:=by rw [List.size_toArray,x.len h]
theorem Sess.one {x:Sess}:∀ v∈x.cs,v.oneCell'=true:=by
 intro v hv
 simp only [Sess.cs,List.mem_cons,List.mem_append,List.not_mem_nil,or_false] at hv
 rcases hv with rfl | rfl | rfl | rfl | rfl | h | rfl | rfl | rfl | rfl | rfl
 · rfl
 · rfl
 · rfl
 · rfl
 · rfl
 · exact bsV_one _ v h
 · rfl
 · rfl
 · rfl
 · rfl
 · rfl
structure Sess.At (x:Sess) (f:Nat→Option Value):Prop where
 id:f 0=some (.int .u32 (x.id:Int))
 user:f 1=some (.string ⟨x.user.toArray⟩)
 level:f 2=some (.int .i64 x.level)
 client:f 3=some (.int .u64 (x.client:Int))
 server:f 4=some (.int .u64 (x.server:Int))
 opn:f 21=some (.bool x.opn)
 hi:f 22=some (.int .u32 (x.hi:Int))
 se:f 23=some (.int .u32 (x.se:Int))
 out:f 24=some (.int .u32 (x.out:Int))
 last:f 25=some (.int .i64 x.last)
 key:∀ j v,(bsV x.key)[j]?=some v→f (5+j)=some v
theorem Sess.at_ {x:Sess} (h:x.Ok):x.At (fun j=>x.cs[j]?):=by
 obtain ⟨a0,a1,a2,a3,a4,a5,a6,a7,a8,a9,a10,a11,a12,a13,a14,a15,e1⟩:=x.open_ h
 obtain ⟨id,user,level,client,server,key,opn,hi,se,out,last⟩:=x
 dsimp only at e1
 subst e1
 refine ⟨rfl,rfl,rfl,rfl,rfl,rfl,rfl,rfl,rfl,rfl,fun j v hv=>?_⟩
 have hj:j < 16:=by have:=(List.getElem?_eq_some_iff.1 hv).1; simpa [bsV] using this
 have:j=0∨j=1∨j=2∨j=3∨j=4∨j=5∨j=6∨j=7∨j=8∨j=9∨j=10∨j=11∨j=12∨j=13∨j=14∨j=15:=by omega
 rcases this with rfl | rfl | rfl | rfl | rfl | rfl | rfl | rfl | rfl | rfl | rfl | rfl | rfl | rfl | rfl | rfl<;>exact hv
theorem Sess.At.of {x:Sess} {f g:Nat→Option Value} (h:x.At f) (e:∀ j v,f j=some v→g j=some v):x.At g :=
 ⟨e _ _ h.id,e _ _ h.user,e _ _ h.level,e _ _ h.client,e _ _ h.server,e _ _ h.opn,e _ _ h.hi,e _ _ h.se,e _ _ h.out,e _ _ h.last,fun j v hv=>e _ _ (h.key j v hv)⟩
theorem Sess.blk {x:Sess} (h:x.Ok) {w:World} {g:Nat} {t:TypeId} (hb:Blk w g t x.cs.toArray):x.At (fun j=>w.cell? ⟨g,j,none⟩) :=
 (x.at_ h).of fun j v hv=>(hb.cell j).trans (by simpa using hv)
theorem sess_info {x:Sess} (h:x.Ok):(Tryz.prog.info? 50).map (·.size)=some x.cs.toArray.size:=by
 rw [x.size h]; kernel_rfl
theorem sess_infoL {x:Sess} (h:x.Ok):(Tryz.prog.info? 50).map (·.size)=some x.cs.length:=by
 rw [x.len h]; kernel_rfl
def zSess:Sess:=⟨0,[],0,0,0,z16,false,0,0,0,0⟩
theorem zSess_ok:zSess.Ok:=⟨by decide,by simp [zSess],by decide,by decide,rfl,by decide,by decide,by decide⟩
theorem Sess.size_eq {x:Sess} (h:x.Ok):x.cs.toArray.size=zSess.cs.toArray.size:=by rw [x.size h,zSess.size zSess_ok]
theorem alloc_sess (w:World):(Instr.alloc 50 true (.tuple #[])).run Tryz.prog w=.ok (.pointer (some ⟨w.heap.size,0,none⟩)) (w.alloc (.cells zSess.cs.toArray 50)):=by kernel_rfl
theorem alloc_sl (w:World):(Instr.alloc 29 true (.tuple #[])).run Tryz.prog w=.ok (.pointer (some ⟨w.heap.size,0,none⟩)) (w.alloc (.cells #[.slice none 0 0,.int .u32 0] 29)):=by kernel_rfl
def flatS (L:List Sess):List Value:=L.flatMap Sess.cs
def AllOk (L:List Sess):Prop:=∀ x∈L,x.Ok
theorem AllOk.cons {x:Sess} {L:List Sess} (h:AllOk (x::L)):x.Ok∧AllOk L:=⟨h x List.mem_cons_self,fun y hy=>h y (List.mem_cons_of_mem _ hy)⟩
theorem flatS_len {L:List Sess} (h:AllOk L):(flatS L).length=L.length*26:=by
 induction L with
 | nil=>rfl
 |cons x L ih =>
  obtain ⟨h1,h2⟩:=h.cons
  rw [flatS,List.flatMap_cons,List.length_append,x.len h1]
  have:=ih h2
  unfold flatS at this
  rw [this,List.length_cons]
  omega
theorem flatS_one (L:List Sess):∀ v∈flatS L,v.oneCell'=true:=by
 intro v hv
 obtain ⟨x,_,hx⟩:=List.mem_flatMap.1 hv
 exact Sess.one v hx
theorem flatS_get {L:List Sess} (h:AllOk L):∀ (k:Nat) (x:Sess),L[k]?=some x→∀ (j:Nat) (v:Value),x.cs[j]?=some v→(flatS L)[k*26+j]?=some v:=by
 induction L with
 | nil=>intro k x hk; simp at hk
 |cons y L ih =>
  obtain ⟨h1,h2⟩:=h.cons
  intro k x hk j v hv
  rw [flatS,List.flatMap_cons]
  cases k with
  |zero =>
   obtain rfl:y=x:=by simpa using hk
   rw [Nat.zero_mul,Nat.zero_add,List.getElem?_append_left (List.getElem?_eq_some_iff.1 hv).1]
   exact hv
  |succ k =>
   rw [List.getElem?_append_right (by rw [y.len h1]; omega),y.len h1,show (k+1)*26+j - 26=k*26+j by omega]
   exact ih h2 k x (by simpa using hk) j v hv
theorem spot_any {w:World} {B size n:Nat} {A:Option Addr} {xs:List Value} (h:Reads w B size A n xs) (hn:0 < n) (hs:0 < size) :∃g o,A=some ⟨g,o,none⟩∧g < B∧∀ j u,xs[j]?=some u→w.cell? ⟨g,o+j,none⟩=some u:=by
 have h1:=h.1
 have h2:0 < n*size:=Nat.mul_pos hn hs
 obtain ⟨ad,rfl,hb,hc⟩:=h.2 hn
 obtain ⟨g,o,sp⟩:=ad
 obtain ⟨u,hu⟩ :∃u,xs[0]?=some u:=⟨xs[0]'(by omega),List.getElem?_eq_getElem _⟩
 have hs:sp=none:=by simpa [Addr.add] using World.cell?_spot (hc 0 u hu)
 subst hs
 exact ⟨g,o,rfl,hb,fun j u hu=>by have:=hc j u hu; rwa [add_mk] at this⟩
structure SessL (w:World) (B:Nat) (A:Option Addr) (n:Nat) (L:List Sess):Prop where
 reads:Reads w B 26 A n (flatS L)
 ok:AllOk L
theorem SessL.len {w:World} {B n:Nat} {A:Option Addr} {L:List Sess} (h:SessL w B A n L):L.length=n:=by
 have h1:=h.reads.1
 rw [flatS_len h.ok] at h1
 omega
theorem SessL.below {w w':World} {B n:Nat} {A:Option Addr} {L:List Sess} (h:SessL w B A n L) (hb:Below B w w'):SessL w' B A n L:=⟨h.reads.below hb,h.ok⟩
theorem SessL.more {w:World} {B B' n:Nat} {A:Option Addr} {L:List Sess} (h:SessL w B A n L) (hb:B≤B'):SessL w B' A n L:=⟨h.reads.more hb,h.ok⟩
theorem SessL.drew {w:World} {B n:Nat} {A:Option Addr} {L:List Sess} (h:SessL w B A n L):SessL w.drew B A n L:=⟨h.reads.drew,h.ok⟩
theorem SessL.of_own {w:World} {base n:Nat} {e:TypeId} {A:Option Addr} {c:Nat} {L:List Sess} (h:w.ownsRow base e 26 (.slice A n c) n (flatS L)) (ok:AllOk L):SessL w w.heap.size A n L:=⟨Reads.of_own h,ok⟩
theorem SessL.at_ {w:World} {B n k:Nat} {A:Option Addr} {L:List Sess} (h:SessL w B A n L) (hk:k < n) :∃g o x,A=some ⟨g,o,none⟩∧g < B∧L[k]?=some x∧x.Ok∧w.rangeAt g (o+k*26) x.cs:=by
 obtain ⟨g,o,rfl,hg,hc⟩:=spot_any h.reads (by omega) (by omega)
 have hl:=h.len
 have hx:L[k]?=some (L[k]'(by omega)):=List.getElem?_eq_getElem _
 refine ⟨g,o,L[k]'(by omega),rfl,hg,hx,h.ok _ (List.getElem_mem _),fun j v hv=>?_⟩
 have:=hc (k*26+j) v (flatS_get h.ok k _ hx j v hv)
 rwa [← Nat.add_assoc] at this
theorem Sess.range {x:Sess} (h:x.Ok) {w:World} {g o:Nat} (hr:w.rangeAt g o x.cs):x.At (fun j=>w.cell? ⟨g,o+j,none⟩):=(x.at_ h).of fun j v hv=>hr j v hv
def okX (x:Sess) (nx b:Nat):Bool :=
 decide (b < x.id) && (decide (x.id < nx) && (nameF x.user && (decide (1≤x.level∧x.level≤3) && (decide (0≤x.last∧x.last≤17179869184) && (x.opn || (x.hi==0 && (x.se==0 && x.out==0)))))))
def validG:List Sess→Nat→Nat→Bool
 | [],_,_=>true
 | x::r,nx,b=>okX x nx b && validG r nx x.id
def validF (L:List Sess) (nx:Nat):Bool:=decide (L.length≤4) && (decide (1≤nx) && validG L nx 0)
theorem validG_drop {L:List Sess} {k:Nat} {x:Sess} (h:L[k]?=some x) (nx b:Nat):validG (L.drop k) nx b=(okX x nx b && validG (L.drop (k+1)) nx x.id):=by
 have hk:=(List.getElem?_eq_some_iff.1 h).1
 have e:=(List.getElem?_eq_some_iff.1 h).2
 rw [List.drop_eq_getElem_cons hk,e]
 rfl
set_option maxRecDepth 100000 in
set_option maxHeartbeats 8000000 in
theorem valid_sx (w:World) (A:Option Addr) (n c:Nat) (L:List Sess) (nx:Nat) (h:SessL w w.heap.size A n L) (hnm:n≤maxLen) (hnx:nx < 4294967296) (r:Bool) (hr:validF L nx=r) :
  Calls Tryz.prog 13 #[.agg #[.slice A n c,.int .u32 (nx:Int)]] w fun e w'=>e=.returned (.bool r)∧Below w.heap.size w w':=by
 have hl:=h.len
 unfold validF at hr
 unfold maxLen at hnm
 rw [hl] at hr
 have HB0:=jd ((Below.refl w.heap.size w).alloc (Nat.le_refl _) (.cells #[.slice A n c,.int .u32 (nx:Int)] 29))
 have HK0:=jd (Blk.new w 29 #[.slice A n c,.int .u32 (nx:Int)])
 by_cases h4:n≤4
 case neg =>
  obtain rfl:false=r:=by rw [← hr]; simp; intro h; omega
  have e1:((4:Int) < (n:Int))=True:=by simp; omega
  clear hr hl h
  go_enter Tryz.func13,Tryz.ntmps13
  go_wp2_with fail
  go_ret
  exact ⟨rfl,uh HB0⟩
 have e1:((4:Int) < (n:Int))=False:=by simp; omega
 by_cases h1:1≤nx
 case neg =>
  obtain rfl:false=r:=by rw [← hr]; simp; intro h; omega
  have e2:((nx:Int) < 1)=True:=by simp; omega
  clear hr hl h
  go_enter Tryz.func13,Tryz.ntmps13
  go_wp2_with fail
  go_ret
  exact ⟨rfl,uh HB0⟩
 have e2:((nx:Int) < 1)=False:=by simp; omega
 have hr0:validG (L.drop 0) nx 0=r:=by rw [← hr]; simp [h4,h1]
 have HR0:=jd hr0
 have HS:=jd h
 clear hr hr0 hl h h4 h1
 go_enter Tryz.func13,Tryz.ntmps13
 go_wp2_with fail
 go_loopw [3,18] (fun b i wr=>∃ k bk:Nat,k≤n∧i=.int .i64 k∧b=.int .u32 (bk:Int)∧Hid (validG (L.drop k) nx bk=r)∧Blk wr w.heap.size 29 #[.slice A n c,.int .u32 (nx:Int)]∧Below w.heap.size w wr) (fun _ i _=>n - (intOf i).toNat)
 case atStart=>exact ⟨0,0,by omega,rfl,rfl,HR0,uh HK0,uh HB0⟩
 case round =>
  obtain ⟨k,bk,hk,rfl,rfl,hrk,hK,hB⟩:=hrel
  have HK:=jd hK
  have HB:=jd hB
  clear hK hB
  by_cases hlt:k < n
  ·obtain ⟨g,oo,x,rfl,hg,hx,hxo,hrg⟩:=((uh HS).below (uh HB)).at_ hlt
   have hv:=validG_drop hx nx bk
   rw [hv] at hrk
   have HRK:=jd hrk
   have HX:=jd hxo
   have HRG:=jd hrg
   have HN:=jd (Blk.new wr 50 zSess.cs.toArray)
   have HBn:=jd ((uh HB).alloc (uh HB).size (.cells zSess.cs.toArray 50))
   have HKn:=jd ((uh HK).alloc (.cells zSess.cs.toArray 50))
   have HRn:=jd (World.rangeAt_alloc (uh HRG) (.cells zSess.cs.toArray 50))
   have hlt2:(k:Int) < (n:Int):=by omega
   clear hrk hx hxo hrg hv
   go_upto_region 7 with (first
    | (refine wpList_load_mid rfl 50 (.tmp 20) rfl g (oo+k*26) rfl _ _ (uh HRG) Tryz.underlying50 rfl (sess_infoL (uh HX)) ?_)
    | (refine wpList_alloc_to rfl 50 rfl _ wr.heap.size rfl (alloc_sess _) ?_)
    |(refine wpList_store_blk rfl 50 (.tmp 5) (.tmp 21) rfl wr.heap.size 50 _ x.cs.toArray rfl rfl (uh HN) (Sess.size_eq (uh HX)) (sess_info (uh HX)) (fun v hv=>Sess.one v (by simpa using hv)) ?_
      intro w5 hb5 hg5
      have X5:=jd hb5
      have K5:=jd ((uh HKn).grown hg5 (fun e=>by injection e with e; have:=(uh HK).lt; omega))
      have B5:=jd ((uh HBn).grown hg5 (uh HBn).size (fun j e=>by injection e with e; have:=(uh HB).size; omega))
      clear hb5 hg5)
    | fail)
   have hat:=(Sess.blk (uh HX) (uh X5))
   have c0:=hat.id
   have c1:=hat.user
   have c2:=hat.level
   have c25:=hat.last
   have c21:=hat.opn
   have c22:=hat.hi
   have c23:=hat.se
   have c24:=hat.out
   have d1:w5.cell? ⟨w.heap.size,1,none⟩=some (.int .u32 (nx:Int)):=(uh K5).cell 1
   have hux:=(uh HX).user
   have hidx:=(uh HX).id
   have HRK0:Hid (okX x nx bk=false→false=r):=jd (fun e=>by have:=uh HRK; rw [e] at this; exact this)
   have HRK1:Hid (okX x nx bk=true→validG (L.drop (k+1)) nx x.id=r):=jd (fun e=>by have:=uh HRK; rwa [e,Bool.true_and] at this)
   clear hat HRK HRn HBn HKn HN HRG
   by_cases t1:bk < x.id
   case neg =>
    have f1:((x.id:Int)≤(bk:Int))=True:=by simp; omega
    obtain rfl:false=r:=uh HRK0 (by unfold okX; simp [t1])
    go_wp2_with (first
     | (go_at_call 45; refine (name_any _ x.user hux _ (uh HNM)).mono ?_; rintro e w' ⟨rfl,rfl⟩)
     | (go_at_call 44; refine (level_sx _ x.level _ (uh HLV)).mono ?_; rintro e w' ⟨rfl,rfl⟩)
     | (go_at_call 43; refine (time_sx _ x.last _ (uh HTM)).mono ?_; rintro e w' ⟨rfl,rfl⟩)
     | fail)
    go_ret
    exact ⟨rfl,uh B5⟩
   have f1:((x.id:Int)≤(bk:Int))=False:=by simp; omega
   by_cases t2:x.id < nx
   case neg =>
    have f2:((nx:Int)≤(x.id:Int))=True:=by simp; omega
    obtain rfl:false=r:=uh HRK0 (by unfold okX; simp [t2])
    go_wp2_with (first
     | (go_at_call 45; refine (name_any _ x.user hux _ (uh HNM)).mono ?_; rintro e w' ⟨rfl,rfl⟩)
     | (go_at_call 44; refine (level_sx _ x.level _ (uh HLV)).mono ?_; rintro e w' ⟨rfl,rfl⟩)
     | (go_at_call 43; refine (time_sx _ x.last _ (uh HTM)).mono ?_; rintro e w' ⟨rfl,rfl⟩)
     | fail)
    go_ret
    exact ⟨rfl,uh B5⟩
   have f2:((nx:Int)≤(x.id:Int))=False:=by simp; omega
   obtain ⟨t3,ht3⟩ :∃b,nameF x.user=b:=⟨_,rfl⟩
   have HNM:=jd ht3
   cases t3
   case false =>
    obtain rfl:false=r:=uh HRK0 (by unfold okX; simp [ht3])
    go_wp2_with (first
     | (go_at_call 45; refine (name_any _ x.user hux _ (uh HNM)).mono ?_; rintro e w' ⟨rfl,rfl⟩)
     | (go_at_call 44; refine (level_sx _ x.level _ (uh HLV)).mono ?_; rintro e w' ⟨rfl,rfl⟩)
     | (go_at_call 43; refine (time_sx _ x.last _ (uh HTM)).mono ?_; rintro e w' ⟨rfl,rfl⟩)
     | fail)
    go_ret
    exact ⟨rfl,uh B5⟩
   obtain ⟨t4,ht4⟩ :∃b,decide (1≤x.level∧x.level≤3)=b:=⟨_,rfl⟩
   have HLV:=jd ht4
   cases t4
   case false =>
    obtain rfl:false=r:=uh HRK0 (by unfold okX; rw [ht4]; simp)
    go_wp2_with (first
     | (go_at_call 45; refine (name_any _ x.user hux _ (uh HNM)).mono ?_; rintro e w' ⟨rfl,rfl⟩)
     | (go_at_call 44; refine (level_sx _ x.level _ (uh HLV)).mono ?_; rintro e w' ⟨rfl,rfl⟩)
     | (go_at_call 43; refine (time_sx _ x.last _ (uh HTM)).mono ?_; rintro e w' ⟨rfl,rfl⟩)
     | fail)
    go_ret
    exact ⟨rfl,uh B5⟩
   obtain ⟨t5,ht5⟩ :∃b,decide (0≤x.last∧x.last≤17179869184)=b:=⟨_,rfl⟩
   have HTM:=jd ht5
   cases t5
   case false =>
    obtain rfl:false=r:=uh HRK0 (by unfold okX; rw [ht5]; simp)
    go_wp2_with (first
     | (go_at_call 45; refine (name_any _ x.user hux _ (uh HNM)).mono ?_; rintro e w' ⟨rfl,rfl⟩)
     | (go_at_call 44; refine (level_sx _ x.level _ (uh HLV)).mono ?_; rintro e w' ⟨rfl,rfl⟩)
     | (go_at_call 43; refine (time_sx _ x.last _ (uh HTM)).mono ?_; rintro e w' ⟨rfl,rfl⟩)
     | fail)
    go_ret
    exact ⟨rfl,uh B5⟩
   obtain ⟨t6,ht6⟩ :∃b,x.opn=b:=⟨_,rfl⟩
   rw [ht6] at c21
   have HOP:=jd ht6
   have HT3:=jd ht3
   clear ht3 ht4 ht5 ht6
   cases t6
   case true =>
    have HNX:=jd (uh HRK1 (by unfold okX; rw [uh HNM,uh HLV,uh HTM,uh HOP]; simp [t1,t2]))
    go_wp2_with (first
     | (go_at_call 45; refine (name_any _ x.user hux _ (uh HNM)).mono ?_; rintro e w' ⟨rfl,rfl⟩)
     | (go_at_call 44; refine (level_sx _ x.level _ (uh HLV)).mono ?_; rintro e w' ⟨rfl,rfl⟩)
     | (go_at_call 43; refine (time_sx _ x.last _ (uh HTM)).mono ?_; rintro e w' ⟨rfl,rfl⟩)
     | fail)
    go_roundw
    case rel=>exact ⟨k+1,x.id,by omega,by go_num,rfl,HNX,uh K5,uh B5⟩
    case measure=>simp [intOf]; omega
   by_cases t7:x.hi=0
   case neg =>
    obtain rfl:false=r:=uh HRK0 (by unfold okX; rw [uh HOP]; simp [t7])
    go_wp2_with (first
     | (go_at_call 45; refine (name_any _ x.user hux _ (uh HNM)).mono ?_; rintro e w' ⟨rfl,rfl⟩)
     | (go_at_call 44; refine (level_sx _ x.level _ (uh HLV)).mono ?_; rintro e w' ⟨rfl,rfl⟩)
     | (go_at_call 43; refine (time_sx _ x.last _ (uh HTM)).mono ?_; rintro e w' ⟨rfl,rfl⟩)
     | fail)
    go_ret
    exact ⟨rfl,uh B5⟩
   by_cases t9:x.se=0
   case neg =>
    obtain rfl:false=r:=uh HRK0 (by unfold okX; rw [uh HOP]; simp [t9])
    go_wp2_with (first
     | (go_at_call 45; refine (name_any _ x.user hux _ (uh HNM)).mono ?_; rintro e w' ⟨rfl,rfl⟩)
     | (go_at_call 44; refine (level_sx _ x.level _ (uh HLV)).mono ?_; rintro e w' ⟨rfl,rfl⟩)
     | (go_at_call 43; refine (time_sx _ x.last _ (uh HTM)).mono ?_; rintro e w' ⟨rfl,rfl⟩)
     | fail)
    go_ret
    exact ⟨rfl,uh B5⟩
   by_cases t8:x.out=0
   case neg =>
    have f8:((x.out:Int) != 0)=true:=by simp; omega
    obtain rfl:false=r:=uh HRK0 (by unfold okX; rw [uh HOP]; simp [t8])
    go_wp2_with (first
     | (go_at_call 45; refine (name_any _ x.user hux _ (uh HNM)).mono ?_; rintro e w' ⟨rfl,rfl⟩)
     | (go_at_call 44; refine (level_sx _ x.level _ (uh HLV)).mono ?_; rintro e w' ⟨rfl,rfl⟩)
     | (go_at_call 43; refine (time_sx _ x.last _ (uh HTM)).mono ?_; rintro e w' ⟨rfl,rfl⟩)
     | fail)
    go_ret
    exact ⟨rfl,uh B5⟩
   have f8:((x.out:Int) != 0)=false:=by simp; omega
   have HNX:=jd (uh HRK1 (by unfold okX; rw [uh HNM,uh HLV,uh HTM,uh HOP]; simp [t1,t2,t7,t9,t8]))
   go_wp2_with (first
    | (go_at_call 45; refine (name_any _ x.user hux _ (uh HNM)).mono ?_; rintro e w' ⟨rfl,rfl⟩)
    | (go_at_call 44; refine (level_sx _ x.level _ (uh HLV)).mono ?_; rintro e w' ⟨rfl,rfl⟩)
    | (go_at_call 43; refine (time_sx _ x.last _ (uh HTM)).mono ?_; rintro e w' ⟨rfl,rfl⟩)
    | fail)
   go_roundw
   case rel=>exact ⟨k+1,x.id,by omega,by go_num,rfl,HNX,uh K5,uh B5⟩
   case measure=>simp [intOf]; omega
  ·obtain rfl:k=n:=by omega
   have hdr:L.drop k=[]:=List.drop_of_length_le (by have:=(uh HS).len; omega)
   have h0:=uh hrk
   rw [hdr] at h0
   obtain rfl:true=r:=h0
   clear hrk hdr
   go_wp2_with fail
   go_ret
   exact ⟨rfl,uh HB⟩
def findG (p:Sess→Bool):List Sess→Nat→Int
 | [],_=>-1
 | x::r,k=>if p x=true then (k:Int) else findG p r (k+1)
theorem findG_drop {p:Sess→Bool} {L:List Sess} {k:Nat} {x:Sess} (h:L[k]?=some x):findG p (L.drop k) k=if p x=true then (k:Int) else findG p (L.drop (k+1)) (k+1):=by
 have hk:=(List.getElem?_eq_some_iff.1 h).1
 have e:=(List.getElem?_eq_some_iff.1 h).2
 rw [List.drop_eq_getElem_cons hk,e]
 rfl
def idP (id:Nat) (x:Sess):Bool:=x.id==id
def oldP (now:Int) (x:Sess):Bool:=if x.opn=true then decide (x.last≤now - 600) else decide (x.last≤now - 50)
set_option maxRecDepth 100000 in
theorem find1_sx (w:World) (x:Sess) (hx:x.Ok) (b id:Nat) (hb:b < w.heap.size) (hc:w.cell? ⟨b,0,none⟩=some (.int .u32 (id:Int))) :
  Calls Tryz.prog 58 #[.agg x.cs.toArray,.pointer (some ⟨b,0,none⟩)] w fun e w'=>e=.returned (.bool (idP id x))∧Below w.heap.size w w':=by
 have hat:=(Sess.blk hx (Blk.new w 50 x.cs.toArray))
 have c0:=hat.id
 have hc2:(w.alloc (.cells x.cs.toArray 50)).cell? ⟨b,0,none⟩=some (.int .u32 (id:Int)):=by rw [World.cell?_alloc_lt _ _ _ hb]; exact hc
 have HB:=jd ((Below.refl w.heap.size w).alloc (Nat.le_refl _) (.cells x.cs.toArray 50))
 have e:((x.id:Int)==(id:Int))=idP id x:=by unfold idP; rw [Bool.eq_iff_iff]; simp; omega
 have HE:=jd e
 clear hat hc e hb hx
 go_enter Tryz.func58,Tryz.ntmps58
 go_wp2_with fail
 go_ret
 exact ⟨by rw [← uh HE]; first | rfl | (simp; done) | (congr 1; simp; done),uh HB⟩
set_option maxRecDepth 100000 in
theorem expire1_sx (w:World) (x:Sess) (hx:x.Ok) (b:Nat) (now:Int) (hn0:0≤now) (hn1:now≤17179869184) (hb:b < w.heap.size) (hc:w.cell? ⟨b,0,none⟩=some (.int .i64 now)) :
  Calls Tryz.prog 56 #[.agg x.cs.toArray,.pointer (some ⟨b,0,none⟩)] w fun e w'=>e=.returned (.bool (oldP now x))∧Below w.heap.size w w':=by
 have hat:=(Sess.blk hx (Blk.new w 50 x.cs.toArray))
 have c21:=hat.opn
 have c25:=hat.last
 have hc2:(w.alloc (.cells x.cs.toArray 50)).cell? ⟨b,0,none⟩=some (.int .i64 now):=by rw [World.cell?_alloc_lt _ _ _ hb]; exact hc
 have HB:=jd ((Below.refl w.heap.size w).alloc (Nat.le_refl _) (.cells x.cs.toArray 50))
 have w1:IntKind.i64.wrap (now - 600)=now - 600:=IntWalk.i64_in _ (by omega)
 have w2:IntKind.i64.wrap (now - 50)=now - 50:=IntWalk.i64_in _ (by omega)
 clear hat hc hb hx
 unfold oldP
 cases ho:x.opn with
 |true =>
  rw [ho] at c21
  clear ho
  go_enter Tryz.func56,Tryz.ntmps56
  go_wp2_with fail
  go_ret
  exact ⟨by first | rfl | (simp; done),uh HB⟩
 |false =>
  rw [ho] at c21
  clear ho
  go_enter Tryz.func56,Tryz.ntmps56
  go_wp2_with fail
  go_ret
  exact ⟨by first | rfl | (simp; done),uh HB⟩
set_option maxRecDepth 100000 in
set_option maxHeartbeats 4000000 in
theorem idxfind_sx (w:World) (A:Option Addr) (n c:Nat) (L:List Sess) (h:SessL w w.heap.size A n L) (hnm:n≤maxLen) (b:Nat) (id:Nat) (hb:b < w.heap.size) (hc:w.cell? ⟨b,0,none⟩=some (.int .u32 (id:Int))) :
  Calls Tryz.prog 57 #[.slice A n c,.func (.func 58) #[] #[.pointer (some ⟨b,0,none⟩)]] w fun e w'=>e=.returned (.int .i64 (findG (idP id) L 0))∧Below w.heap.size w w':=by
 unfold maxLen at hnm
 have HS:=jd h
 have HC:=jd hc
 have HR:Hid (findG (idP id) (L.drop 0) 0=findG (idP id) L 0):=jd rfl
 obtain ⟨r,hr⟩ :∃r,findG (idP id) L 0=r:=⟨_,rfl⟩
 rw [hr] at HR ⊢
 clear h hc hr
 go_enter Tryz.func57,Tryz.ntmps57
 go_wp2_with fail
 go_loopw [8] (fun i wr=>∃ k:Nat,k≤n∧i=.int .i64 k∧Hid (findG (idP id) (L.drop k) k=r)∧Below w.heap.size w wr) (fun i _=>n - (intOf i).toNat)
 case atStart=>exact ⟨0,by omega,rfl,HR,Below.refl _ _⟩
 case round =>
  obtain ⟨k,hk,rfl,hrk,hB⟩:=hrel
  have HB:=jd hB
  clear hB
  by_cases hlt:k < n
  ·obtain ⟨g,oo,x,rfl,hg,hx,hxo,hrg⟩:=((uh HS).below (uh HB)).at_ hlt
   have hv:=findG_drop (p:=idP id) hx
   have HRK:=jd (hv.symm.trans (uh hrk))
   have HX:=jd hxo
   have HRG:=jd hrg
   have hlt2:(k:Int) < (n:Int):=by omega
   have HCW:=jd (((uh HB).cell (p:=⟨b,0,none⟩) hb).trans (uh HC))
   have hbw:b < wr.heap.size:=Nat.lt_of_lt_of_le hb (uh HB).size
   have HRK0:Hid (idP id x=true→r=(k:Int)):=jd (fun e=>by have:=uh HRK; rw [if_pos e] at this; exact this.symm)
   have HRK1:Hid (idP id x=false→findG (idP id) (L.drop (k+1)) (k+1)=r):=jd (fun e=>by have:=uh HRK; rwa [if_neg (by rw [e]; simp)] at this)
   clear hrk hx hxo hrg hv HRK
   obtain ⟨t,ht⟩ :∃t,idP id x=t:=⟨_,rfl⟩
   go_wp2_with (first
    | (refine wpList_load_mid rfl 50 (.tmp 14) rfl g (oo+k*26) rfl _ _ (uh HRG) Tryz.underlying50 rfl (sess_infoL (uh HX)) ?_)
    | fail)
   refine (find1_sx wr x (uh HX) b id hbw (uh HCW)).mono ?_
   rw [ht]
   rintro e w2 ⟨rfl,hb2⟩
   have B2:=jd ((uh HB).trans (hb2.mono (uh HB).size))
   clear hb2
   cases t with
   |true =>
    have hrr:=uh HRK0 ht
    clear ht
    go_wp2_with fail
    go_ret
    exact ⟨by rw [hrr]; rfl,uh B2⟩
   |false =>
    have hrr:=jd (uh HRK1 ht)
    clear ht
    go_wp2_with fail
    go_roundw
    case rel=>exact ⟨k+1,by omega,by go_num,hrr,uh B2⟩
    case measure=>simp [intOf]; omega
  ·obtain rfl:k=n:=by omega
   have hdr:L.drop k=[]:=List.drop_of_length_le (by have:=(uh HS).len; omega)
   have h0:=uh hrk
   rw [hdr] at h0
   obtain rfl:(-1:Int)=r:=h0
   clear hrk hdr
   go_wp2_with fail
   go_ret
   exact ⟨rfl,uh HB⟩
set_option maxRecDepth 100000 in
set_option maxHeartbeats 4000000 in
theorem idxold_sx (w:World) (A:Option Addr) (n c:Nat) (L:List Sess) (h:SessL w w.heap.size A n L) (hnm:n≤maxLen) (b:Nat) (now:Int) (hn0:0≤now) (hn1:now≤17179869184) (hb:b < w.heap.size) (hc:w.cell? ⟨b,0,none⟩=some (.int .i64 now)) :
  Calls Tryz.prog 57 #[.slice A n c,.func (.func 56) #[] #[.pointer (some ⟨b,0,none⟩)]] w fun e w'=>e=.returned (.int .i64 (findG (oldP now) L 0))∧Below w.heap.size w w':=by
 unfold maxLen at hnm
 have HS:=jd h
 have HC:=jd hc
 have HR:Hid (findG (oldP now) (L.drop 0) 0=findG (oldP now) L 0):=jd rfl
 obtain ⟨r,hr⟩ :∃r,findG (oldP now) L 0=r:=⟨_,rfl⟩
 rw [hr] at HR ⊢
 clear h hc hr
 go_enter Tryz.func57,Tryz.ntmps57
 go_wp2_with fail
 go_loopw [8] (fun i wr=>∃ k:Nat,k≤n∧i=.int .i64 k∧Hid (findG (oldP now) (L.drop k) k=r)∧Below w.heap.size w wr) (fun i _=>n - (intOf i).toNat)
 case atStart=>exact ⟨0,by omega,rfl,HR,Below.refl _ _⟩
 case round =>
  obtain ⟨k,hk,rfl,hrk,hB⟩:=hrel
  have HB:=jd hB
  clear hB
  by_cases hlt:k < n
  ·obtain ⟨g,oo,x,rfl,hg,hx,hxo,hrg⟩:=((uh HS).below (uh HB)).at_ hlt
   have hv:=findG_drop (p:=oldP now) hx
   have HRK:=jd (hv.symm.trans (uh hrk))
   have HX:=jd hxo
   have HRG:=jd hrg
   have hlt2:(k:Int) < (n:Int):=by omega
   have HCW:=jd (((uh HB).cell (p:=⟨b,0,none⟩) hb).trans (uh HC))
   have hbw:b < wr.heap.size:=Nat.lt_of_lt_of_le hb (uh HB).size
   have HRK0:Hid (oldP now x=true→r=(k:Int)):=jd (fun e=>by have:=uh HRK; rw [if_pos e] at this; exact this.symm)
   have HRK1:Hid (oldP now x=false→findG (oldP now) (L.drop (k+1)) (k+1)=r):=jd (fun e=>by have:=uh HRK; rwa [if_neg (by rw [e]; simp)] at this)
   clear hrk hx hxo hrg hv HRK
   obtain ⟨t,ht⟩ :∃t,oldP now x=t:=⟨_,rfl⟩
   go_wp2_with (first
    | (refine wpList_load_mid rfl 50 (.tmp 14) rfl g (oo+k*26) rfl _ _ (uh HRG) Tryz.underlying50 rfl (sess_infoL (uh HX)) ?_)
    | fail)
   refine (expire1_sx wr x (uh HX) b now hn0 hn1 hbw (uh HCW)).mono ?_
   rw [ht]
   rintro e w2 ⟨rfl,hb2⟩
   have B2:=jd ((uh HB).trans (hb2.mono (uh HB).size))
   clear hb2
   cases t with
   |true =>
    have hrr:=uh HRK0 ht
    clear ht
    go_wp2_with fail
    go_ret
    exact ⟨by rw [hrr]; rfl,uh B2⟩
   |false =>
    have hrr:=jd (uh HRK1 ht)
    clear ht
    go_wp2_with fail
    go_roundw
    case rel=>exact ⟨k+1,by omega,by go_num,hrr,uh B2⟩
    case measure=>simp [intOf]; omega
  ·obtain rfl:k=n:=by omega
   have hdr:L.drop k=[]:=List.drop_of_length_le (by have:=(uh HS).len; omega)
   have h0:=uh hrk
   rw [hdr] at h0
   obtain rfl:(-1:Int)=r:=h0
   clear hrk hdr
   go_wp2_with fail
   go_ret
   exact ⟨rfl,uh HB⟩
set_option maxRecDepth 100000 in
theorem find_sx (w:World) (A:Option Addr) (n c:Nat) (L:List Sess) (nx:Int) (h:SessL w w.heap.size A n L) (hnm:n≤maxLen) (id:Nat) :
  Calls Tryz.prog 15 #[.agg #[.slice A n c,.int .u32 nx],.int .u32 (id:Int)] w fun e w'=>e=.returned (.int .i64 (findG (idP id) L 0))∧Below w.heap.size w w':=by
 have HB:=jd (below2 w (.cells #[.slice A n c,.int .u32 nx] 29) (.cells #[.int .u32 (id:Int)] 27))
 have HS:=jd ((h.below (uh HB)).more (uh HB).size)
 have hcw:((w.alloc (.cells #[.slice A n c,.int .u32 nx] 29)).alloc (.cells #[.int .u32 (id:Int)] 27)).cell? ⟨w.heap.size+1,0,none⟩=some (.int .u32 (id:Int)):=(Blk.new' (g:=w.heap.size+1) (by simp)).cell 0
 have HC:=jd hcw
 clear h hcw
 go_enter Tryz.func15,Tryz.ntmps15
 go_wp2_with fail
 refine (idxfind_sx _ A n c L (uh HS) hnm (w.heap.size+1) id (by simp) (uh HC)).mono ?_
 rintro e w2 ⟨rfl,hb2⟩
 have B2:=jd ((uh HB).trans (hb2.mono (uh HB).size))
 clear hb2
 go_wp2_with fail
 go_ret
 exact ⟨rfl,uh B2⟩
end Go.Proofs.YtfbkkmnkpjgciaaGreat
