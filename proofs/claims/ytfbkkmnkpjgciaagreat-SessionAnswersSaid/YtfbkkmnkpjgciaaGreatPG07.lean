/- Joined of SName SCli SOps SKey TAny TBytes TOwn. No condition. -/
import Derived.Test.YtfbkkmnkpjgciaaGreatPG00
import Derived.Test.YtfbkkmnkpjgciaaGreatProg
import Derived.Test.YtfbkkmnkpjgciaaGreatPG05
import Derived.Test.YtfbkkmnkpjgciaaGreatPG04
import Derived.Deep.MidRow
import Derived.Test.YtfbkkmnkpjgciaaGreatPG06
import Derived.Laws.Tables
import Derived.Test.YtfbkkmnkpjgciaaGreatPG02
namespace Go.Proofs.YtfbkkmnkpjgciaaGreat
open Go.RowKit
def okAt (i:Nat) (c:UInt8):Bool:=decide (97≤c.toNat∧c.toNat≤122) || (decide (i≠0) && decide ((48≤c.toNat∧c.toNat≤57)∨c.toNat=45))
def ZbZ:List UInt8→Nat→Bool
 | [],_=>true
 | c::r,i=>okAt i c && ZbZ r (i+1)
def ZbC (l:List UInt8):Bool:=decide (1≤l.length) && (decide (l.length≤16) && ZbZ l 0)
theorem Zeo (l:List UInt8) (n:Nat) (h:l.length≤n):(⟨l.toArray⟩:ByteArray).size≤n:=by simpa [ByteArray.size] using h
theorem Zc9 (l:List UInt8) (k:Nat) (h:k < l.length):ZbZ (l.drop k) k=(okAt k l[k] && ZbZ (l.drop (k+1)) (k+1)):=by
 rw [List.drop_eq_getElem_cons h]; rfl
set_option maxRecDepth 100000 in
set_option maxHeartbeats 2000000 in
theorem Za3 (w:World) (l:List UInt8) (hl:l.length≤maxLen) (r:Bool) (hr:ZbC l=r) :
  Calls Tryz.prog 45 #[.string ⟨l.toArray⟩] w fun e w'=>e=.returned (.bool r)∧w=w':=by
 by_cases h1:l.length < 1
 ·obtain rfl:false=r:=by rw [← hr]; simp [ZbC]; intro h; omega
  obtain rfl:l=[]:=List.length_eq_zero_iff.1 (by omega)
  clear hr hl h1
  go_enter Tryz.func45,Tryz.ntmps45
  go_wp2_with fail
  go_ret
  exact ⟨rfl,rfl⟩
 ·by_cases h2:16 < l.length
  ·obtain rfl:false=r:=by rw [← hr]; simp [ZbC]; intro h; omega
   clear hr
   unfold maxLen at hl
   have hz:=Zeo l _ hl
   go_enter Tryz.func45,Tryz.ntmps45
   go_wp2_with fail
   go_ret
   exact ⟨rfl,rfl⟩
  ·have hr0:ZbZ (l.drop 0) 0=r:=by rw [← hr]; simp [ZbC,show 1≤l.length by omega,show l.length≤16 by omega]
   have HR:=jd hr0
   clear hr hr0 hl
   have hl:l.length≤16:=by omega
   have hl1:1≤l.length:=by omega
   clear h1 h2
   have hz:=Zeo l 16 hl
   go_enter Tryz.func45,Tryz.ntmps45
   go_wp2_with fail
   go_loop [3] (fun i=>∃ k:Nat,k≤l.length∧i=.int .i64 k∧ZbZ (l.drop k) k=r) (fun i=>20 - (intOf i).toNat)
   case atStart=>exact ⟨0,by omega,rfl,uh HR⟩
   case round =>
    obtain ⟨k,hk,rfl,hrk⟩:=hrel
    by_cases hlt:k < l.length
    ·rw [Zc9 l k hlt] at hrk
     have hn:((⟨l.toArray⟩:ByteArray)[k]'(by simpa [ByteArray.size] using hlt)).toNat=l[k].toNat:=rfl
     have hn8:l[k].toNat < 256:=UInt8.toNat_lt _
     have hcl:l[k].toNat < 45∨l[k].toNat=45∨(45 < l[k].toNat∧l[k].toNat < 48)∨(48≤l[k].toNat∧l[k].toNat≤57)∨(57 < l[k].toNat∧l[k].toNat < 97)∨(97≤l[k].toNat∧l[k].toNat≤122)∨122 < l[k].toNat:=by omega
     unfold okAt at hrk
     generalize l[k].toNat=n at hrk hn hn8 hcl
     by_cases hlet:97≤n∧n≤122
     ·have hrest:ZbZ (l.drop (k+1)) (k+1)=r:=by rw [← hrk]; simp [hlet]
      have HREST:=jd hrest
      obtain ⟨ha,hb⟩:=hlet
      clear hrk hrest hcl
      go_wp2_with fail
      go_round
      case rel=>exact ⟨k+1,by omega,by go_num,uh HREST⟩
      case measure=>simp [intOf]; omega
     ·by_cases hk0:k=0
      ·subst hk0
       obtain rfl:false=r:=by rw [← hrk]; simp [hlet]
       clear hrk
       have h97:n < 97∨122 < n:=by omega
       clear hlet
       rcases hcl with hcl | rfl | ⟨ha,hb⟩ | ⟨ha,hb⟩ | ⟨ha,hb⟩ | ⟨ha,hb⟩ | hcl
       all_goals first | omega | skip
       all_goals first | (have hd1:decide ((n:Int)≤57)=true:=by simp; omega) | (have hd1:decide ((n:Int)≤57)=false:=by simp; omega) | skip
       all_goals first | (have hd2:decide ((n:Int)≤122)=true:=by simp; omega) | (have hd2:decide ((n:Int)≤122)=false:=by simp; omega) | skip
       all_goals
        go_wp2_with fail
        go_ret
        exact ⟨rfl,rfl⟩
      ·have hkp:0 < k:=by omega
       have hk1:(k:Int)≠0:=by omega
       have hk2:((k:Int)==0)=false:=by simp; omega
       by_cases hoth:(48≤n∧n≤57)∨n=45
       ·have hrest:ZbZ (l.drop (k+1)) (k+1)=r:=by rw [← hrk]; simp [hlet,hoth,hk0]
        have HREST:=jd hrest
        clear hrk hrest hcl hk0
        rcases hoth with ⟨ha,hb⟩ | rfl
        all_goals
         go_wp2_with fail
         go_round
         case rel=>exact ⟨k+1,by omega,by go_num,uh HREST⟩
         case measure=>simp [intOf]; omega
       ·obtain rfl:false=r:=by rw [← hrk]; simp [hlet,hoth]
        clear hrk hk0
        have hn45:((n:Int)==45)=false:=by simp; omega
        rcases hcl with hcl | rfl | ⟨ha,hb⟩ | ⟨ha,hb⟩ | ⟨ha,hb⟩ | ⟨ha,hb⟩ | hcl
        all_goals first | omega | skip
        all_goals first | (have hd1:decide ((n:Int)≤57)=true:=by simp; omega) | (have hd1:decide ((n:Int)≤57)=false:=by simp; omega) | skip
        all_goals first | (have hd2:decide ((n:Int)≤122)=true:=by simp; omega) | (have hd2:decide ((n:Int)≤122)=false:=by simp; omega) | skip
        all_goals
         clear hlet hoth
         go_wp2_with fail
         go_ret
         exact ⟨rfl,rfl⟩
    ·obtain rfl:k=l.length:=by omega
     rw [List.drop_length] at hrk
     obtain rfl:true=r:=hrk
     go_wp2_with fail
     go_ret
     exact ⟨rfl,rfl⟩
theorem ZdM {α : Type} (l:List α) (h:l.length=16) :∃a0 a1 a2 a3 a4 a5 a6 a7 a8 a9 a10 a11 a12 a13 a14 a15,l=[a0,a1,a2,a3,a4,a5,a6,a7,a8,a9,a10,a11,a12,a13,a14,a15]:=by
 match l,h with
 | [a0,a1,a2,a3,a4,a5,a6,a7,a8,a9,a10,a11,a12,a13,a14,a15],_=>exact ⟨_,_,_,_,_,_,_,_,_,_,_,_,_,_,_,_,rfl⟩
structure Cli where
 user:List UInt8
 key:List UInt8
 level:Int
 nonce:Nat
 server:Nat
 id:Nat
 sess:List UInt8
 opn:Bool
 hi:Nat
 se:Nat
 out:Nat
def Cli.cs (c:Cli):List Value :=
 .string ⟨c.user.toArray⟩::(bsV c.key++(.int .i64 c.level::.int .u64 (c.nonce:Int)::.int .u64 (c.server:Int)::.int .u32 (c.id:Int) ::
  (bsV c.sess++[.bool c.opn,.int .u32 (c.hi:Int),.int .u32 (c.se:Int),.int .u32 (c.out:Int)])))
structure Cli.Ok (c:Cli):Prop where
 user:c.user.length≤maxLen
 key:c.key.length=16
 sess:c.sess.length=16
 nonce:c.nonce < 18446744073709551616
 server:c.server < 18446744073709551616
 id:c.id < 4294967296
 hi:c.hi < 4294967296
 se:c.se < 4294967296
 out:c.out < 4294967296
theorem Cli.open_ {c:Cli} (h:c.Ok) :∃(a0 a1 a2 a3 a4 a5 a6 a7 a8 a9 a10 a11 a12 a13 a14 a15 b0 b1 b2 b3 b4 b5 b6 b7 b8 b9 b10 b11 b12 b13 b14 b15:UInt8),
  c.key=[a0,a1,a2,a3,a4,a5,a6,a7,a8,a9,a10,a11,a12,a13,a14,a15]∧c.sess=[b0,b1,b2,b3,b4,b5,b6,b7,b8,b9,b10,b11,b12,b13,b14,b15]:=by
 obtain ⟨a0,a1,a2,a3,a4,a5,a6,a7,a8,a9,a10,a11,a12,a13,a14,a15,e1⟩:=ZdM c.key h.key
 obtain ⟨b0,b1,b2,b3,b4,b5,b6,b7,b8,b9,b10,b11,b12,b13,b14,b15,e2⟩:=ZdM c.sess h.sess
 exact ⟨_,_,_,_,_,_,_,_,_,_,_,_,_,_,_,_,_,_,_,_,_,_,_,_,_,_,_,_,_,_,_,_,e1,e2⟩
theorem Cli.len {c:Cli} (h:c.Ok):c.cs.length=41:=by simp [Cli.cs,h.key,h.sess]
theorem Cli.size {c:Cli} (h:c.Ok):c.cs.toArray.size=41:=by rw [List.size_toArray,c.len h]
theorem Cli.one {c:Cli}:∀ v∈c.cs,v.oneCell'=true:=by
 intro v hv
 simp only [Cli.cs,List.mem_cons,List.mem_append,List.not_mem_nil,or_false] at hv
 rcases hv with rfl | h | rfl | rfl | rfl | rfl | h | rfl | rfl | rfl | rfl
 · rfl
 · exact ZaL _ v h
 · rfl
 · rfl
 · rfl
 · rfl
 · exact ZaL _ v h
 · rfl
 · rfl
 · rfl
 · rfl
structure Cli.At (c:Cli) (f:Nat→Option Value):Prop where
 user:f 0=some (.string ⟨c.user.toArray⟩)
 level:f 17=some (.int .i64 c.level)
 nonce:f 18=some (.int .u64 (c.nonce:Int))
 server:f 19=some (.int .u64 (c.server:Int))
 id:f 20=some (.int .u32 (c.id:Int))
 opn:f 37=some (.bool c.opn)
 hi:f 38=some (.int .u32 (c.hi:Int))
 se:f 39=some (.int .u32 (c.se:Int))
 out:f 40=some (.int .u32 (c.out:Int))
 key:∀ j v,(bsV c.key)[j]?=some v→f (1+j)=some v
 sess:∀ j v,(bsV c.sess)[j]?=some v→f (21+j)=some v
theorem Cli.at_ {c:Cli} (h:c.Ok):c.At (fun j=>c.cs.toArray[j]?):=by
 obtain ⟨a0,a1,a2,a3,a4,a5,a6,a7,a8,a9,a10,a11,a12,a13,a14,a15,b0,b1,b2,b3,b4,b5,b6,b7,b8,b9,b10,b11,b12,b13,b14,b15,e1,e2⟩:=c.open_ h
 obtain ⟨user,key,level,nonce,server,id,sess,opn,hi,se,out⟩:=c
 dsimp only at e1 e2
 subst e1 e2
 refine ⟨rfl,rfl,rfl,rfl,rfl,rfl,rfl,rfl,rfl,fun j v hv=>?_,fun j v hv=>?_⟩
 ·have hj:j < 16:=by have:=(List.getElem?_eq_some_iff.1 hv).1; simpa [bsV] using this
  have:j=0∨j=1∨j=2∨j=3∨j=4∨j=5∨j=6∨j=7∨j=8∨j=9∨j=10∨j=11∨j=12∨j=13∨j=14∨j=15:=by omega
  rcases this with rfl | rfl | rfl | rfl | rfl | rfl | rfl | rfl | rfl | rfl | rfl | rfl | rfl | rfl | rfl | rfl<;>exact hv
 ·have hj:j < 16:=by have:=(List.getElem?_eq_some_iff.1 hv).1; simpa [bsV] using this
  have:j=0∨j=1∨j=2∨j=3∨j=4∨j=5∨j=6∨j=7∨j=8∨j=9∨j=10∨j=11∨j=12∨j=13∨j=14∨j=15:=by omega
  rcases this with rfl | rfl | rfl | rfl | rfl | rfl | rfl | rfl | rfl | rfl | rfl | rfl | rfl | rfl | rfl | rfl<;>exact hv
theorem Cli.blk {c:Cli} (h:c.Ok) {w:World} {g:Nat} {t:TypeId} (hb:Blk w g t c.cs.toArray):c.At (fun j=>w.cell? ⟨g,j,none⟩):=by
 have h0:=c.at_ h
 exact ⟨(hb.cell _).trans h0.user,(hb.cell _).trans h0.level,(hb.cell _).trans h0.nonce,(hb.cell _).trans h0.server,(hb.cell _).trans h0.id,(hb.cell _).trans h0.opn,(hb.cell _).trans h0.hi,(hb.cell _).trans h0.se,(hb.cell _).trans h0.out,
  fun j v hv=>(hb.cell _).trans (h0.key j v hv),fun j v hv=>(hb.cell _).trans (h0.sess j v hv)⟩
def cliF (c:Cli):Bool:=ZbC c.user && decide (1≤c.level∧c.level≤3)
set_option maxRecDepth 100000 in
theorem Zai {c:Cli} (h:c.Ok):(Tryz.prog.info? 65).map (·.size)=some c.cs.toArray.size:=by
 rw [c.size h]
 exact (by kernel_rfl:(Tryz.prog.info? 65).map (·.size)=some 41)
set_option maxRecDepth 100000 in
theorem Zcb (w:World) (c:Cli) (h:c.Ok) (r:Bool) (hr:cliF c=r):Calls Tryz.prog 61 #[.agg c.cs.toArray] w fun e w'=>e=.returned (.bool r)∧Below w.heap.size w w':=by
 have hat:=c.blk h (Blk.new w 65 c.cs.toArray)
 have h0:=hat.user
 have h17:=hat.level
 have HB:=jd ((Below.refl w.heap.size w).alloc (Nat.le_refl _) (.cells c.cs.toArray 65))
 have HU:=h.user
 clear hat
 unfold cliF at hr
 cases hn:ZbC c.user with
 |false =>
  rw [hn] at hr
  obtain rfl:false=r:=hr
  have HN:=jd hn
  clear hn
  go_enter Tryz.func61,Tryz.ntmps61
  go_wp2_with (first | (go_at_call 45; refine (Za3 _ c.user HU false (uh HN)).mono ?_; rintro e w' ⟨rfl,rfl⟩) | fail)
  go_ret
  exact ⟨rfl,uh HB⟩
 |true =>
  rw [hn,Bool.true_and] at hr
  have HN:=jd hn
  have HR:=jd hr
  clear hn hr
  go_enter Tryz.func61,Tryz.ntmps61
  go_wp2_with (first | (go_at_call 45; refine (Za3 _ c.user HU true (uh HN)).mono ?_; rintro e w' ⟨rfl,rfl⟩) | (go_at_call 44; refine (ZbD _ c.level r (uh HR)).mono ?_; rintro e w' ⟨rfl,rfl⟩) | fail)
  go_ret
  exact ⟨rfl,uh HB⟩
theorem Zb2 (w:World) (A B:Obj):((w.alloc A).alloc B).heap.size=w.heap.size+2:=by simp
theorem Zfn (w:World) (A B C:Obj):(((w.alloc A).alloc B).alloc C).heap.size=w.heap.size+3:=by simp
section
variable {P:Program} {ops:Array Oper} {rest:List Oper} {o:Oper} {a:Act} {w:World} {Q:Exit→Act→World→Prop}
theorem Zab (hgd:o.guard=none) (t:TypeId) (parts:Array (Nat × Operand)) (ho:o.op=.build t parts) (pl:List (Nat × Value)) (hp:(parts.toList.map fun p=>(p.1,a.eval p.2))=pl) (cells:Array Value)
  (hc:P.built t pl=some cells) (h:wpList P ops Q rest (a.put o.dst (.agg cells)) w):wpList P ops Q (o::rest) a w:=by
 refine wpList_plain hgd fun _ hK=>?_
 have hq:(parts.map fun p=>(p.1,a.eval p.2)).toList=pl:=by rw [← hp]; simp
 have hr:=run_build (P:=P) w t (parts.map fun p=>(p.1,a.eval p.2)) cells (by rw [hq]; exact hc)
 unfold Oper.wp execOp
 simp only [ho,Sem.run_bind]
 rw [hr]
 exact hK _ _ h
theorem Zag (hgd:o.guard=none) (t:TypeId) (ho:o.op=.alloc t) (cells:Array Value) (g:Nat) (hg:w.heap.size=g) (hr:(Instr.alloc t true (.tuple #[])).run P w=.ok (.pointer (some ⟨w.heap.size,0,none⟩)) (w.alloc (.cells cells t)))
  (h:wpList P ops Q rest (a.put o.dst (.pointer (some ⟨g,0,none⟩))) (w.alloc (.cells cells t))):wpList P ops Q (o::rest) a w:=by
 subst hg
 refine wpList_plain hgd fun _ hK=>?_
 unfold Oper.wp execOp
 simp only [ho,Sem.run_bind,hr]
 exact hK _ _ h
theorem wpList_store1_blk (hgd:o.guard=none) (ty:TypeId) (x y:Operand) (ho:o.op=.store ty x y) (g j:Nat) (t:TypeId) (cs:Array Value) (v:Value) (hx:a.eval x=.pointer (some ⟨g,j,none⟩)) (hy:a.eval y=v)
  (h:Blk w g t cs) (hj:j < cs.size) (hr:∀ W:World,(W.cell? ⟨g,j,none⟩).isSome=true→W.frozen? ⟨g,j,none⟩=false→(storeVar ty ⟨g,j,none⟩ v).run P W=.ok () (W.setCell ⟨g,j,none⟩ v))
  (hk:∀ w',Blk w' g t (cs.setIfInBounds j v)→w.grownBy w' (some g)→wpList P ops Q rest (a.put o.dst undef) w'):wpList P ops Q (o::rest) a w:=by
 refine wpList_plain hgd fun _ hK=>?_
 have hs:=hr w (by rw [h.cell,Array.getElem?_eq_getElem hj]; rfl) (h.frozen j)
 unfold Oper.wp execOp
 simp only [ho,hx,hy,Instr.storeAt,Instr.sureAddr,Sem.run_bind,Sem.run_pure,Result.andThen_ok,hs]
 exact hK _ _ (hk _ (h.set_ j v) (ZaC (World.grownBy.refl w _) (.inl rfl) v))
end
theorem Za4 {P:Program} {w:World} {fn:Func} {p u x:Tmp} {ty:TypeId} (h:fn.results=#[.cell p ty,.tmp u,.tmp x]) (tmps:Array Value) (g:Nat) (t:TypeId) (cs:Array Value) (d:TypeDesc) (z y:Value)
  (hp:tmps.getD p undef=.pointer (some ⟨g,0,none⟩)) (hz:tmps.getD u undef=z) (hy:tmps.getD x undef=y) (hg:Blk w g t cs)
  (hu:P.underlying ty=some d) (hd:(match d with | .struct _ | .array _ _=>true | _=>false)=true) (hi:(P.info? ty).map (·.size)=some cs.size) :
  (results fn tmps).run P w=.ok (.tuple #[.agg cs,z,y]) w:=by
 have hp':tmps[p]?.getD undef=.pointer (some ⟨g,0,none⟩):=by simpa using hp
 have hz':tmps[u]?.getD undef=z:=by simpa using hz
 have hy':tmps[x]?.getD undef=y:=by simpa using hy
 simp [results,h,hp',hz',hy',asAddr,run_loadVar_row w g t ty cs (0,0) d hg hu hd hi]
theorem Zb7 {P:Program} {w:World} {fn:Func} {p u x u2 x2:Tmp} {ty:TypeId} (h:fn.results=#[.cell p ty,.tmp u,.tmp x,.tmp u2,.tmp x2]) (tmps:Array Value) (g:Nat) (t:TypeId) (cs:Array Value) (d:TypeDesc) (z y z2 y2:Value)
  (hp:tmps.getD p undef=.pointer (some ⟨g,0,none⟩)) (hz:tmps.getD u undef=z) (hy:tmps.getD x undef=y) (hz2:tmps.getD u2 undef=z2) (hy2:tmps.getD x2 undef=y2) (hg:Blk w g t cs)
  (hu:P.underlying ty=some d) (hd:(match d with | .struct _ | .array _ _=>true | _=>false)=true) (hi:(P.info? ty).map (·.size)=some cs.size) :
  (results fn tmps).run P w=.ok (.tuple #[.agg cs,z,y,z2,y2]) w:=by
 have hp':tmps[p]?.getD undef=.pointer (some ⟨g,0,none⟩):=by simpa using hp
 have hz':tmps[u]?.getD undef=z:=by simpa using hz
 have hy':tmps[x]?.getD undef=y:=by simpa using hy
 have hz2':tmps[u2]?.getD undef=z2:=by simpa using hz2
 have hy2':tmps[x2]?.getD undef=y2:=by simpa using hy2
 simp [results,h,hp',hz',hy',hz2',hy2',asAddr,run_loadVar_row w g t ty cs (0,0) d hg hu hd hi]
def z16:List UInt8:=List.replicate 16 0
def zCli:Cli:=⟨[],z16,0,0,0,0,z16,false,0,0,0⟩
theorem Zau:zCli.Ok:=⟨by simp [zCli],rfl,rfl,by decide,by decide,by decide,by decide,by decide,by decide⟩
theorem Cli.size_eq {c:Cli} (h:c.Ok):c.cs.toArray.size=zCli.cs.toArray.size:=by rw [Cli.size h,Cli.size Zau]
theorem Zaz (w:World):(Instr.alloc 65 true (.tuple #[])).run Tryz.prog w=.ok (.pointer (some ⟨w.heap.size,0,none⟩)) (w.alloc (.cells zCli.cs.toArray 65)):=by kernel_rfl
theorem Zax:Tryz.prog.built 65 []=some zCli.cs.toArray:=by kernel_rfl
theorem Zes (u:List UInt8) (ks:List UInt8) (hk:ks.length=16) (l:Int) (n:Nat):Tryz.prog.built 65 [(0,.string ⟨u.toArray⟩),(1,.agg (bsV ks).toArray),(2,.int .i64 l),(3,.int .u64 (n:Int))]=some (Cli.mk u ks l n 0 0 z16 false 0 0 0).cs.toArray:=by
 obtain ⟨a0,a1,a2,a3,a4,a5,a6,a7,a8,a9,a10,a11,a12,a13,a14,a15,rfl⟩:=ZdM ks hk
 kernel_rfl
theorem formB_no {f:UInt8} {l:List UInt8} (h:Zcv f l=false):l.length < 18∨274 < l.length∨(18≤l.length∧l.length≤274∧∃ b,l[0]?=some b∧b≠f):=by
 by_cases h1:l.length < 18
 · exact .inl h1
 ·by_cases h2:274 < l.length
  · exact .inr (.inl h2)
  ·refine .inr (.inr ⟨by omega,by omega,l[0]'(by omega),List.getElem?_eq_getElem _,fun e=>?_⟩)
   unfold Zcv at h
   have e0:l.getD 0 0=f:=by rw [← e]; simp [List.getD,List.getElem?_eq_getElem (show 0 < l.length by omega)]
   rw [e0] at h
   simp at h
   omega
set_option maxRecDepth 100000 in
set_option maxHeartbeats 4000000 in
theorem split_bad (w:World) (f:UInt8) (A:Option Addr) (n c:Nat) (l:List UInt8) (hr:Zaj w w.heap.size 1 A n (bsV l)) (hc:n≤maxLen) (hf:Zcv f l=false) :
  Calls Tryz.prog 80 #[.int .u8 (f.toNat:Int),.slice A n c] w fun e w'=>e=.returned (.tuple #[.agg #[.int .u32 0,.int .u32 0,.int .i64 0,.slice none 0 0],.bool false])∧Below w.heap.size w w':=by
 have hl:l.length=n:=by have:=hr.1; simpa [bsV] using this
 have hno:=formB_no hf
 rw [hl] at hno
 have K1:=jd (Blk.new w 123 #[.int .u32 0,.int .u32 0,.int .i64 0,.slice none 0 0])
 have B1:=jd ((Below.refl w.heap.size w).alloc (Nat.le_refl _) (.cells #[.int .u32 0,.int .u32 0,.int .i64 0,.slice none 0 0] 123))
 unfold maxLen at hc
 rcases hno with h1 | h1 | ⟨h1,h2,b,h3,h4⟩
 ·have hb1:((n:Int) < 18)=True:=by simp; omega
  clear hl hf hr
  go_enter Tryz.func80,Tryz.ntmps80
  go_wp2_with (first
   |(refine Zaa rfl 123 (.tmp 4) (.tmp 22) rfl w.heap.size 123 _ #[.int .u32 0,.int .u32 0,.int .i64 0,.slice none 0 0] rfl rfl (uh K1) rfl (by kernel_rfl) (by intro v hv; simp at hv; rcases hv with rfl | rfl | rfl | rfl<;>rfl) ?_
     intro w9 hb9 hg9
     have Z9:=jd hb9
     have B9:=jd ((uh B1).grown hg9 (by simp) (fun j e=>by injection e with e; omega))
     clear hb9 hg9)
   | fail)
  exact bodyPost_ret (v:=.tuple #[.agg #[.int .u32 0,.int .u32 0,.int .i64 0,.slice none 0 0],.bool false]) (res2 rfl _ w.heap.size 123 _ _ _ rfl rfl (uh Z9) Tryz.underlying123 rfl (by kernel_rfl)) rfl ⟨rfl,uh B9⟩
 ·have hb1:((n:Int) < 18)=False:=by simp; omega
  have hb2:((274:Int) < (n:Int))=True:=by simp; omega
  clear hl hf hr
  go_enter Tryz.func80,Tryz.ntmps80
  go_wp2_with (first
   |(refine Zaa rfl 123 (.tmp 4) (.tmp 22) rfl w.heap.size 123 _ #[.int .u32 0,.int .u32 0,.int .i64 0,.slice none 0 0] rfl rfl (uh K1) rfl (by kernel_rfl) (by intro v hv; simp at hv; rcases hv with rfl | rfl | rfl | rfl<;>rfl) ?_
     intro w9 hb9 hg9
     have Z9:=jd hb9
     have B9:=jd ((uh B1).grown hg9 (by simp) (fun j e=>by injection e with e; omega))
     clear hb9 hg9)
   | fail)
  exact bodyPost_ret (v:=.tuple #[.agg #[.int .u32 0,.int .u32 0,.int .i64 0,.slice none 0 0],.bool false]) (res2 rfl _ w.heap.size 123 _ _ _ rfl rfl (uh Z9) Tryz.underlying123 rfl (by kernel_rfl)) rfl ⟨rfl,uh B9⟩
 ·have hb1:((n:Int) < 18)=False:=by simp; omega
  have hb2:((274:Int) < (n:Int))=False:=by simp; omega
  have h0z:(0:Int) < (n:Int):=by omega
  have h0n:0 < n:=by omega
  obtain ⟨g,oo,rfl,hgl,hcell⟩:=Zcr hr h0n
  have c0:(w.alloc (.cells #[.int .u32 0,.int .u32 0,.int .i64 0,.slice none 0 0] 123)).cell? ⟨g,oo,none⟩=some (.int .u8 (b.toNat:Int)):=by
   rw [World.cell?_alloc_lt _ _ _ hgl]
   exact hcell 0 b h3
  have hne:((b.toNat:Int) != (f.toNat:Int))=true:=by
   have:b.toNat≠f.toNat:=fun e=>h4 (UInt8.toNat_inj.1 e)
   simp; omega
  clear hl hf hr hcell h3 h4
  go_enter Tryz.func80,Tryz.ntmps80
  go_wp2_with (first
   |(refine Zaa rfl 123 (.tmp 4) (.tmp 22) rfl w.heap.size 123 _ #[.int .u32 0,.int .u32 0,.int .i64 0,.slice none 0 0] rfl rfl (uh K1) rfl (by kernel_rfl) (by intro v hv; simp at hv; rcases hv with rfl | rfl | rfl | rfl<;>rfl) ?_
     intro w9 hb9 hg9
     have Z9:=jd hb9
     have B9:=jd ((uh B1).grown hg9 (by simp) (fun j e=>by injection e with e; omega))
     clear hb9 hg9)
   | fail)
  exact bodyPost_ret (v:=.tuple #[.agg #[.int .u32 0,.int .u32 0,.int .i64 0,.slice none 0 0],.bool false]) (res2 rfl _ w.heap.size 123 _ _ _ rfl rfl (uh Z9) Tryz.underlying123 rfl (by kernel_rfl)) rfl ⟨rfl,uh B9⟩
theorem alloc_keyn (w:World):(Instr.alloc 46 true (.tuple #[])).run Tryz.prog w=.ok (.pointer (some ⟨w.heap.size,0,none⟩)) (w.alloc (.cells (bsV (List.replicate 16 0)).toArray 46)):=by kernel_rfl
theorem keyn_info {ks:List UInt8} (h:ks.length=16):(Tryz.prog.info? 46).map (·.size)=some (bsV ks).toArray.size:=by
 rw [show (bsV ks).toArray.size=16 by simp [bsV,h]]
 kernel_rfl
theorem bsV_setn (ks:List UInt8) (j:Nat) (b:UInt8):(bsV ks).toArray.setIfInBounds j (.int .u8 (b.toNat:Int))=(bsV (ks.set j b)).toArray:=by
 rw [List.setIfInBounds_toArray]
 congr 1
 simp [bsV,List.map_set]
theorem grown_then {a b c:World} {row row':Option Nat} (h:a.grownBy b row) (k:b.grownBy c row') (hr:∀ j,row'=some j→a.heap.size≤j∨row=some j):a.grownBy c row :=
 ⟨k.os.trans h.os,k.tape.trans h.tape,k.output.trans h.output,Nat.le_trans h.size k.size,fun i hi hne=>(k.block i (Nat.lt_of_lt_of_le hi h.size) (fun e=>by
  rcases hr i e.symm with h1 | h1
  · omega
  · exact hne h1.symm)).trans (h.block i hi hne)⟩
def KeyPost (w:World) (B g:Nat) (e:Ending) (w':World):Prop :=
 ∃ ks:List UInt8,ks.length=16∧e=.returned (.agg (bsV ks).toArray)∧Zaq w' B g∧w.grownBy w' (some g)
set_option maxRecDepth 100000 in
set_option maxHeartbeats 1000000 in
theorem key_any (w:World) (B g:Nat) (h:Zaq w B g):Calls Tryz.prog 20 #[.pointer (some ⟨g,0,none⟩)] w (KeyPost w B g):=by
 have hgl:=h.lt
 obtain ⟨W,hW⟩ :∃W,(w.alloc (.cells #[.int .u8 0,.int .u8 0,.int .u8 0,.int .u8 0,.int .u8 0,.int .u8 0,.int .u8 0,.int .u8 0,.int .u8 0,.int .u8 0,.int .u8 0,.int .u8 0,.int .u8 0,.int .u8 0,.int .u8 0,.int .u8 0] 46)).alloc (.cells #[.int .u8 0,.int .u8 0,.int .u8 0,.int .u8 0,.int .u8 0,.int .u8 0,.int .u8 0,.int .u8 0,.int .u8 0,.int .u8 0,.int .u8 0,.int .u8 0,.int .u8 0,.int .u8 0,.int .u8 0,.int .u8 0] 46)=W:=⟨_,rfl⟩
 have G2:=jd (show Blk W w.heap.size 46 (bsV (List.replicate 16 0)).toArray from hW ▸ (Blk.new w _ _).alloc _)
 have G3:=jd (show Blk W (w.heap.size+1) 46 (bsV (List.replicate 16 0)).toArray from hW ▸ Blk.new' (by simp))
 have HC:=jd (show Zaq W B g from hW ▸ h.keep fun b hb=>by rw [Below.heap_alloc _ _ _ (by rw [Zae]; omega),Below.heap_alloc _ _ _ (by omega)])
 have HG:=jd (show w.grownBy W (some g) from hW ▸ (World.grownBy_alloc w _ _).trans (World.grownBy_alloc _ _ _))
 clear h
 go_enter Tryz.func20,Tryz.ntmps20
 go_wp2_with fail
 refine (Zav W B g 16 (uh HC) (by decide) (by decide)).mono ?_
 rintro e w1 ⟨r,rfl,hr0,hr1,hc1,hg1⟩
 have G2':=jd ((uh G2).gb hg1)
 have G3':=jd ((uh G3).gb hg1)
 have HG':=jd ((uh HG).trans hg1)
 have HC':=jd hc1
 clear hc1 hg1 G2 G3 HG HC
 obtain ⟨k0,rfl⟩ :∃k0:Nat,r=(k0:Int):=⟨r.toNat,by omega⟩
 have hk0:k0 < 16:=by omega
 go_wp2_with fail
 go_loopw [4] (fun i wr=>∃ (k:Nat) (ks:List UInt8),i=.int .i64 ((k:Int) - 1)∧k≤16∧ks.length=16∧Blk wr w.heap.size 46 (bsV (List.replicate 16 0)).toArray∧Blk wr (w.heap.size+1) 46 (bsV ks).toArray∧Zaq wr B g∧w.grownBy wr (some g)) (fun i _=>(intOf i+1).toNat)
 case atStart=>exact ⟨k0+1,_,by go_num,by omega,by simp,uh G2',uh G3',uh HC',uh HG'⟩
 case round =>
  obtain ⟨k,ks,rfl,hk,hks,h2,h3,hc,hg⟩:=hrel
  have G2:=jd h2
  have G3:=jd h3
  have HC:=jd hc
  have HG:=jd hg
  clear h2 h3 hc hg G2' G3' HC' HG'
  rcases k with _ | k
  ·have hlk:(bsV ks).toArray.size=16:=by simp [bsV,hks]
   have hik:=keyn_info hks
   have hl2:((bsV (List.replicate 16 (0:UInt8))).toArray).size=16:=rfl
   go_wp2_with (first
    | (refine wpList_load_row rfl 46 _ rfl (w.heap.size+1) rfl 46 _ _ _ (uh G3) Tryz.underlying46 rfl hik ?_)
    |(refine Zaa rfl 46 (.tmp 2) (.tmp 16) rfl w.heap.size 46 _ (bsV ks).toArray rfl rfl (uh G2) (by rw [hlk,hl2]) hik (fun v hv=>ZaL ks v (by simpa using hv)) ?_
      intro w5 hb5 hg5
      have R5:=jd hb5
      have C5:=jd ((uh HC).keep fun b hb=>hg5.block b (by have:=(uh HC).lt; omega) (fun e=>by injection e with e; omega))
      have X5:=jd (grown_then (uh HG) hg5 (fun j e=>by injection e with e; omega))
      clear hb5 hg5)
    | fail)
   refine bodyPost_ret (v:=.agg (bsV ks).toArray) ?_ rfl (show KeyPost w B g _ _ from ⟨ks,hks,rfl,uh C5,uh X5⟩)
   exact Zba rfl _ w.heap.size 46 _ _ rfl (uh R5) Tryz.underlying46 rfl hik
  ·have hcast:((k+1:Nat):Int) - 1=(k:Int):=by omega
   rw [hcast]
   have hge:((0:Int)≤(k:Int)):=by omega
   go_wp2_with fail
   refine (Zav wr B g 256 (uh HC) (by decide) (by decide)).mono ?_
   rintro e w1 ⟨r,rfl,hr0,hr1,hc1,hg1⟩
   obtain ⟨b,hb⟩ :∃b:UInt8,r=(b.toNat:Int):=⟨UInt8.ofNat r.toNat,by rw [UInt8.toNat_ofNat']; omega⟩
   subst hb
   have hb255:(b.toNat:Int) < 256:=by have:=b.toNat_lt; omega
   have hwr:IntKind.u8.wrap (b.toNat:Int)=(b.toNat:Int):=by rw [IntKind.wrap_u8]; omega
   have n3:=(uh G3).gb hg1
   have G2:=jd ((uh G2).gb hg1)
   have hcell:w1.cell? ⟨w.heap.size+1,k,none⟩=(bsV ks).toArray[k]?:=n3.cell k
   obtain ⟨v0,hv0⟩ :∃v,(bsV ks).toArray[k]?=some v:=⟨_,Array.getElem?_eq_getElem (by simp [bsV]; omega)⟩
   rw [hv0] at hcell
   have hfro:=n3.frozen k
   have N3:=jd n3
   have C1:=jd hc1
   have HG:=jd ((uh HG).trans hg1)
   have hk16:(k:Int) < 16:=by omega
   clear hc1 hg1 n3 hv0
   go_wp2_with fail
   have hset:=(uh N3).set_ k (.int .u8 (b.toNat:Int))
   rw [bsV_setn] at hset
   go_roundw
   case rel=>exact ⟨k,_,by go_num,by omega,by simp [hks],(uh G2).far (by show w.heap.size≠w.heap.size+1; omega) _,hset,(uh C1).keep (fun b hb=>Below.heap_setCell _ _ _ b (by show b≠w.heap.size+1; omega)),grown_then (uh HG) (ZaC (p:=⟨w.heap.size+1,k,none⟩) (World.grownBy.refl _ (some (w.heap.size+1))) (.inl rfl) _) (fun j e=>by injection e with e; omega)⟩
   case measure=>simp [intOf]
section
variable {P:Program} {md:Region.Mode} {l:List Oper} {Q:Exit→Act→World→Prop} {S:World→Prop} {a0:Act} {listed0:Array Bool}
def IStep (P:Program) (md:Region.Mode) (l:List Oper) (Q:Exit→Act→World→Prop) (a0:Act) (listed0:Array Bool) (idxs:List Nat) (J:World→Prop) (T:World→World→Prop) (R:Nat→Value→World→Prop) (i:Nat):Prop :=
 ∀ (a:Act) (w:World),J w→(∀ t,outB l idxs t=true→a.eval (.tmp t)=a0.eval (.tmp t))→(∀ k t,inB md l listed0 i k t=true→R k (a.eval (.tmp t)) w) →
  wpOp P l.toArray Q i (fun a' w'=>∃ v,a'=a.put ((l[i]?).bind (·.dst)) v∧J w'∧T w w'∧R i v w') a w
def ISteps (P:Program) (md:Region.Mode) (l:List Oper) (Q:Exit→Act→World→Prop) (a0:Act) (listed0:Array Bool) (idxs:List Nat) (J:World→Prop) (T:World→World→Prop) (R:Nat→Value→World→Prop):List Nat→Prop
 | []=>True
 | i::r=>IStep P md l Q a0 listed0 idxs J T R i∧ISteps P md l Q a0 listed0 idxs J T R r
theorem ZcD (J:World→Prop) (T:World→World→Prop) (R:Nat→Value→World→Prop) (idxs:List Nat) (listed1:Array Bool) (ds:List (Nat × Option Tmp)) (n:Nat) {w0:World} (fuel1:Nat)
  (hplan:planB md l listed0 listed1 idxs n ds=true) (hn:a0.tmps.size=n)
  (hR:∀ k v w w',R k v w→T w w'→R k v w') (hS:∀ w,J w→S w) (hw:J w0)
  (hst:ISteps P md l Q a0 listed0 idxs J T R idxs)
  (hend:∀ vals w,J w→(∀ k,idxs.contains k=true→R k (vals k) w)→wpAnyH P md l.toArray Q S fuel1 listed1 (puts ds vals a0) w)
  {fuel:Nat} (hf:fuel1+idxs.length=fuel):wpAnyH P md l.toArray Q S fuel listed0 a0 w0:=by
 subst hn
 have hplan':=hplan
 unfold planB at hplan'
 simp only [Bool.and_eq_true,decide_eq_true_eq,beq_iff_eq,List.all_eq_true,Bool.not_eq_true'] at hplan'
 obtain ⟨_,hun,_,_,hnn,_,_,_,_,hsz⟩:=hplan'
 have hn:=Zce hnn
 refine Zfb (fun done vals w=>J w∧∀ k,done k=true→R k (vals k) w) idxs listed1 ds fuel1 hplan (fun _ _ w h=>hS w h.1) (fun vals=>⟨hw,fun k hk=>by cases hk⟩) ?_ (fun vals w h=>hend vals w h.1 h.2) hf
 have all:∀ r:List Nat,ISteps P md l Q a0 listed0 idxs J T R r→ZdT P md l Q a0 listed0 idxs (fun done vals w=>J w∧∀ k,done k=true→R k (vals k) w) r:=by
  intro r
  induction r with
  | nil=>intro _; trivial
  |cons i r ih =>
   intro h
   refine ⟨fun done vals w hd hsub hdep hI=>?_,ih h.2⟩
   refine wpOp_mono (fun a' w' hx=>?_) (h.1 (mix l 0 done vals a0) w hI.1 (fun t ht=>?_) (fun k t hk=>?_))
   ·obtain ⟨v,e,hb,ht,hr⟩:=hx
    refine ⟨v,e,hb,fun k hk=>?_⟩
    by_cases e:k=i
    · subst e; rw [ZaU]; exact hr
    ·rw [Zb5 _ _ e] at hk ⊢
     exact hR k _ _ _ (hI.2 k hk) ht
   ·refine ZcL _ _ _ _ _ _ (fun j o ho hdj=>?_)
    rw [Nat.zero_add] at hdj
    have:=List.all_eq_true.1 ht j (by simpa using hsub j hdj)
    rw [ho] at this
    simpa using this
   ·unfold inB at hk
    simp only [Bool.and_eq_true,beq_iff_eq] at hk
    have hdk:=hdep k hk.1
    have hki:=(hun k (by simpa using hsub k hdk)).1
    have ho:l[k]?=some l[k]:=List.getElem?_eq_getElem hki
    have hdst:l[k].dst=some t:=by have:=hk.2; rw [ho] at this; exact this
    have:=ZdU l 0 done vals a0 k l[k] t ho hdst (by simpa using hdk) hn (hsz t (ZeS ho hdst))
    rw [Nat.zero_add] at this
    rw [this]
    exact hI.2 k hdk
 exact all idxs hst
end
def CJ (W0:World) (B g:Nat) (w:World):Prop:=W0.grownBy w (some g)∧Zaq w B g
def CT (g:Nat) (w w':World):Prop:=w.grownBy w' (some g)
section
variable {W0 w w':World} {B g:Nat}
theorem CJ.start (h:Zaq W0 B g):CJ W0 B g W0:=⟨World.grownBy.refl _ _,h⟩
theorem CJ.drew (h:CJ W0 B g w):CJ W0 B g w.drew:=⟨ZbW h.1,h.2.keep fun _ _=>rfl⟩
theorem Zaq.below_ (h:Zaq w B g) (hb:Below w.heap.size w w'):Zaq w' B g:=h.keep fun b hbg=>hb.block b (by have:=h.lt; omega)
theorem Zaq.grown_ {row:Option Nat} (h:Zaq w B g) (hb:w.grownBy w' row) (hr:∀ j,row=some j→g < j):Zaq w' B g :=
 h.keep fun b hbg=>hb.block b (by have:=h.lt; omega) (fun e=>by have:=hr b e.symm; omega)
theorem CJ.same (h:CJ W0 B g w) {p:Prop} (hp:p):CJ W0 B g w∧CT g w w∧p:=⟨h,World.grownBy.refl _ _,hp⟩
theorem CJ.below (h:CJ W0 B g w) (hb:Below w.heap.size w w') {p:Prop} (hp:p):CJ W0 B g w'∧CT g w w'∧p :=
 ⟨⟨h.1.trans (Zah hb _),h.2.below_ hb⟩,Zah hb _,hp⟩
theorem CJ.codes (h:CJ W0 B g w) (hc:Zaq w' B g) (hb:w.grownBy w' (some g)) {p:Prop} (hp:p):CJ W0 B g w'∧CT g w w'∧p:=⟨⟨h.1.trans hb,hc⟩,hb,hp⟩
theorem CJ.blk (h:CJ W0 B g w) {q:Nat} {t:TypeId} {cs:Array Value} (hb:Blk W0 q t cs) (hq:q≠g):Blk w q t cs:=hb.grown h.1 (fun e=>hq (by injection e))
theorem CJ.size (h:CJ W0 B g w):W0.heap.size≤w.heap.size:=h.1.size
theorem ZbG (h:Zaq w B g) {q:Nat} {t:TypeId} {cs:Array Value} (hb:Blk w q t cs) (ht:t≠87):q≠g:=by
 obtain ⟨A,m,c,bs,at_,h⟩:=h
 exact hb.ne_ h.1 ht
theorem Zbi (h:Zaq w B g) {base:Nat} {e:TypeId} {size n:Nat} {v:Value} {xs:List Value} (ho:w.ownsRow base e size v n xs) (ht:e≠87):v.ownBlock≠some g:=by
 obtain ⟨A,m,c,bs,at_,h⟩:=h
 exact Zad ho h.1 ht
theorem CT.blk (h:CT g w w') {q:Nat} {t:TypeId} {cs:Array Value} (hb:Blk w q t cs) (hq:q≠g):Blk w' q t cs:=hb.grown h (fun e=>hq (by injection e))
end
def ZbO (n:Int) (v:Value):Prop :=∃r:Int,v=.int .i64 r∧0≤r∧(r=0∨r < n)
theorem Zbn {W0 w:World} {B g:Nat} (h:CJ W0 B g w) (n:Int) (hn:n≤1000000000) (hn0:-1000000000≤n) {G:Value→Prop} (hG:∀ v,ZbO n v→G v) :
  Calls Tryz.prog 18 #[.pointer (some ⟨g,0,none⟩),.int .i64 n] w fun e w'=>∃ v,e=.returned v∧CJ W0 B g w'∧CT g w w'∧G v :=
 (Zav w B g n h.2 hn hn0).mono fun _ _ ⟨r,he,h0,h1,hc,hg⟩=>⟨_,he,h.codes hc hg (hG _ ⟨r,rfl,h0,h1⟩)⟩
section
variable {W0 w w':World} {B g:Nat}
theorem CJ.later (h:CJ W0 B g w) (hg:g < W0.heap.size) (hb:Below W0.heap.size w w'):CJ W0 B g w' :=
 ⟨⟨hb.os.trans h.1.os,hb.tape.trans h.1.tape,hb.output.trans h.1.output,Nat.le_trans h.1.size hb.size,fun i hi hne=>(hb.block i hi).trans (h.1.block i hi hne)⟩,h.2.keep fun b hbg=>hb.block b (by omega)⟩
theorem CJ.next (h:CJ W0 B g w) (hc:Zaq w' B g) (hb:w.grownBy w' (some g)):CJ W0 B g w':=⟨h.1.trans hb,hc⟩
theorem CJ.lt (h:CJ W0 B g w):g < w.heap.size:=h.2.lt
theorem Zap {base n size:Nat} {e:TypeId} {v:Value} {xs:List Value} (h:w.ownsRow base e size v n xs) (hb:w.grownBy w' (some g)) (hne:v.ownBlock≠some g):w'.ownsRow base e size v n xs:=h.kept hb (.inr hne)
end
theorem Zdv {r:Int} (h0:0≤r) (h1:r < 256) :∃b:UInt8,r=(b.toNat:Int):=⟨UInt8.ofNat r.toNat,by rw [UInt8.toNat_ofNat']; omega⟩
theorem bsV_snoc (bs:List UInt8) (b:UInt8):bsV (bs++[b])=bsV bs++[.int .u8 (b.toNat:Int)]:=by simp [bsV]
def ByP (w:World) (B g:Nat) (n:Nat) (e:Ending) (w':World):Prop :=
 ∃ v bs,e=.returned v∧bs.length≤n∧w'.ownsRow w.heap.size 5 1 v bs.length (bsV bs)∧CJ w B g w'
set_option maxRecDepth 100000 in
set_option maxHeartbeats 1000000 in
theorem ZcH (w:World) (B g n:Nat) (h:Zaq w B g) (hn:n≤1000):Calls Tryz.prog 65 #[.pointer (some ⟨g,0,none⟩),.int .i64 (n:Int)] w (ByP w B g n):=by
 obtain ⟨i0,hi,hz0,hz1,hz2⟩:=info_parts ZcF
 have hgl:=h.lt
 have HC:=jd h
 clear h
 go_enter Tryz.func65,Tryz.ntmps65
 go_wp2_with fail
 refine (Zav w B g ((n:Int)+1) (uh HC) (by omega) (by omega)).mono ?_
 rintro e w1 ⟨r,rfl,hr0,hr1,hc1,hg1⟩
 have HJ:=jd ((CJ.start (uh HC)).next hc1 hg1)
 obtain ⟨k0,rfl⟩ :∃k0:Nat,r=(k0:Int):=⟨r.toNat,by omega⟩
 have hk0:k0≤n:=by omega
 clear hc1 hg1 HC hr1
 go_wp2_with fail
 go_loopw [5,6] (fun v i wr=>∃ (k:Nat) (bs:List UInt8),k+bs.length≤n∧i=.int .i64 (k:Int)∧wr.ownsRow w.heap.size 5 1 v bs.length (bsV bs)∧CJ w B g wr) (fun _ i _=>(intOf i).toNat)
 case atStart=>exact ⟨k0,[],by simpa using hk0,rfl,World.ownsRow_nil _ _ _ _,uh HJ⟩
 case round =>
  obtain ⟨k,bs,hk,rfl,hown,hj⟩:=hrel
  have HO:=jd hown
  have HJ2:=jd hj
  have hsz:=hj.size
  have hbl:bs.length≤1000:=by omega
  clear hown hj HJ
  rcases Nat.eq_zero_or_pos k with rfl | hlt
  ·go_wp2_with fail
   go_ret
   exact ⟨_,bs,rfl,by omega,uh HO,uh HJ2⟩
  ·have hk1:(0:Int) < (k:Int):=by omega
   go_wp2_with fail
   refine (Zav wr B g 256 (uh HJ2).2 (by decide) (by decide)).mono ?_
   rintro e w2 ⟨r,rfl,hr0,hr1,hc2,hg2⟩
   obtain ⟨b,rfl⟩:=Zdv hr0 (show r < 256 by omega)
   have HO2:=jd (Zap (uh HO) hg2 (Zbi (uh HJ2).2 (uh HO) (by decide)))
   have HJ3:=jd ((uh HJ2).next hc2 hg2)
   have hs2:wr.heap.size≤w2.heap.size:=hg2.size
   have hb255:(b.toNat:Int) < 256:=by have:=b.toNat_lt; omega
   have hwb:IntKind.u8.wrap (b.toNat:Int)=(b.toNat:Int):=by rw [IntKind.wrap_u8]; omega
   clear hc2 hg2 hr1 HO HJ2
   go_wp2_with (at_builtin; refine ZcT _ rfl (.tmp 15) (.tmp 19) 22 rfl w.heap.size 5 i0 _ 1 Tryz.underlying22 hi hz0 hz1 hz2 rfl _ bs.length (bsV bs) rfl (uh HO2) _ rfl (by rfl) (by unfold maxLen; omega) (by omega) (by omega) ?_; intro v' w3 hown3 hbel3)
   go_roundw
   case rel=>exact ⟨k - 1,bs++[b],by simp; omega,by congr 1; omega,by rw [bsV_snoc,List.length_append]; exact hown3,(uh HJ3).later hgl hbel3⟩
   case measure=>simp [intOf]; omega
def strV (l:List (List UInt8)):List Value:=l.map fun s=>.string ⟨s.toArray⟩
def nmsL:List (List UInt8):=[[98,105,111,115],[99,112,108,100],[109,101],[112,115,117],[120,45,49],[122,122]]
def oddL:List (List UInt8):=[[],[66,105,111,115],[49,97],[97,95,98],[97,98,99,100,101,102,103,104,105,106,107,108,109,110,111,112,113],[45,97]]
theorem run_nms (w:World):(Instr.buildSlice 107 6 #[(0,.string ⟨#[98,105,111,115]⟩),(1,.string ⟨#[99,112,108,100]⟩),(2,.string ⟨#[109,101]⟩),(3,.string ⟨#[112,115,117]⟩),(4,.string ⟨#[120,45,49]⟩),(5,.string ⟨#[122,122]⟩)]).run Tryz.prog w=.ok (.slice (some ⟨w.heap.size,0,none⟩) 6 6) (w.alloc (.cells (strV nmsL).toArray 9)):=by kernel_rfl
theorem names_cx (w:World):Calls Tryz.prog 59 #[] w fun e w'=>e=.returned (.slice (some ⟨w.heap.size,0,none⟩) 6 6)∧w'=w.alloc (.cells (strV nmsL).toArray 9):=by
 go_enter Tryz.func59,Tryz.ntmps59
 go_wp2_with fail
 go_ret
 exact ⟨rfl,rfl⟩
def NmP (w:World) (B g:Nat) (e:Ending) (w':World):Prop :=∃s:List UInt8,e=.returned (.string ⟨s.toArray⟩)∧s.length≤17∧CJ w B g w'
theorem nms_get (L:List (List UInt8)) (hL:L.length=6) (h:∀ s∈L,s.length≤17) (i:Nat) (hi:i < 6) :∃s:List UInt8,(strV L).toArray[i]?=some (.string ⟨s.toArray⟩)∧s.length≤17:=by
 refine ⟨L[i]'(by omega),by simp [strV,hL,hi],h _ (List.getElem_mem _)⟩
set_option maxRecDepth 100000 in
set_option maxHeartbeats 1000000 in
theorem name_cx (w:World) (B g:Nat) (h:Zaq w B g):Calls Tryz.prog 17 #[.pointer (some ⟨g,0,none⟩)] w (NmP w B g):=by
 have hgl:=h.lt
 have HC:=jd h
 clear h
 go_enter Tryz.func17,Tryz.ntmps17
 go_wp2_with fail
 refine (Zav w B g 24 (uh HC) (by decide) (by decide)).mono ?_
 rintro e w1 ⟨r,rfl,hr0,hr1,hc1,hg1⟩
 have HJ:=jd ((CJ.start (uh HC)).next hc1 hg1)
 clear hc1 hg1 HC
 by_cases h23:r=23
 ·have e1:(r==23)=true:=by simp [h23]
  clear h23 hr1
  go_wp2_with fail
  obtain ⟨W,hW⟩ :∃W,w1.alloc (.cells (strV oddL).toArray 9)=W:=⟨_,rfl⟩
  have hbl:Below w1.heap.size w1 W:=hW ▸ (Below.refl _ _).alloc (Nat.le_refl _) _
  have HJ2:=jd ((uh HJ).later hgl (hbl.mono (uh HJ).size))
  have hq:=(hW ▸ Blk.new w1 _ _:Blk W w1.heap.size 9 (strV oddL).toArray)
  have HQ:=jd hq
  have hW2:w1.alloc (.cells #[.string ⟨#[]⟩,.string ⟨#[66,105,111,115]⟩,.string ⟨#[49,97]⟩,.string ⟨#[97,95,98]⟩,.string ⟨#[97,98,99,100,101,102,103,104,105,106,107,108,109,110,111,112,113]⟩,.string ⟨#[45,97]⟩] 9)=W:=hW
  rw [hW2]
  clear hW hW2 hbl hq
  refine (Zav W B g 6 (uh HJ2).2 (by decide) (by decide)).mono ?_
  rintro e w2 ⟨r,rfl,hr0,hr1,hc2,hg2⟩
  obtain ⟨k,rfl⟩ :∃k:Nat,r=(k:Int):=⟨r.toNat,by omega⟩
  have hk6:k < 6:=by omega
  obtain ⟨s,hs1,hs2⟩:=nms_get oddL rfl (by decide) k hk6
  have HJ3:=jd ((uh HJ2).next hc2 hg2)
  have hcell:w2.cell? ⟨w1.heap.size,k,none⟩=some (.string ⟨s.toArray⟩):=by
   rw [((uh HQ).grown hg2 (fun e=>(ZbG (uh HJ2).2 (uh HQ) (by decide)) (by injection e))).cell]
   exact hs1
  clear hc2 hg2 hs1 hr1
  go_wp2_with fail
  go_ret
  exact ⟨s,rfl,hs2,uh HJ3⟩
 ·have e1:(r==23)=false:=by simp [h23]
  clear h23 hr1
  go_wp2_with fail
  refine (names_cx w1).mono ?_
  rintro e W ⟨rfl,hW⟩
  have hbl:Below w1.heap.size w1 W:=hW ▸ (Below.refl _ _).alloc (Nat.le_refl _) _
  have HJ2:=jd ((uh HJ).later hgl (hbl.mono (uh HJ).size))
  have HQ:=jd (hW ▸ Blk.new w1 _ _:Blk W w1.heap.size 9 (strV nmsL).toArray)
  clear hW hbl
  go_wp2_with fail
  refine (Zav W B g 6 (uh HJ2).2 (by decide) (by decide)).mono ?_
  rintro e w2 ⟨r,rfl,hr0,hr1,hc2,hg2⟩
  obtain ⟨k,rfl⟩ :∃k:Nat,r=(k:Int):=⟨r.toNat,by omega⟩
  have hk6:k < 6:=by omega
  obtain ⟨s,hs1,hs2⟩:=nms_get nmsL rfl (by decide) k hk6
  have HJ3:=jd ((uh HJ2).next hc2 hg2)
  have hcell:w2.cell? ⟨w1.heap.size,k,none⟩=some (.string ⟨s.toArray⟩):=by
   rw [((uh HQ).grown hg2 (fun e=>(ZbG (uh HJ2).2 (uh HQ) (by decide)) (by injection e))).cell]
   exact hs1
  clear hc2 hg2 hs1 hr1
  go_wp2_with fail
  go_ret
  exact ⟨s,rfl,hs2,uh HJ3⟩
def Zc4 (w:World) (base:Nat) (V:List Value) (L:List (List UInt8)):Prop :=
 V.length=L.length∧∀ (k:Nat) (l:List UInt8),L[k]?=some l→∃ v,V[k]?=some v∧w.ownsRow base 5 1 v l.length (bsV l)
theorem Zc4.nil (w:World) (base:Nat):Zc4 w base [] []:=⟨rfl,fun k l h=>by simp at h⟩
theorem Zc4.push {w:World} {base:Nat} {V:List Value} {L:List (List UInt8)} {v:Value} {l:List UInt8} (h:Zc4 w base V L) (hv:w.ownsRow base 5 1 v l.length (bsV l)):Zc4 w base (V++[v]) (L++[l]):=by
 refine ⟨by simp [h.1],fun k l' hl=>?_⟩
 by_cases hk:k < L.length
 ·rw [List.getElem?_append_left hk] at hl
  obtain ⟨v',h1,h2⟩:=h.2 k l' hl
  exact ⟨v',by rw [List.getElem?_append_left (by rw [h.1]; exact hk)]; exact h1,h2⟩
 ·have hk2:k=L.length:=by
   have:=(List.getElem?_eq_some_iff.1 hl).1
   simp at this
   omega
  subst hk2
  obtain rfl:l=l':=by simpa using hl
  exact ⟨v,by rw [← h.1]; simp,hv⟩
theorem Za9 {w:World} {b1 b2:Nat} {e1 e2:TypeId} {s1 s2 n1 n2:Nat} {v1 v2:Value} {x1 x2:List Value} (h1:w.ownsRow b1 e1 s1 v1 n1 x1) (h2:w.ownsRow b2 e2 s2 v2 n2 x2) (hne:e1≠e2):v1.ownBlock=none∨v1.ownBlock≠v2.ownBlock:=by
 rcases h1.2 with ⟨rfl,_⟩ | ⟨g1,cap1,cur1,rfl,_,hh1,_⟩
 · exact .inl rfl
 ·right
  rcases h2.2 with ⟨rfl,_⟩ | ⟨g2,cap2,cur2,rfl,_,hh2,_⟩
  · simp [Value.ownBlock]
  ·intro he
   have:g1=g2:=by simpa [Value.ownBlock] using he
   subst this
   rw [hh1] at hh2
   injection hh2 with hh2
   injection hh2 with _ hh2 _
   exact hne hh2
theorem Zc4.kept {w w':World} {base b2 n2 s2:Nat} {e2:TypeId} {v2:Value} {x2:List Value} {V:List Value} {L:List (List UInt8)} (h:Zc4 w base V L) (hg:w.grownBy w' v2.ownBlock) (h2:w.ownsRow b2 e2 s2 v2 n2 x2) (hne:5≠e2):Zc4 w' base V L :=
 ⟨h.1,fun k l hl=>by
  obtain ⟨v,h3,h4⟩:=h.2 k l hl
  exact ⟨v,h3,h4.kept hg (Za9 h4 h2 hne)⟩⟩
theorem Zc4.stored {w w':World} {base g:Nat} {t:TypeId} {cs:Array Value} {V:List Value} {L:List (List UInt8)} (h:Zc4 w base V L) (hg:w.grownBy w' (some g)) (hb:Blk w g t cs) (hne:5≠t):Zc4 w' base V L :=
 ⟨h.1,fun k l hl=>by
  obtain ⟨v,h3,h4⟩:=h.2 k l hl
  exact ⟨v,h3,h4.kept hg (.inr (Zad h4 hb hne))⟩⟩
theorem Zc4.below {w w':World} {base:Nat} {V:List Value} {L:List (List UInt8)} (h:Zc4 w base V L) (hb:Below w.heap.size w w'):Zc4 w' base V L :=
 ⟨h.1,fun k l hl=>by
  obtain ⟨v,h3,h4⟩:=h.2 k l hl
  exact ⟨v,h3,Zam h4 hb⟩⟩
end Go.Proofs.YtfbkkmnkpjgciaaGreat
