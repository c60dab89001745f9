/- Joined of SPart SBegin SAnswer. No condition. -/
import Derived.Test.YtfbkkmnkpjgciaaGreatPG07
namespace Go.Proofs.YtfbkkmnkpjgciaaGreat
open Go.RowKit
section
variable {P:Program} {w:World} {g:Nat} {t:TypeId} {cs:Array Value}
theorem ZdP (ty:TypeId) (j:Nat) (v:Value) (vs:List Value) (cs':List Value) (h:Blk w g t cs) (hv:v.cells.toList=vs) (hfit:j+vs.length≤cs.size) (hi:(P.info? ty).map (·.size)=some vs.length) (h1:∀ u∈vs,u.oneCell'=true)
  (hcs:cs.toList.take j++vs++cs.toList.drop (j+vs.length)=cs'):(storeVar ty ⟨g,j,none⟩ v).run P w=.ok () (w.setRow g cs'.toArray):=by
 have hst:=Zbs (P:=P) g j t (0,0) vs 0 cs w h (fun j _ hh=>by omega) (by omega) h1
 simp only [Nat.add_zero] at hst
 rw [hcs] at hst
 cases hq:P.info? ty with
 | none=>simp [hq] at hi
 |some i =>
  have hs:v.cells.size=i.size:=by
   have:v.cells.size=vs.length:=by rw [← hv]; simp
   simp [hq] at hi; omega
  simp [storeVar,sizeOf,typeInfo,hq,hs,hv,hst]
theorem run_load_part (ty:TypeId) (o:Nat) (part:List Value) (d:TypeDesc) (h:Blk w g t cs) (hp:∀ (j:Nat) v,part[j]?=some v→cs[o+j]?=some v) (hu:P.underlying ty=some d) (hd:d.isRow=true) (hi:(P.info? ty).map (·.size)=some part.length) :
  (loadVar ty ⟨g,o,none⟩).run P w=.ok (.agg part.toArray) w :=
 run_loadVar_mid w g o ty part d (fun j v hv=>by rw [h.cell]; exact hp j v hv) hu hd hi
end
section
variable {P:Program} {ops:Array Oper} {rest:List Oper} {op:Oper} {a:Act} {w:World} {Q:Exit→Act→World→Prop}
theorem Zal (hgd:op.guard=none) (ty:TypeId) (x y:Operand) (ho:op.op=.store ty x y) (g j:Nat) (t:TypeId) (cs:Array Value) (v:Value) (vs cs':List Value) (hx:a.eval x=.pointer (some ⟨g,j,none⟩)) (hy:a.eval y=v)
  (h:Blk w g t cs) (hv:v.cells.toList=vs) (hfit:j+vs.length≤cs.size) (hi:(P.info? ty).map (·.size)=some vs.length) (h1:∀ u∈vs,u.oneCell'=true) (hcs:cs.toList.take j++vs++cs.toList.drop (j+vs.length)=cs')
  (hk:∀ w',Blk w' g t cs'.toArray→w.grownBy w' (some g)→wpList P ops Q rest (a.put op.dst undef) w'):wpList P ops Q (op::rest) a w:=by
 refine wpList_plain hgd fun _ hK=>?_
 have hs:=ZdP (P:=P) ty j v vs cs' h hv hfit hi h1 hcs
 unfold Oper.wp execOp
 simp only [ho,hx,hy,Instr.storeAt,Instr.sureAddr,Sem.run_bind,Sem.run_pure,Result.andThen_ok,hs]
 have hb:=Zcx (cs':=cs'.toArray) h
 exact hK _ _ (hk _ hb.1 hb.2)
theorem Zbe (hgd:op.guard=none) (ty:TypeId) (x:Operand) (ho:op.op=.load ty x) (g o:Nat) (t:TypeId) (cs:Array Value) (part:List Value) (d:TypeDesc) (hx:a.eval x=.pointer (some ⟨g,o,none⟩))
  (h:Blk w g t cs) (hp:∀ (j:Nat) v,part[j]?=some v→cs[o+j]?=some v) (hu:P.underlying ty=some d) (hd:d.isRow=true) (hi:(P.info? ty).map (·.size)=some part.length)
  (hk:wpList P ops Q rest (a.put op.dst (.agg part.toArray)) w):wpList P ops Q (op::rest) a w :=
 wpList_load_mid hgd ty x ho g o hx part d (fun j v hv=>by rw [h.cell]; exact hp j v hv) hu hd hi hk
end
section
variable {P:Program} {l:List Oper} {S:World→Prop} {a:Act} {o:Oper}
theorem Zao {w:World} {K:Act→World→Prop} {Q:Exit→Act→World→Prop} {E:Prop} (hw:Region.wanted o (yielded l.toArray a.tmps)=true) (ty:TypeId) (x y:Operand) (ho:o.op=.store ty x y) (g j:Nat) (t:TypeId) (cs:Array Value) (v:Value) (vs cs':List Value) (hx:a.eval x=.pointer (some ⟨g,j,none⟩)) (hy:a.eval y=v)
  (h:Blk w g t cs) (hv:v.cells.toList=vs) (hfit:j+vs.length≤cs.size) (hi:(P.info? ty).map (·.size)=some vs.length) (h1:∀ u∈vs,u.oneCell'=true) (hcs:cs.toList.take j++vs++cs.toList.drop (j+vs.length)=cs')
  (hk:∀ w',Blk w' g t cs'.toArray→w.grownBy w' (some g)→K (a.put o.dst undef) w'):if Region.wanted o (yielded l.toArray a.tmps)=true then Oper.wp P o a w K Q else E:=by
 rw [if_pos hw]
 have hs:=ZdP (P:=P) ty j v vs cs' h hv hfit hi h1 hcs
 unfold Oper.wp execOp
 simp only [ho,hx,hy,Instr.storeAt,Instr.sureAddr,Sem.run_bind,Sem.run_pure,Result.andThen_ok,hs]
 have hb:=Zcx (cs':=cs'.toArray) h
 exact hk _ hb.1 hb.2
theorem Zcc (ty:TypeId) (x:Operand) (hw:Region.wanted o (yielded l.toArray a.tmps)=true) (ho:o.op=.load ty x) (g off:Nat) (hx:a.eval x=.pointer (some ⟨g,off,none⟩)) (t:TypeId) (cs:Array Value) (part:List Value) (d:TypeDesc) (hg:∀ w,S w→Blk w g t cs)
  (hp:∀ (j:Nat) v,part[j]?=some v→cs[off+j]?=some v) (hu:P.underlying ty=some d) (hd:d.isRow=true) (hi:(P.info? ty).map (·.size)=some part.length):YieldsIf P l.toArray S o (.agg part.toArray) a :=
 yieldsIf_load_mid hw ty x ho g off hx part d (fun w hS j v hv=>by rw [(hg w hS).cell]; exact hp j v hv) hu hd hi
end
theorem Za5 :∃d,Tryz.prog.underlying 46=some d∧d.isRow=true:=⟨_,Tryz.underlying46,rfl⟩
theorem ZaV (ks:List UInt8) (hk:ks.length=16):(Tryz.prog.info? 46).map (·.size)=some (bsV ks).length:=by
 have e:=Zbo hk
 rw [List.size_toArray] at e
 exact e
theorem one1 {v:Value} (h:v.oneCell'=true):∀ u∈[v],u.oneCell'=true:=by
 intro u hu; simp at hu; subst hu; exact h
section
variable {c:Cli} (h:c.Ok)
include h
theorem Cli.set_id (x:Nat):c.cs.toArray.toList.take 20++[.int .u32 (x:Int)]++c.cs.toArray.toList.drop (20+[Value.int .u32 (x:Int)].length)={ c with id:=x }.cs:=by
 obtain ⟨a0,a1,a2,a3,a4,a5,a6,a7,a8,a9,a10,a11,a12,a13,a14,a15,b0,b1,b2,b3,b4,b5,b6,b7,b8,b9,b10,b11,b12,b13,b14,b15,e1,e2⟩:=c.open_ h
 obtain ⟨user,key,level,nonce,server,id,sess,opn,hi,se,out⟩:=c
 dsimp only at e1 e2
 subst e1 e2
 rfl
theorem Cli.set_server (x:Nat):c.cs.toArray.toList.take 19++[.int .u64 (x:Int)]++c.cs.toArray.toList.drop (19+[Value.int .u64 (x:Int)].length)={ c with server:=x }.cs:=by
 obtain ⟨a0,a1,a2,a3,a4,a5,a6,a7,a8,a9,a10,a11,a12,a13,a14,a15,b0,b1,b2,b3,b4,b5,b6,b7,b8,b9,b10,b11,b12,b13,b14,b15,e1,e2⟩:=c.open_ h
 obtain ⟨user,key,level,nonce,server,id,sess,opn,hi,se,out⟩:=c
 dsimp only at e1 e2
 subst e1 e2
 rfl
theorem Cli.set_opn (x:Bool):c.cs.toArray.toList.take 37++[.bool x]++c.cs.toArray.toList.drop (37+[Value.bool x].length)={ c with opn:=x }.cs:=by
 obtain ⟨a0,a1,a2,a3,a4,a5,a6,a7,a8,a9,a10,a11,a12,a13,a14,a15,b0,b1,b2,b3,b4,b5,b6,b7,b8,b9,b10,b11,b12,b13,b14,b15,e1,e2⟩:=c.open_ h
 obtain ⟨user,key,level,nonce,server,id,sess,opn,hi,se,out⟩:=c
 dsimp only at e1 e2
 subst e1 e2
 rfl
theorem Cli.set_out (x:Nat):c.cs.toArray.toList.take 40++[.int .u32 (x:Int)]++c.cs.toArray.toList.drop (40+[Value.int .u32 (x:Int)].length)={ c with out:=x }.cs:=by
 obtain ⟨a0,a1,a2,a3,a4,a5,a6,a7,a8,a9,a10,a11,a12,a13,a14,a15,b0,b1,b2,b3,b4,b5,b6,b7,b8,b9,b10,b11,b12,b13,b14,b15,e1,e2⟩:=c.open_ h
 obtain ⟨user,key,level,nonce,server,id,sess,opn,hi,se,out⟩:=c
 dsimp only at e1 e2
 subst e1 e2
 rfl
theorem Cli.set_win (x y:Nat):c.cs.toArray.toList.take 38++[.int .u32 (x:Int),.int .u32 (y:Int)]++c.cs.toArray.toList.drop (38+[Value.int .u32 (x:Int),.int .u32 (y:Int)].length)={ c with hi:=x,se:=y }.cs:=by
 obtain ⟨a0,a1,a2,a3,a4,a5,a6,a7,a8,a9,a10,a11,a12,a13,a14,a15,b0,b1,b2,b3,b4,b5,b6,b7,b8,b9,b10,b11,b12,b13,b14,b15,e1,e2⟩:=c.open_ h
 obtain ⟨user,key,level,nonce,server,id,sess,opn,hi,se,out⟩:=c
 dsimp only at e1 e2
 subst e1 e2
 rfl
theorem Cli.set_sess (x:List UInt8) (hx:x.length=16):c.cs.toArray.toList.take 21++bsV x++c.cs.toArray.toList.drop (21+(bsV x).length)={ c with sess:=x }.cs:=by
 obtain ⟨a0,a1,a2,a3,a4,a5,a6,a7,a8,a9,a10,a11,a12,a13,a14,a15,b0,b1,b2,b3,b4,b5,b6,b7,b8,b9,b10,b11,b12,b13,b14,b15,e1,e2⟩:=c.open_ h
 obtain ⟨d0,d1,d2,d3,d4,d5,d6,d7,d8,d9,d10,d11,d12,d13,d14,d15,rfl⟩:=ZdM x hx
 obtain ⟨user,key,level,nonce,server,id,sess,opn,hi,se,out⟩:=c
 dsimp only at e1 e2
 subst e1 e2
 rfl
end
def Zdm (u:List UInt8) (lb:UInt8) (n:Nat):List UInt8:=Zbh 1 [leB (n:Int) 8,[lb],u]
theorem Zev (u:List UInt8) (lb:UInt8) (n:Nat):(Zdm u lb n).length=10+u.length:=by simp [Zdm,Zbh,Zbr]; omega
def ZbF (u ks:List UInt8) (l:Int) (n:Nat):Cli:=⟨u,ks,l,n,0,0,z16,false,0,0,0⟩
theorem ZcZ {u ks:List UInt8} {l:Int} {n:Nat} (hu:u.length≤maxLen) (hk:ks.length=16) (hn:n < 18446744073709551616):(ZbF u ks l n).Ok :=
 ⟨hu,hk,rfl,hn,by show 0 < 18446744073709551616; omega,by show 0 < 4294967296; omega,by show 0 < 4294967296; omega,by show 0 < 4294967296; omega,by show 0 < 4294967296; omega⟩
def BegR (B:Nat) (u:List UInt8) (lb:UInt8) (n:Nat):Nat→Value→World→Prop
 | 2,v,w=>ZaR w 8 (leB (n:Int) 8) v
 | 5,v,w=>ZaR w 1 [lb] v
 | 7,v,w=>ZaR w u.length u v
 | 8,v,w=>Zbx w 3 [leB (n:Int) 8,[lb],u] v
 | 9,v,w=>Zdn B w (10+u.length) (Zdm u lb n) v
 | _,_,_=>True
theorem BegR.keep {B:Nat} {u:List UInt8} {lb:UInt8} {n:Nat}:∀ (k:Nat) (v:Value) (w w':World),BegR B u lb n k v w→Below w.heap.size w w'→BegR B u lb n k v w':=by
 intro k v w w' h hb
 unfold BegR at *
 split at h
 · exact h.below hb
 · exact h.below hb
 · exact h.below hb
 · exact h.below hb
 · exact h.below hb
 · trivial
theorem Zd4 {u:List UInt8} (h:ZbC u=true):u.length≤16:=by
 unfold ZbC at h
 simp only [Bool.and_eq_true,decide_eq_true_eq] at h
 exact h.2.1
def ZcQ (w:World) (c:Cli) (b:List UInt8) (e:Ending) (w':World):Prop :=
 ∃ v,e=.returned (.tuple #[.agg c.cs.toArray,v,.int .i64 0])∧w'.ownsRow w.heap.size 5 1 v b.length (bsV b)∧Below w.heap.size w w'
def ErrC (w:World) (x:Int) (e:Ending) (w':World):Prop:=e=.returned (.tuple #[.agg zCli.cs.toArray,.slice none 0 0,.int .i64 x])∧Below w.heap.size w w' 
set_option maxRecDepth 100000 in
set_option maxHeartbeats 4000000 in
theorem begin_name (w:World) (u ks:List UInt8) (hu:u.length≤maxLen) (hk:ks.length=16) (l:Int) (n:Nat) (hn:n < 18446744073709551616) (hno:ZbC u=false) :
  Calls Tryz.prog 19 #[.string ⟨u.toArray⟩,.agg (bsV ks).toArray,.int .i64 l,.int .u64 (n:Int)] w (ErrC w 1):=by
 have HNO:=jd hno
 clear hno
 obtain ⟨W2,hW2⟩ :∃W2,(w.alloc (.cells (bsV ks).toArray 46)).alloc (.cells zCli.cs.toArray 65)=W2:=⟨_,rfl⟩
 have K0:Hid (Blk ((w.alloc (.cells (bsV ks).toArray 46)).alloc (.cells zCli.cs.toArray 65)) w.heap.size 46 (bsV ks).toArray):=jd ((Blk.new w 46 (bsV ks).toArray).alloc _)
 have K1:Hid (Blk ((w.alloc (.cells (bsV ks).toArray 46)).alloc (.cells zCli.cs.toArray 65)) (w.heap.size+1) 65 zCli.cs.toArray):=jd (Blk.new' (by simp))
 have K2:Hid (Blk (((w.alloc (.cells (bsV ks).toArray 46)).alloc (.cells zCli.cs.toArray 65)).alloc (.cells zCli.cs.toArray 65)) (w.heap.size+2) 65 zCli.cs.toArray):=jd (Blk.new' (by simp))
 have B2:Hid (Below w.heap.size w ((w.alloc (.cells (bsV ks).toArray 46)).alloc (.cells zCli.cs.toArray 65))):=jd (((Below.refl _ _).alloc (Nat.le_refl _) _).alloc (by rw [Zae]; omega) _)
 have B2a:=jd ((uh B2).alloc (uh B2).size (.cells zCli.cs.toArray 65))
 have HSZ:=jd (Zbo hk)
 have HK:=jd hk
 have HOK:=jd (ZcZ (l:=l) hu hk hn)
 have HW2:=jd hW2
 have HU:=jd hu
 have BC:Hid (Tryz.prog.built 65 [(0,.string ⟨u.toArray⟩),(1,.agg (bsV ks).toArray),(2,.int .i64 l),(3,.int .u64 (n:Int))]=some (ZbF u ks l n).cs.toArray):=jd (Zes u ks hk l n)
 clear hk hW2 hu hn
 go_enter Tryz.func19,Tryz.ntmps19
 go_upto_region 2 with (first
  | (refine Zag rfl 65 rfl _ (w.heap.size+1) (Zae w _) (Zaz _) ?_)
  | (refine Zag rfl 65 rfl _ (w.heap.size+2) (Zb2 w _ _) (Zaz _) ?_)
  | (refine wpList_load_row rfl 46 _ rfl w.heap.size rfl 46 _ _ _ (uh K0) Tryz.underlying46 rfl (uh HSZ) ?_)
  | (refine Zab rfl 65 _ rfl [(0,.string ⟨u.toArray⟩),(1,.agg (bsV ks).toArray),(2,.int .i64 l),(3,.int .u64 (n:Int))] rfl _ (uh BC) ?_)
  |(refine Zaa rfl 65 (.tmp 11) (.tmp 16) rfl (w.heap.size+2) 65 _ (ZbF u ks l n).cs.toArray rfl rfl (uh K2) (Cli.size_eq (uh HOK)) (Zai (uh HOK)) (fun v hv=>Cli.one v (by simpa using hv)) ?_
    intro W3 hb3 hg3
    have Z3:=jd hb3
    have Q1:=jd (((uh K1).alloc (.cells zCli.cs.toArray 65)).grown hg3 (fun e=>by injection e with e; omega))
    have B3:=jd (gWz (uh B2a) hg3)
    clear hb3 hg3)
  | fail)
 go_wp2_with fail
 refine (Za3 _ u (uh HU) false (uh HNO)).mono ?_
 rintro e w4 ⟨rfl,rfl⟩
 have Q9:=Q1
 have B9:=B3
 go_wp2_with (first
   | (refine Zab rfl 65 _ rfl [] rfl _ Zax ?_)
   |(refine Zaa rfl 65 (.tmp 8) (.tmp 20) rfl (w.heap.size+1) 65 _ zCli.cs.toArray rfl rfl (uh Q9) rfl (Zai Zau) (fun v hv=>Cli.one v (by simpa using hv)) ?_
     intro w9 hb9 hg9
     have Z9:=jd hb9
     have E9:=jd (gWz (uh B9) hg9)
     clear hb9 hg9)
   | fail)
 exact bodyPost_ret (v:=.tuple #[.agg zCli.cs.toArray,.slice none 0 0,.int .i64 1]) (Za4 rfl _ (w.heap.size+1) 65 _ _ _ _ rfl rfl rfl (uh Z9) Tryz.underlying65 rfl (Zai Zau)) rfl (show ErrC w 1 _ _ from ⟨rfl,uh E9⟩)
set_option maxRecDepth 100000 in
set_option maxHeartbeats 4000000 in
theorem begin_level (w:World) (u ks:List UInt8) (hu:u.length≤maxLen) (hk:ks.length=16) (l:Int) (n:Nat) (hn:n < 18446744073709551616) (hnm:ZbC u=true) (hl:decide (1≤l∧l≤3)=false) :
  Calls Tryz.prog 19 #[.string ⟨u.toArray⟩,.agg (bsV ks).toArray,.int .i64 l,.int .u64 (n:Int)] w (ErrC w 2):=by
 have HNM:=jd hnm
 have HCF:Hid (cliF (ZbF u ks l n)=false):=jd (by unfold cliF; rw [show ZbC (ZbF u ks l n).user=true from hnm]; exact hl)
 clear hnm hl
 obtain ⟨W2,hW2⟩ :∃W2,(w.alloc (.cells (bsV ks).toArray 46)).alloc (.cells zCli.cs.toArray 65)=W2:=⟨_,rfl⟩
 have K0:Hid (Blk ((w.alloc (.cells (bsV ks).toArray 46)).alloc (.cells zCli.cs.toArray 65)) w.heap.size 46 (bsV ks).toArray):=jd ((Blk.new w 46 (bsV ks).toArray).alloc _)
 have K1:Hid (Blk ((w.alloc (.cells (bsV ks).toArray 46)).alloc (.cells zCli.cs.toArray 65)) (w.heap.size+1) 65 zCli.cs.toArray):=jd (Blk.new' (by simp))
 have K2:Hid (Blk (((w.alloc (.cells (bsV ks).toArray 46)).alloc (.cells zCli.cs.toArray 65)).alloc (.cells zCli.cs.toArray 65)) (w.heap.size+2) 65 zCli.cs.toArray):=jd (Blk.new' (by simp))
 have B2:Hid (Below w.heap.size w ((w.alloc (.cells (bsV ks).toArray 46)).alloc (.cells zCli.cs.toArray 65))):=jd (((Below.refl _ _).alloc (Nat.le_refl _) _).alloc (by rw [Zae]; omega) _)
 have B2a:=jd ((uh B2).alloc (uh B2).size (.cells zCli.cs.toArray 65))
 have HSZ:=jd (Zbo hk)
 have HK:=jd hk
 have HOK:=jd (ZcZ (l:=l) hu hk hn)
 have HW2:=jd hW2
 have HU:=jd hu
 have BC:Hid (Tryz.prog.built 65 [(0,.string ⟨u.toArray⟩),(1,.agg (bsV ks).toArray),(2,.int .i64 l),(3,.int .u64 (n:Int))]=some (ZbF u ks l n).cs.toArray):=jd (Zes u ks hk l n)
 clear hk hW2 hu hn
 go_enter Tryz.func19,Tryz.ntmps19
 go_upto_region 2 with (first
  | (refine Zag rfl 65 rfl _ (w.heap.size+1) (Zae w _) (Zaz _) ?_)
  | (refine Zag rfl 65 rfl _ (w.heap.size+2) (Zb2 w _ _) (Zaz _) ?_)
  | (refine wpList_load_row rfl 46 _ rfl w.heap.size rfl 46 _ _ _ (uh K0) Tryz.underlying46 rfl (uh HSZ) ?_)
  | (refine Zab rfl 65 _ rfl [(0,.string ⟨u.toArray⟩),(1,.agg (bsV ks).toArray),(2,.int .i64 l),(3,.int .u64 (n:Int))] rfl _ (uh BC) ?_)
  |(refine Zaa rfl 65 (.tmp 11) (.tmp 16) rfl (w.heap.size+2) 65 _ (ZbF u ks l n).cs.toArray rfl rfl (uh K2) (Cli.size_eq (uh HOK)) (Zai (uh HOK)) (fun v hv=>Cli.one v (by simpa using hv)) ?_
    intro W3 hb3 hg3
    have Z3:=jd hb3
    have Q1:=jd (((uh K1).alloc (.cells zCli.cs.toArray 65)).grown hg3 (fun e=>by injection e with e; omega))
    have B3:=jd (gWz (uh B2a) hg3)
    clear hb3 hg3)
  | fail)
 go_wp2_with fail
 refine (Za3 _ u (uh HU) true (uh HNM)).mono ?_
 rintro e w4 ⟨rfl,rfl⟩
 go_wp2_with (first
  | (refine wpList_load_row rfl 65 _ rfl (w.heap.size+2) rfl 65 _ _ _ (uh Z3) Tryz.underlying65 rfl (Zai (uh HOK)) ?_)
  | fail)
 refine (Zcb _ _ (uh HOK) false (uh HCF)).mono ?_
 rintro e w5 ⟨rfl,hb5⟩
 have Q9:=jd ((uh Q1).below hb5 (uh Q1).lt)
 have B9:=jd ((uh B3).trans (hb5.mono (uh B3).size))
 clear hb5
 go_wp2_with (first
   | (refine Zab rfl 65 _ rfl [] rfl _ Zax ?_)
   |(refine Zaa rfl 65 (.tmp 8) (.tmp 24) rfl (w.heap.size+1) 65 _ zCli.cs.toArray rfl rfl (uh Q9) rfl (Zai Zau) (fun v hv=>Cli.one v (by simpa using hv)) ?_
     intro w9 hb9 hg9
     have Z9:=jd hb9
     have E9:=jd (gWz (uh B9) hg9)
     clear hb9 hg9)
   | fail)
 exact bodyPost_ret (v:=.tuple #[.agg zCli.cs.toArray,.slice none 0 0,.int .i64 2]) (Za4 rfl _ (w.heap.size+1) 65 _ _ _ _ rfl rfl rfl (uh Z9) Tryz.underlying65 rfl (Zai Zau)) rfl (show ErrC w 2 _ _ from ⟨rfl,uh E9⟩)
set_option maxRecDepth 100000 in
set_option maxHeartbeats 8000000 in
theorem begin_ok (w:World) (u ks:List UInt8) (hk:ks.length=16) (lb:UInt8) (n:Nat) (hn:n < 18446744073709551616) (hnm:ZbC u=true) (hl:decide (1≤(lb.toNat:Int)∧(lb.toNat:Int)≤3)=true) :
  Calls Tryz.prog 19 #[.string ⟨u.toArray⟩,.agg (bsV ks).toArray,.int .i64 (lb.toNat:Int),.int .u64 (n:Int)] w (ZcQ w (ZbF u ks (lb.toNat:Int) n) (Zdm u lb n)):=by
 have hu:u.length≤maxLen:=by have:=Zd4 hnm; unfold maxLen; omega
 obtain ⟨l,hle⟩ :∃l:Int,(lb.toNat:Int)=l:=⟨_,rfl⟩
 rw [hle] at hl ⊢
 have HLE:=jd hle
 have hlw:IntKind.u8.wrap l=(lb.toNat:Int):=by rw [← hle,IntKind.wrap_u8']; have:=lb.toNat_lt; omega
 have HNM:=jd hnm
 have HCF:Hid (cliF (ZbF u ks l n)=true):=jd (by unfold cliF; rw [show ZbC (ZbF u ks l n).user=true from hnm]; exact hl)
 have HU16:=jd (Zd4 hnm)
 have EGL':=jd (ZaO Tryz.func50 (by kernel_rfl) rfl)
 have EGJ':=jd (ZaO Tryz.func49 (by kernel_rfl) rfl)
 clear hnm hl hle
 obtain ⟨W2,hW2⟩ :∃W2,(w.alloc (.cells (bsV ks).toArray 46)).alloc (.cells zCli.cs.toArray 65)=W2:=⟨_,rfl⟩
 have K0:Hid (Blk ((w.alloc (.cells (bsV ks).toArray 46)).alloc (.cells zCli.cs.toArray 65)) w.heap.size 46 (bsV ks).toArray):=jd ((Blk.new w 46 (bsV ks).toArray).alloc _)
 have K1:Hid (Blk ((w.alloc (.cells (bsV ks).toArray 46)).alloc (.cells zCli.cs.toArray 65)) (w.heap.size+1) 65 zCli.cs.toArray):=jd (Blk.new' (by simp))
 have K2:Hid (Blk (((w.alloc (.cells (bsV ks).toArray 46)).alloc (.cells zCli.cs.toArray 65)).alloc (.cells zCli.cs.toArray 65)) (w.heap.size+2) 65 zCli.cs.toArray):=jd (Blk.new' (by simp))
 have B2:Hid (Below w.heap.size w ((w.alloc (.cells (bsV ks).toArray 46)).alloc (.cells zCli.cs.toArray 65))):=jd (((Below.refl _ _).alloc (Nat.le_refl _) _).alloc (by rw [Zae]; omega) _)
 have B2a:=jd ((uh B2).alloc (uh B2).size (.cells zCli.cs.toArray 65))
 have HSZ:=jd (Zbo hk)
 have HK:=jd hk
 have HOK:=jd (ZcZ (l:=l) hu hk hn)
 have HW2:=jd hW2
 have HU:=jd hu
 have BC:Hid (Tryz.prog.built 65 [(0,.string ⟨u.toArray⟩),(1,.agg (bsV ks).toArray),(2,.int .i64 l),(3,.int .u64 (n:Int))]=some (ZbF u ks l n).cs.toArray):=jd (Zes u ks hk l n)
 clear hk hW2 hu hn
 go_enter Tryz.func19,Tryz.ntmps19
 go_upto_region 2 with (first
  | (refine Zag rfl 65 rfl _ (w.heap.size+1) (Zae w _) (Zaz _) ?_)
  | (refine Zag rfl 65 rfl _ (w.heap.size+2) (Zb2 w _ _) (Zaz _) ?_)
  | (refine wpList_load_row rfl 46 _ rfl w.heap.size rfl 46 _ _ _ (uh K0) Tryz.underlying46 rfl (uh HSZ) ?_)
  | (refine Zab rfl 65 _ rfl [(0,.string ⟨u.toArray⟩),(1,.agg (bsV ks).toArray),(2,.int .i64 l),(3,.int .u64 (n:Int))] rfl _ (uh BC) ?_)
  |(refine Zaa rfl 65 (.tmp 11) (.tmp 16) rfl (w.heap.size+2) 65 _ (ZbF u ks l n).cs.toArray rfl rfl (uh K2) (Cli.size_eq (uh HOK)) (Zai (uh HOK)) (fun v hv=>Cli.one v (by simpa using hv)) ?_
    intro W3 hb3 hg3
    have Z3:=jd hb3
    have Q1:=jd (((uh K1).alloc (.cells zCli.cs.toArray 65)).grown hg3 (fun e=>by injection e with e; omega))
    have B3:=jd (gWz (uh B2a) hg3)
    clear hb3 hg3)
  | fail)
 go_wp2_with fail
 refine (Za3 _ u (uh HU) true (uh HNM)).mono ?_
 rintro e w4 ⟨rfl,rfl⟩
 go_wp2_with (first
  | (refine wpList_load_row rfl 65 _ rfl (w.heap.size+2) rfl 65 _ _ _ (uh Z3) Tryz.underlying65 rfl (Zai (uh HOK)) ?_)
  | fail)
 refine (Zcb _ _ (uh HOK) true (uh HCF)).mono ?_
 rintro e w5 ⟨rfl,hb5⟩
 have Q5:=jd ((uh Q1).below hb5 (uh Q1).lt)
 have Z5:=jd ((uh Z3).below hb5 (uh Z3).lt)
 have B5:=jd ((uh B3).trans (hb5.mono (uh B3).size))
 clear hb5
 go_upto_region 6 with fail
 have hB0:Below w5.heap.size w5 w5.drew:=(Below.refl _ _).drew
 have hS0:(fun wz=>Blk wz (w.heap.size+2) 65 (ZbF u ks l n).cs.toArray) w5.drew:=uh Z5
 refine wp_region_noPanic (wp_region_held_drew (S:=fun wz=>Blk wz (w.heap.size+2) 65 (ZbF u ks l n).cs.toArray) (by kernel_rfl) hS0 (fun _=>?_))
 refine tJz 0 rfl (Zar 65 (.tmp 11) (by rfl) rfl (w.heap.size+2) rfl 65 (ZbF u ks l n).cs.toArray _ (fun _ h=>h) Tryz.underlying65 rfl (Zai (uh HOK))) hS0 ?_
 refine tq 1 rfl hS0 ?_
 refine tq 3 rfl hS0 ?_
 refine tJz (v:=.int .u8 (lb.toNat:Int)) 4 rfl (Or.inl ⟨by rfl,fun wz hSw=>?_⟩) hS0 ?_
 ·skip
  go_simp
 refine tq 6 rfl hS0 ?_
 refine ZbH (BegR w.heap.size u lb n) w5 [2,5,7,8,9] #[true,true,true,true,true,true,true,true,true,true,false,false,false] [(2,some 27),(5,some 30),(7,some 32),(8,some 33),(9,some 34)] 35 3 (by kernel_rfl) rfl BegR.keep (fun _ h=>(uh Z5).below h (uh Z5).lt) hB0 ⟨?_,?_,?_,?_,?_,trivial⟩ ?_ rfl
 ·intro a wa hBa hout hin
  refine ZaI [.int .u64 (n:Int),.int .i64 ((8:Nat):Int)] rfl rfl rfl rfl (uh EGL') ?_ ?_
  ·show [a.eval (.tmp 26),_]=_
   rw [hout 26 (by kernel_rfl)]
   rfl
  · exact ZbV wa n 8 (.inr rfl)
 ·intro a wa hBa hout hin
  have e:a.eval (.tmp 29)=.int .u8 (lb.toNat:Int):=hout 29 (by kernel_rfl)
  refine ZaF rfl rfl (v:=.slice (some ⟨wa.heap.size,0,none⟩) 1 1) (w':=wa.alloc (.cells #[.int .u8 (lb.toNat:Int)] 5)) ?_ ⟨(Below.refl _ _).alloc (Nat.le_refl _) _,ZaR.new1 lb⟩
  simp [execOp,e,Za0]
 ·intro a wa hBa hout hin
  have e:a.eval (.tmp 31)=.string ⟨u.toArray⟩:=hout 31 (by kernel_rfl)
  obtain ⟨v,w7,hrun,ho,hb⟩:=Zd9 (P:=Tryz.prog) wa 9 22 5 ⟨u.toArray⟩ Tryz.underlying9 Tryz.underlying22 Tryz.underlying5 wa.heap.size (Nat.le_refl _) (by have:=uh HU; simpa [ByteArray.size] using this)
  obtain ⟨A7,c7,rfl,h71,h72⟩:=ho.slice_
  refine ZaF rfl rfl (v:=.slice A7 (ByteArray.mk u.toArray).size c7) (w':=w7) ?_ ⟨hb,A7,c7,by simp [ByteArray.size],by simpa [ByteArray.size] using h71,h72,by simpa [bsV,ByteArray.size] using ho.reads⟩
  simp [execOp,e,hrun]
 ·intro a wa hBa hout hin
  obtain ⟨A2,c2,e2,h21,h22,h23⟩:=hin 2 27 (by kernel_rfl)
  obtain ⟨A5,c5,e5,h51,h52,h53⟩:=hin 5 30 (by kernel_rfl)
  obtain ⟨A7,c7,e7,h71,h72,h73⟩:=hin 7 32 (by kernel_rfl)
  refine ZaF rfl rfl (v:=.slice (some ⟨wa.heap.size,0,none⟩) 3 3) (w':=wa.alloc (.cells [Value.slice A2 8 c2,.slice A5 1 c5,.slice A7 u.length c7].toArray 22)) ?_ ⟨(Below.refl _ _).alloc (Nat.le_refl _) _,Zbx.new 3 rfl (.cons h21 h22 h23 (.cons h51 h52 h53 (.cons h71 h72 h73 (.nil _ _))))⟩
  simp [execOp,e2,e5,e7,run_slice_3]
 ·intro a wa hBa hout hin
  refine ZaI [.int .u8 ((1:UInt8).toNat:Int),a.eval (.tmp 33)] rfl rfl rfl rfl (uh EGJ') rfl ?_
  refine (Zdy wa 1 3 _ _ (hin 8 33 (by kernel_rfl)) (by have:=uh HU16; simp [Zbr]; omega) (by omega)).mono fun e w' ⟨v,he,ho,hb⟩=>⟨v,he,hb,?_⟩
  have hl:(Zbh 1 [leB (n:Int) 8,[lb],u]).length=10+u.length:=Zev u lb n
  rw [hl] at ho
  exact Zak ho (Nat.le_trans (uh B5).size hBa.size)
 intro vals ww hBw hRw
 simp only [puts,Act.put,zA,zB,zC]
 have h9:Zdn w.heap.size ww (10+u.length) (Zdm u lb n) (vals 9):=hRw 9 (by rfl)
 have hx1:Below w.heap.size w ww:=(uh B5).trans (hBw.mono (uh B5).size)
 have q1:=(uh Q5).below hBw (uh Q5).lt
 have hsz3:=(uh Z5).lt
 clear hRw
 have hSt:Below w5.heap.size w5 ww:=hBw
 refine tOz 10 rfl fun K hK=>?_
 have hsq:=Cli.size_eq (uh HOK)
 refine Zaf (by rfl) 65 (.tmp 8) (.tmp 25) rfl (w.heap.size+1) 65 _ (ZbF u ks l n).cs.toArray rfl rfl q1 hsq (Zai (uh HOK)) (fun v hv=>Cli.one v (by simpa using hv)) ?_
 intro w8 hb8 hg8
 have hx8:Below w.heap.size w w8:=hx1.grown hg8 hx1.size (fun j e=>by injection e with e; omega)
 have ho8:Zdn w.heap.size w8 (10+u.length) (Zdm u lb n) (vals 9):=World.ownsRow.kept h9 hg8 (.inr (Zad h9 q1 (by decide)))
 have hS8:Blk w8 (w.heap.size+2) 65 (ZbF u ks l n).cs.toArray:=((uh Z5).below hBw (uh Z5).lt).grown hg8 (fun e=>by injection e with e; omega)
 refine hK.out _ _ hS8 (fun _=>?_)
 clear hK K
 try simp only [Act.put]
 refine tq 11 rfl hS8 ?_
 refine tq 12 rfl hS8 ?_
 refine tDz ?_
 have H8:=jd hb8
 have O8:=jd ho8
 have X8:=jd hx8
 clear hb8 ho8 hx8 hg8 q1 h9 hx1 hSt
 go_wp2_with fail
 refine bodyPost_ret (v:=.tuple #[.agg (ZbF u ks l n).cs.toArray,vals 9,.int .i64 0]) (Za4 rfl _ (w.heap.size+1) 65 _ _ _ _ rfl rfl rfl (uh H8) Tryz.underlying65 rfl (Zai (uh HOK))) rfl (show ZcQ w _ _ _ _ from ⟨vals 9,rfl,?_,uh X8⟩)
 rw [Zev]
 exact uh O8
def ZdW:List UInt8:=[115,101,115,115,105,111,110]
def levB (l:Int):UInt8:=UInt8.ofNat l.toNat
theorem Zd3 {l:Int} (h:decide (1≤l∧l≤3)=true):((levB l).toNat:Int)=l:=by
 simp only [decide_eq_true_eq] at h
 have:l=1∨l=2∨l=3:=by omega
 rcases this with rfl | rfl | rfl<;>rfl
theorem ZdJ {c:Cli} (h:cliF c=true):decide (1≤c.level∧c.level≤3)=true:=by
 unfold cliF at h
 simp only [Bool.and_eq_true] at h
 exact h.2
theorem Zez (l:List UInt8) (h:l.length≤8):leW l < 18446744073709551616:=by
 have h1:=leW_lt l
 have h2:256 ^ l.length≤256 ^ 8:=Nat.pow_le_pow_right (by omega) h
 omega
def ansC (c:Cli) (b:List UInt8):Cli:={ c with id:=leW ((b.drop 1).take 4),server:=leW (b.drop 5),sess:=derF c.key ZdW (c.nonce:Int) (leW (b.drop 5):Int) }
theorem ansC_ok {c:Cli} (h:c.Ok) {b:List UInt8} (hb:b.length=13):(ansC c b).Ok :=
 ⟨h.user,h.key,ZbK _ _ _ _,h.nonce,Zez _ (by simp; omega),leW4 _ _,h.hi,h.se,h.out⟩
set_option maxRecDepth 100000 in
set_option maxHeartbeats 4000000 in
theorem answer_bad (w:World) (c:Cli) (hok:c.Ok) (A:Option Addr) (n cc:Nat) (hcf:cliF c=false):Calls Tryz.prog 37 #[.agg c.cs.toArray,.slice A n cc] w (ErrC w 1):=by
 have HCF:=jd hcf
 clear hcf
 have K0:Hid (Blk ((w.alloc (.cells c.cs.toArray 65)).alloc (.cells zCli.cs.toArray 65)) w.heap.size 65 c.cs.toArray):=jd ((Blk.new w 65 c.cs.toArray).alloc _)
 have K1:Hid (Blk ((w.alloc (.cells c.cs.toArray 65)).alloc (.cells zCli.cs.toArray 65)) (w.heap.size+1) 65 zCli.cs.toArray):=jd (Blk.new' (by simp))
 have B0:Hid (Below w.heap.size w ((w.alloc (.cells c.cs.toArray 65)).alloc (.cells zCli.cs.toArray 65))):=jd (((Below.refl _ _).alloc (Nat.le_refl _) _).alloc (by rw [Zae]; omega) _)
 have HOK:=jd hok
 clear hok
 go_enter Tryz.func37,Tryz.ntmps37
 go_wp2_with (first
  | (refine Zag rfl 65 rfl _ (w.heap.size+1) (Zae w _) (Zaz _) ?_)
  | (refine wpList_load_row rfl 65 _ rfl w.heap.size rfl 65 _ _ _ (uh K0) Tryz.underlying65 rfl (Zai (uh HOK)) ?_)
  | fail)
 refine (Zcb _ _ (uh HOK) _ (uh HCF)).mono ?_
 rintro e w1 ⟨rfl,hb1⟩
 have Z1:=jd ((uh K0).below hb1 (uh K0).lt)
 have Q1:=jd ((uh K1).below hb1 (uh K1).lt)
 have B1:=jd ((uh B0).trans (hb1.mono (uh B0).size))
 clear hb1
 go_wp2_with (first
  | (refine Zab rfl 65 _ rfl [] rfl _ Zax ?_)
  |(refine Zaa rfl 65 (.tmp 4) (.tmp 11) rfl (w.heap.size+1) 65 _ zCli.cs.toArray rfl rfl (uh Q1) rfl (Zai Zau) (fun v hv=>Cli.one v (by simpa using hv)) ?_
    intro w9 hb9 hg9
    have Z9:=jd hb9
    have E9:=jd (gWz (uh B1) hg9)
    clear hb9 hg9)
  | fail)
 exact bodyPost_ret (v:=.tuple #[.agg zCli.cs.toArray,.slice none 0 0,.int .i64 1]) (Za4 rfl _ (w.heap.size+1) 65 _ _ _ _ rfl rfl rfl (uh Z9) Tryz.underlying65 rfl (Zai Zau)) rfl (show ErrC w 1 _ _ from ⟨rfl,uh E9⟩)
set_option maxRecDepth 100000 in
set_option maxHeartbeats 4000000 in
theorem answer_open (w:World) (c:Cli) (hok:c.Ok) (A:Option Addr) (n cc:Nat) (hcf:cliF c=true) (hop:c.opn=true):Calls Tryz.prog 37 #[.agg c.cs.toArray,.slice A n cc] w (ErrC w 46):=by
 have HCF:=jd hcf
 have HOP:=jd hop
 clear hcf hop
 have K0:Hid (Blk ((w.alloc (.cells c.cs.toArray 65)).alloc (.cells zCli.cs.toArray 65)) w.heap.size 65 c.cs.toArray):=jd ((Blk.new w 65 c.cs.toArray).alloc _)
 have K1:Hid (Blk ((w.alloc (.cells c.cs.toArray 65)).alloc (.cells zCli.cs.toArray 65)) (w.heap.size+1) 65 zCli.cs.toArray):=jd (Blk.new' (by simp))
 have B0:Hid (Below w.heap.size w ((w.alloc (.cells c.cs.toArray 65)).alloc (.cells zCli.cs.toArray 65))):=jd (((Below.refl _ _).alloc (Nat.le_refl _) _).alloc (by rw [Zae]; omega) _)
 have HOK:=jd hok
 clear hok
 go_enter Tryz.func37,Tryz.ntmps37
 go_wp2_with (first
  | (refine Zag rfl 65 rfl _ (w.heap.size+1) (Zae w _) (Zaz _) ?_)
  | (refine wpList_load_row rfl 65 _ rfl w.heap.size rfl 65 _ _ _ (uh K0) Tryz.underlying65 rfl (Zai (uh HOK)) ?_)
  | fail)
 refine (Zcb _ _ (uh HOK) _ (uh HCF)).mono ?_
 rintro e w1 ⟨rfl,hb1⟩
 have Z1:=jd ((uh K0).below hb1 (uh K0).lt)
 have Q1:=jd ((uh K1).below hb1 (uh K1).lt)
 have B1:=jd ((uh B0).trans (hb1.mono (uh B0).size))
 clear hb1
 have hc:=(c.blk (uh HOK) (uh Z1)).opn
 rw [uh HOP] at hc
 go_wp2_with (first
  | (refine Zab rfl 65 _ rfl [] rfl _ Zax ?_)
  |(refine Zaa rfl 65 (.tmp 4) (.tmp 15) rfl (w.heap.size+1) 65 _ zCli.cs.toArray rfl rfl (uh Q1) rfl (Zai Zau) (fun v hv=>Cli.one v (by simpa using hv)) ?_
    intro w9 hb9 hg9
    have Z9:=jd hb9
    have E9:=jd (gWz (uh B1) hg9)
    clear hb9 hg9)
  | fail)
 exact bodyPost_ret (v:=.tuple #[.agg zCli.cs.toArray,.slice none 0 0,.int .i64 46]) (Za4 rfl _ (w.heap.size+1) 65 _ _ _ _ rfl rfl rfl (uh Z9) Tryz.underlying65 rfl (Zai Zau)) rfl (show ErrC w 46 _ _ from ⟨rfl,uh E9⟩)
set_option maxRecDepth 100000 in
set_option maxHeartbeats 4000000 in
theorem answer_form (w:World) (c:Cli) (hok:c.Ok) (A:Option Addr) (n cc:Nat) (b:List UInt8) (hr:Zaj w w.heap.size 1 A n (bsV b)) (hn:n≤maxLen) (hcf:cliF c=true) (hop:c.opn=false) (hfm:¬ (b.length=13∧b[0]?=some 2)) :
  Calls Tryz.prog 37 #[.agg c.cs.toArray,.slice A n cc] w (ErrC w 6):=by
 have HCF:=jd hcf
 have HOP:=jd hop
 have hl:b.length=n:=by have:=hr.1; simpa [bsV] using this
 rw [hl] at hfm
 unfold maxLen at hn
 by_cases h13:n=13
 ·subst h13
  obtain ⟨x,hx,hx2⟩ :∃x,b[0]?=some x∧x≠2:=⟨b[0]'(by omega),List.getElem?_eq_getElem _,fun e=>hfm ⟨rfl,by rw [List.getElem?_eq_getElem (by omega),e]⟩⟩
  obtain ⟨g,oo,hA,hgl,hcell⟩:=Zcr hr (by omega)
  subst hA
  have c0:=jd (hcell 0 x hx)
  have hne:((x.toNat:Int) != 2)=true:=by
   have:x.toNat≠2:=fun e=>hx2 (UInt8.toNat_inj.1 e)
   simp; omega
  clear hcf hop hr hfm hl hcell hx hx2
  have K0:Hid (Blk ((w.alloc (.cells c.cs.toArray 65)).alloc (.cells zCli.cs.toArray 65)) w.heap.size 65 c.cs.toArray):=jd ((Blk.new w 65 c.cs.toArray).alloc _)
  have K1:Hid (Blk ((w.alloc (.cells c.cs.toArray 65)).alloc (.cells zCli.cs.toArray 65)) (w.heap.size+1) 65 zCli.cs.toArray):=jd (Blk.new' (by simp))
  have B0:Hid (Below w.heap.size w ((w.alloc (.cells c.cs.toArray 65)).alloc (.cells zCli.cs.toArray 65))):=jd (((Below.refl _ _).alloc (Nat.le_refl _) _).alloc (by rw [Zae]; omega) _)
  have HOK:=jd hok
  clear hok
  go_enter Tryz.func37,Tryz.ntmps37
  go_wp2_with (first
   | (refine Zag rfl 65 rfl _ (w.heap.size+1) (Zae w _) (Zaz _) ?_)
   | (refine wpList_load_row rfl 65 _ rfl w.heap.size rfl 65 _ _ _ (uh K0) Tryz.underlying65 rfl (Zai (uh HOK)) ?_)
   | fail)
  refine (Zcb _ _ (uh HOK) _ (uh HCF)).mono ?_
  rintro e w1 ⟨rfl,hb1⟩
  have Z1:=jd ((uh K0).below hb1 (uh K0).lt)
  have Q1:=jd ((uh K1).below hb1 (uh K1).lt)
  have B1:=jd ((uh B0).trans (hb1.mono (uh B0).size))
  clear hb1
  have hc:=(c.blk (uh HOK) (uh Z1)).opn
  rw [uh HOP] at hc
  have hc0:w1.cell? ⟨g,oo,none⟩=some (.int .u8 (x.toNat:Int)):=((uh B1).cell (p:=⟨g,oo,none⟩) hgl).trans (uh c0)
  go_wp2_with (first
   | (refine Zab rfl 65 _ rfl [] rfl _ Zax ?_)
   |(refine Zaa rfl 65 (.tmp 4) (.tmp 26) rfl (w.heap.size+1) 65 _ zCli.cs.toArray rfl rfl (uh Q1) rfl (Zai Zau) (fun v hv=>Cli.one v (by simpa using hv)) ?_
     intro w9 hb9 hg9
     have Z9:=jd hb9
     have E9:=jd (gWz (uh B1) hg9)
     clear hb9 hg9)
   | fail)
  exact bodyPost_ret (v:=.tuple #[.agg zCli.cs.toArray,.slice none 0 0,.int .i64 6]) (Za4 rfl _ (w.heap.size+1) 65 _ _ _ _ rfl rfl rfl (uh Z9) Tryz.underlying65 rfl (Zai Zau)) rfl (show ErrC w 6 _ _ from ⟨rfl,uh E9⟩)
 ·have hne:((n:Int) != 13)=true:=by simp; omega
  clear hcf hop hr hfm hl
  have K0:Hid (Blk ((w.alloc (.cells c.cs.toArray 65)).alloc (.cells zCli.cs.toArray 65)) w.heap.size 65 c.cs.toArray):=jd ((Blk.new w 65 c.cs.toArray).alloc _)
  have K1:Hid (Blk ((w.alloc (.cells c.cs.toArray 65)).alloc (.cells zCli.cs.toArray 65)) (w.heap.size+1) 65 zCli.cs.toArray):=jd (Blk.new' (by simp))
  have B0:Hid (Below w.heap.size w ((w.alloc (.cells c.cs.toArray 65)).alloc (.cells zCli.cs.toArray 65))):=jd (((Below.refl _ _).alloc (Nat.le_refl _) _).alloc (by rw [Zae]; omega) _)
  have HOK:=jd hok
  clear hok
  go_enter Tryz.func37,Tryz.ntmps37
  go_wp2_with (first
   | (refine Zag rfl 65 rfl _ (w.heap.size+1) (Zae w _) (Zaz _) ?_)
   | (refine wpList_load_row rfl 65 _ rfl w.heap.size rfl 65 _ _ _ (uh K0) Tryz.underlying65 rfl (Zai (uh HOK)) ?_)
   | fail)
  refine (Zcb _ _ (uh HOK) _ (uh HCF)).mono ?_
  rintro e w1 ⟨rfl,hb1⟩
  have Z1:=jd ((uh K0).below hb1 (uh K0).lt)
  have Q1:=jd ((uh K1).below hb1 (uh K1).lt)
  have B1:=jd ((uh B0).trans (hb1.mono (uh B0).size))
  clear hb1
  have hc:=(c.blk (uh HOK) (uh Z1)).opn
  rw [uh HOP] at hc
  go_wp2_with (first
   | (refine Zab rfl 65 _ rfl [] rfl _ Zax ?_)
   |(refine Zaa rfl 65 (.tmp 4) (.tmp 26) rfl (w.heap.size+1) 65 _ zCli.cs.toArray rfl rfl (uh Q1) rfl (Zai Zau) (fun v hv=>Cli.one v (by simpa using hv)) ?_
     intro w9 hb9 hg9
     have Z9:=jd hb9
     have E9:=jd (gWz (uh B1) hg9)
     clear hb9 hg9)
   | fail)
  exact bodyPost_ret (v:=.tuple #[.agg zCli.cs.toArray,.slice none 0 0,.int .i64 6]) (Za4 rfl _ (w.heap.size+1) 65 _ _ _ _ rfl rfl rfl (uh Z9) Tryz.underlying65 rfl (Zai Zau)) rfl (show ErrC w 6 _ _ from ⟨rfl,uh E9⟩)
set_option maxRecDepth 100000 in
set_option maxHeartbeats 8000000 in
theorem answer_ok (w:World) (c:Cli) (hok:c.Ok) (A:Option Addr) (cc:Nat) (b:List UInt8) (hr:Zaj w w.heap.size 1 A 13 (bsV b)) (hnc:13≤cc) (hcf:cliF c=true) (hop:c.opn=false) (hb0:b[0]?=some 2) :
  Calls Tryz.prog 37 #[.agg c.cs.toArray,.slice A 13 cc] w (ZcQ w (ansC c b) (ZbB 3 c.key (ansC c b).id c.nonce (ansC c b).server (levB c.level))):=by
 have HCF:=jd hcf
 have HOP:=jd hop
 have hl:b.length=13:=by have:=hr.1; simpa [bsV] using this
 obtain ⟨g,oo,hA,hgl,hcell⟩:=Zcr hr (by omega)
 have c0:=jd (hcell 0 2 hb0)
 have hlv:=jd (Zd3 (ZdJ hcf))
 have HR:=jd hr
 have HNC:=jd hnc
 have HLN:=jd hl
 have HKL:=jd hok.key
 obtain ⟨x,hx⟩ :∃x,leW ((b.drop 1).take 4)=x:=⟨_,rfl⟩
 obtain ⟨y,hy⟩ :∃y,leW (b.drop 5)=y:=⟨_,rfl⟩
 obtain ⟨z,hz⟩ :∃z,derF c.key ZdW (c.nonce:Int) (y:Int)=z:=⟨_,rfl⟩
 have ha:ansC c b={ c with id:=x,server:=y,sess:=z }:=by rw [← hx,← hz,← hy]; rfl
 have hzl:z.length=16:=by rw [← hz]; exact ZbK _ _ _ _
 have hxl:x < 4294967296:=by rw [← hx]; exact leW4 _ _
 have hyl:y < 18446744073709551616:=by rw [← hy]; exact Zez _ (by simp; omega)
 have O1:({ c with id:=x }:Cli).Ok:=⟨hok.user,hok.key,hok.sess,hok.nonce,hok.server,hxl,hok.hi,hok.se,hok.out⟩
 have O2:({ c with id:=x,server:=y }:Cli).Ok:=⟨hok.user,hok.key,hok.sess,hok.nonce,hyl,hxl,hok.hi,hok.se,hok.out⟩
 have O3:({ c with id:=x,server:=y,sess:=z }:Cli).Ok:=⟨hok.user,hok.key,hzl,hok.nonce,hyl,hxl,hok.hi,hok.se,hok.out⟩
 rw [ha]
 dsimp only
 have HO1:=jd O1
 have HO2:=jd O2
 have HO3:=jd O3
 have HX:=jd hx
 have HY:=jd hy
 have HZ:=jd hz
 have HZL:=jd hzl
 have HXL:=jd hxl
 have HYL:=jd hyl
 have HA:=jd hA
 have HSA:=jd (fun W=>sl_lh W A 13 cc 1 5 1 5 rfl rfl (by omega) (by omega))
 have HSB:=jd (fun W=>sl_l W A 13 cc 5 5 rfl (by omega))
 have wx:IntKind.u32.wrap (x:Int)=(x:Int):=IntWalk.u32_in _ (by omega)
 clear hcf hop hr hl hcell hb0 hnc hx hy hz ha hzl O1 O2 O3
 subst hA
 have K0:Hid (Blk ((w.alloc (.cells c.cs.toArray 65)).alloc (.cells zCli.cs.toArray 65)) w.heap.size 65 c.cs.toArray):=jd ((Blk.new w 65 c.cs.toArray).alloc _)
 have K1:Hid (Blk ((w.alloc (.cells c.cs.toArray 65)).alloc (.cells zCli.cs.toArray 65)) (w.heap.size+1) 65 zCli.cs.toArray):=jd (Blk.new' (by simp))
 have B0:Hid (Below w.heap.size w ((w.alloc (.cells c.cs.toArray 65)).alloc (.cells zCli.cs.toArray 65))):=jd (((Below.refl _ _).alloc (Nat.le_refl _) _).alloc (by rw [Zae]; omega) _)
 have HOK:=jd hok
 clear hok
 go_enter Tryz.func37,Tryz.ntmps37
 go_wp2_with (first
  | (refine Zag rfl 65 rfl _ (w.heap.size+1) (Zae w _) (Zaz _) ?_)
  | (refine wpList_load_row rfl 65 _ rfl w.heap.size rfl 65 _ _ _ (uh K0) Tryz.underlying65 rfl (Zai (uh HOK)) ?_)
  | fail)
 refine (Zcb _ _ (uh HOK) _ (uh HCF)).mono ?_
 rintro e w1 ⟨rfl,hb1⟩
 have Z1:=jd ((uh K0).below hb1 (uh K0).lt)
 have Q1:=jd ((uh K1).below hb1 (uh K1).lt)
 have B1:=jd ((uh B0).trans (hb1.mono (uh B0).size))
 clear hb1
 have hc:=(c.blk (uh HOK) (uh Z1)).opn
 rw [uh HOP] at hc
 have hc0:w1.cell? ⟨g,oo,none⟩=some (.int .u8 2):=((uh B1).cell (p:=⟨g,oo,none⟩) hgl).trans (uh c0)
 have R1:=jd ((uh HR).below (uh B1))
 go_upto_region 7 with fail
 clear hc hc0
 have hS0:(fun _:World=>True) w1.drew:=trivial
 refine wp_region_noPanic (wp_region_held_drew (S:=fun _=>True) (by kernel_rfl) hS0 (fun _=>?_))
 refine tq 0 rfl hS0 ?_
 refine tJz (v:=.slice (subA (some ⟨g,oo,none⟩) 1 cc) 4 (cc - 1)) 1 rfl (Or.inl ⟨by rfl,fun wz hSw=>?_⟩) hS0 ?_
 ·have hq:=uh HSA wz
  go_simp
 refine tq 4 rfl hS0 ?_
 refine tJz (v:=.slice (subA (some ⟨g,oo,none⟩) 5 cc) 8 (cc - 5)) 5 rfl (Or.inl ⟨by rfl,fun wz hSw=>?_⟩) hS0 ?_
 ·have hq:=uh HSB wz
  go_simp
 refine tCz 2 rfl fun K hK=>?_
 go_simp
 have hr2:=((uh R1).drew).part (i:=1) (j:=5) (c:=cc) (by omega) (by omega) (uh HNC)
 refine (ZcE _ 4 (cc - 1) ((b.drop 1).take 4) _ _ hr2 (by omega)).mono ?_
 rw [uh HX]
 clear hr2
 rintro e w' ⟨rfl,rfl⟩
 refine hK.out _ _ hS0 (fun _=>?_)
 clear hK K
 try simp only [Act.put,zA,zB,zC]
 refine tJz (v:=.int .u32 (x:Int)) 3 rfl (Or.inl ⟨by rfl,fun wz hSw=>?_⟩) hS0 ?_
 ·skip
  go_simp
 refine tq 7 rfl hS0 ?_
 refine tCz 6 rfl fun K hK=>?_
 go_simp
 have hr2:=((uh R1).drew).rest (i:=5) (c:=cc) (by omega) (uh HNC)
 refine (ZcE _ 8 (cc - 5) (b.drop 5) _ _ hr2 (by omega)).mono ?_
 rw [uh HY]
 clear hr2
 rintro e w' ⟨rfl,rfl⟩
 refine hK.out _ _ hS0 (fun _=>?_)
 clear hK K
 try simp only [Act.put,zA,zB,zC]
 have hk2:Blk w1.drew w.heap.size 65 c.cs.toArray:=uh Z1
 have hq2:Blk w1.drew (w.heap.size+1) 65 zCli.cs.toArray:=uh Q1
 refine tOz 8 rfl fun K hK=>?_
 refine Zao (by rfl) 27 (.tmp 34) (.tmp 30) rfl w.heap.size 20 65 c.cs.toArray (.int .u32 (x:Int)) [.int .u32 (x:Int)] ({ c with id:=x }:Cli).cs rfl rfl hk2 rfl (by rw [Cli.size (uh HOK)]; simp) (by kernel_rfl) (one1 rfl) (Cli.set_id (uh HOK) x) ?_
 intro w2 hb2 hg2
 refine hK.out _ _ trivial (fun _=>?_)
 clear hK K
 try simp only [Act.put]
 refine tq 9 rfl hS0 ?_
 refine tOz 10 rfl fun K hK=>?_
 refine Zao (by rfl) 43 (.tmp 35) (.tmp 33) rfl w.heap.size 19 65 ({ c with id:=x }:Cli).cs.toArray (.int .u64 (y:Int)) [.int .u64 (y:Int)] ({ c with id:=x,server:=y }:Cli).cs rfl rfl hb2 rfl (by rw [Cli.size (uh HO1)]; simp) (by kernel_rfl) (one1 rfl) (Cli.set_server (uh HO1) y) ?_
 intro w3 hb3 hg3
 refine hK.out _ _ trivial (fun _=>?_)
 clear hK K
 try simp only [Act.put]
 refine tDz ?_
 have B3:Hid (Below w.heap.size w w3):=jd ((((uh B1).drew).grown hg2 (uh B1).size (fun j e=>by injection e with e; omega)).grown hg3 (((uh B1).drew).grown hg2 (uh B1).size (fun j e=>by injection e with e; omega)).size (fun j e=>by injection e with e; omega))
 have Q3:=jd ((hq2.grown hg2 (fun e=>by injection e with e; omega)).grown hg3 (fun e=>by injection e with e; omega))
 have Z3:=jd hb3
 clear hb2 hb3 hg2 hg3 hk2 hq2 hS0
 have hat:=(Cli.blk (uh HO2) (uh Z3))
 have h18:=hat.nonce
 have h19:=hat.server
 dsimp only at h18 h19
 clear hat
 obtain ⟨dk,hdk,hdr⟩:=Za5
 have HDK:=jd hdk
 have HDR:=jd hdr
 clear hdk hdr
 go_wp2_with (first
  | (refine Zbe rfl 46 (.tmp 36) rfl w.heap.size 1 65 _ (bsV c.key) dk rfl (uh Z3) ((Cli.at_ (uh HO2)).key) (uh HDK) (uh HDR) (ZaV _ (uh HKL)) ?_)
  | fail)
 refine (derive_any w3 c.key (uh HKL) ⟨#[115,101,115,115,105,111,110]⟩ (by decide) (c.nonce:Int) (y:Int) (by omega) (by omega)).mono ?_
 rintro e w4 ⟨rfl,hb4⟩
 have ez:derF c.key (ByteArray.mk #[115,101,115,115,105,111,110]).data.toList (c.nonce:Int) (y:Int)=z:=uh HZ
 rw [ez]
 have Z4:=jd ((uh Z3).below hb4 (uh Z3).lt)
 have Q4:=jd ((uh Q3).below hb4 (uh Q3).lt)
 have B4:=jd ((uh B3).trans (hb4.mono (uh B3).size))
 clear hb4 h18 h19 ez
 go_upto_region 9 with (first
  |(refine Zal rfl 46 (.tmp 43) (.tmp 42) rfl w.heap.size 21 65 _ (.agg (bsV z).toArray) (bsV z) ({ c with id:=x,server:=y,sess:=z }:Cli).cs rfl rfl (uh Z4) rfl (by rw [Cli.size (uh HO2)]; simp [uh HZL]) (ZaV _ (uh HZL)) (ZaL z) (Cli.set_sess (uh HO2) z (uh HZL)) ?_
    intro w5 hb5 hg5
    have Z5:=jd hb5
    have Q5:=jd ((uh Q4).gb hg5)
    have B5:=jd (gWz (uh B4) hg5)
    clear hb5 hg5)
  | fail)
 obtain ⟨d,hd⟩ :∃d:Cli,d={ c with id:=x,server:=y,sess:=z }:=⟨_,rfl⟩
 have Z6:=uh Z5
 have O6:=uh HO3
 have hkd:d.key=c.key:=by rw [hd]
 have hid:d.id=x:=by rw [hd]
 have hnd:d.nonce=c.nonce:=by rw [hd]
 have hsd:d.server=y:=by rw [hd]
 have hld:d.level=c.level:=by rw [hd]
 rw [← hd] at Z6 O6 ⊢
 have HZ6:=jd Z6
 have HO6:=jd O6
 have HDD:=jd hd
 clear Z5 Z6 O6 HO3 hd
 have hB0:Below w5.heap.size w5 w5.drew:=(Below.refl _ _).drew
 have hS0:(fun wz=>Blk wz w.heap.size 65 d.cs.toArray) w5.drew:=uh HZ6
 refine wp_region_noPanic (wp_region_held_drew (S:=fun wz=>Blk wz w.heap.size 65 d.cs.toArray) (by kernel_rfl) hS0 (fun _=>?_))
 refine tJz 0 rfl (Zar 65 (.tmp 2) (by rfl) rfl w.heap.size rfl 65 d.cs.toArray _ (fun _ h=>h) Tryz.underlying65 rfl (Zai (uh HO6))) hS0 ?_
 refine tq 1 rfl hS0 ?_
 refine tJz 2 rfl (Zcc 46 (.tmp 45) (by rfl) rfl w.heap.size 1 rfl 65 d.cs.toArray (bsV d.key) dk (fun _ h=>h) ((Cli.at_ (uh HO6)).key) (uh HDK) (uh HDR) (ZaV _ (uh HO6).key)) hS0 ?_
 refine tq 3 rfl hS0 ?_
 refine tJz (v:=.int .u32 (d.id:Int)) 4 rfl (Or.inl ⟨by rfl,fun wz hSw=>?_⟩) hS0 ?_
 ·have hq:=(Cli.blk (uh HO6) hSw).id
  go_simp
 refine tq 5 rfl hS0 ?_
 refine tJz (v:=.int .u64 (d.nonce:Int)) 6 rfl (Or.inl ⟨by rfl,fun wz hSw=>?_⟩) hS0 ?_
 ·have hq:=(Cli.blk (uh HO6) hSw).nonce
  go_simp
 refine tq 7 rfl hS0 ?_
 refine tJz (v:=.int .u64 (d.server:Int)) 8 rfl (Or.inl ⟨by rfl,fun wz hSw=>?_⟩) hS0 ?_
 ·have hq:=(Cli.blk (uh HO6) hSw).server
  go_simp
 refine tq 9 rfl hS0 ?_
 refine tJz (v:=.int .i64 d.level) 10 rfl (Or.inl ⟨by rfl,fun wz hSw=>?_⟩) hS0 ?_
 ·have hq:=(Cli.blk (uh HO6) hSw).level
  go_simp
 refine tCz 11 rfl fun K hK=>?_
 go_simp
 rw [← uh hlv]
 refine (Zeq _ 3 c.key (uh HKL) x c.nonce y (uh HXL) (levB c.level)).mono ?_
 rintro e w6 ⟨v6,rfl,ho6,hb6⟩
 have hb6:Below w5.heap.size w5 w6:=hB0.trans hb6
 have hz6:Blk w6 w.heap.size 65 d.cs.toArray:=(uh HZ6).below hb6 (uh HZ6).lt
 have hq6:Blk w6 (w.heap.size+1) 65 zCli.cs.toArray:=(uh Q5).below hb6 (uh Q5).lt
 have hx6:Below w.heap.size w w6:=(uh B5).trans (hb6.mono (uh B5).size)
 have ho6':w6.ownsRow w.heap.size 5 1 v6 13 (bsV (ZbB 3 c.key x c.nonce y (levB c.level))):=Zak ho6 (uh B5).size
 refine hK.out _ _ hz6 (fun _=>?_)
 clear hK K
 try simp only [Act.put,zA,zB,zC]
 refine tOz 12 rfl fun K hK=>?_
 have hsq:=Cli.size_eq (uh HO6)
 refine Zaf (by rfl) 65 (.tmp 4) (.tmp 44) rfl (w.heap.size+1) 65 _ d.cs.toArray rfl rfl hq6 hsq (Zai (uh HO6)) (fun v hv=>Cli.one v (by simpa using hv)) ?_
 intro w8 hb8 hg8
 have hz8:Blk w8 w.heap.size 65 d.cs.toArray:=hz6.grown hg8 (fun e=>by injection e with e; omega)
 have hx8:Below w.heap.size w w8:=hx6.grown hg8 hx6.size (fun j e=>by injection e with e; omega)
 have ho8:w8.ownsRow w.heap.size 5 1 v6 13 (bsV (ZbB 3 c.key x c.nonce y (levB c.level))):=World.ownsRow.kept ho6' hg8 (.inr (Zad ho6' hq6 (by decide)))
 refine hK.out _ _ hz8 (fun _=>?_)
 clear hK K
 try simp only [Act.put]
 refine tq 13 rfl hz8 ?_
 refine tq 14 rfl hz8 ?_
 refine tDz ?_
 have H8:=jd hb8
 have O8:=jd ho8
 have X8:=jd hx8
 clear hb8 ho8 hx8 hg8 hq6 hz6 hx6 hz8 ho6 ho6' hb6 hS0 hB0
 go_wp2_with fail
 refine bodyPost_ret (v:=.tuple #[.agg d.cs.toArray,v6,.int .i64 0]) (Za4 rfl _ (w.heap.size+1) 65 _ _ _ _ rfl rfl rfl (uh H8) Tryz.underlying65 rfl (Zai (uh HO6))) rfl (show ZcQ w _ _ _ _ from ⟨v6,by rw [← uh HDD],?_,uh X8⟩)
 rw [ZbY]
 exact uh O8
end Go.Proofs.YtfbkkmnkpjgciaaGreat
