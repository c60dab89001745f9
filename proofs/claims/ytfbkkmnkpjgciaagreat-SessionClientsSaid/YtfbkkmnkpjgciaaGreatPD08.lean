/- Joined of SPart SBegin. No condition. -/
import Derived.Test.YtfbkkmnkpjgciaaGreatPD07
namespace Go.Proofs.YtfbkkmnkpjgciaaGreat
open Go.RowKit
section
variable {P:Program} {w:World} {g:Nat} {t:TypeId} {cs:Array Value}
theorem run_store_part (ty:TypeId) (j:Nat) (v:Value) (vs:List Value) (cs':List Value) (h:Blk w g t cs) (hv:v.cells.toList=vs) (hfit:j+vs.length≤cs.size) (hi:(P.info? ty).map (·.size)=some vs.length) (h1:∀ u∈vs,u.oneCell'=true)
  (hcs:cs.toList.take j++vs++cs.toList.drop (j+vs.length)=cs'):(storeVar ty ⟨g,j,none⟩ v).run P w=.ok () (w.setRow g cs'.toArray):=by
 have hst:=run_storeCells_fr (P:=P) g j t (0,0) vs 0 cs w h (fun j _ hh=>by omega) (by omega) h1
 simp only [Nat.add_zero] at hst
 rw [hcs] at hst
 cases hq:P.info? ty with
 | none=>simp [hq] at hi
 |some i =>
  have hs:v.cells.size=i.size:=by
   have:v.cells.size=vs.length:=by rw [← hv]; simp
   simp [hq] at hi; omega
  simp [storeVar,sizeOf,typeInfo,hq,hs,hv,hst]
theorem run_load_part (ty:TypeId) (o:Nat) (part:List Value) (d:TypeDesc) (h:Blk w g t cs) (hp:∀ (j:Nat) v,part[j]?=some v→cs[o+j]?=some v) (hu:P.underlying ty=some d) (hd:d.isRow=true) (hi:(P.info? ty).map (·.size)=some part.length) :
  (loadVar ty ⟨g,o,none⟩).run P w=.ok (.agg part.toArray) w :=
 run_loadVar_mid w g o ty part d (fun j v hv=>by rw [h.cell]; exact hp j v hv) hu hd hi
end
section
variable {P:Program} {ops:Array Oper} {rest:List Oper} {op:Oper} {a:Act} {w:World} {Q:Exit→Act→World→Prop}
theorem wpList_store_part (hgd:op.guard=none) (ty:TypeId) (x y:Operand) (ho:op.op=.store ty x y) (g j:Nat) (t:TypeId) (cs:Array Value) (v:Value) (vs cs':List Value) (hx:a.eval x=.pointer (some ⟨g,j,none⟩)) (hy:a.eval y=v)
  (h:Blk w g t cs) (hv:v.cells.toList=vs) (hfit:j+vs.length≤cs.size) (hi:(P.info? ty).map (·.size)=some vs.length) (h1:∀ u∈vs,u.oneCell'=true) (hcs:cs.toList.take j++vs++cs.toList.drop (j+vs.length)=cs')
  (hk:∀ w',Blk w' g t cs'.toArray→w.grownBy w' (some g)→wpList P ops Q rest (a.put op.dst undef) w'):wpList P ops Q (op::rest) a w:=by
 refine wpList_plain hgd fun _ hK=>?_
 have hs:=run_store_part (P:=P) ty j v vs cs' h hv hfit hi h1 hcs
 unfold Oper.wp execOp
 simp only [ho,hx,hy,Instr.storeAt,Instr.sureAddr,Sem.run_bind,Sem.run_pure,Result.andThen_ok,hs]
 have hb:=setRow_blk (cs':=cs'.toArray) h
 exact hK _ _ (hk _ hb.1 hb.2)
theorem wpList_load_part (hgd:op.guard=none) (ty:TypeId) (x:Operand) (ho:op.op=.load ty x) (g o:Nat) (t:TypeId) (cs:Array Value) (part:List Value) (d:TypeDesc) (hx:a.eval x=.pointer (some ⟨g,o,none⟩))
  (h:Blk w g t cs) (hp:∀ (j:Nat) v,part[j]?=some v→cs[o+j]?=some v) (hu:P.underlying ty=some d) (hd:d.isRow=true) (hi:(P.info? ty).map (·.size)=some part.length)
  (hk:wpList P ops Q rest (a.put op.dst (.agg part.toArray)) w):wpList P ops Q (op::rest) a w :=
 wpList_load_mid hgd ty x ho g o hx part d (fun j v hv=>by rw [h.cell]; exact hp j v hv) hu hd hi hk
end
section
variable {P:Program} {l:List Oper} {S:World→Prop} {a:Act} {o:Oper}
theorem step_store_part {w:World} {K:Act→World→Prop} {Q:Exit→Act→World→Prop} {E:Prop} (hw:Region.wanted o (yielded l.toArray a.tmps)=true) (ty:TypeId) (x y:Operand) (ho:o.op=.store ty x y) (g j:Nat) (t:TypeId) (cs:Array Value) (v:Value) (vs cs':List Value) (hx:a.eval x=.pointer (some ⟨g,j,none⟩)) (hy:a.eval y=v)
  (h:Blk w g t cs) (hv:v.cells.toList=vs) (hfit:j+vs.length≤cs.size) (hi:(P.info? ty).map (·.size)=some vs.length) (h1:∀ u∈vs,u.oneCell'=true) (hcs:cs.toList.take j++vs++cs.toList.drop (j+vs.length)=cs')
  (hk:∀ w',Blk w' g t cs'.toArray→w.grownBy w' (some g)→K (a.put o.dst undef) w'):if Region.wanted o (yielded l.toArray a.tmps)=true then Oper.wp P o a w K Q else E:=by
 rw [if_pos hw]
 have hs:=run_store_part (P:=P) ty j v vs cs' h hv hfit hi h1 hcs
 unfold Oper.wp execOp
 simp only [ho,hx,hy,Instr.storeAt,Instr.sureAddr,Sem.run_bind,Sem.run_pure,Result.andThen_ok,hs]
 have hb:=setRow_blk (cs':=cs'.toArray) h
 exact hk _ hb.1 hb.2
theorem y_loadpart (ty:TypeId) (x:Operand) (hw:Region.wanted o (yielded l.toArray a.tmps)=true) (ho:o.op=.load ty x) (g off:Nat) (hx:a.eval x=.pointer (some ⟨g,off,none⟩)) (t:TypeId) (cs:Array Value) (part:List Value) (d:TypeDesc) (hg:∀ w,S w→Blk w g t cs)
  (hp:∀ (j:Nat) v,part[j]?=some v→cs[off+j]?=some v) (hu:P.underlying ty=some d) (hd:d.isRow=true) (hi:(P.info? ty).map (·.size)=some part.length):YieldsIf P l.toArray S o (.agg part.toArray) a :=
 yieldsIf_load_mid hw ty x ho g off hx part d (fun w hS j v hv=>by rw [(hg w hS).cell]; exact hp j v hv) hu hd hi
end
theorem key_isRow :∃d,Tryz.prog.underlying 46=some d∧d.isRow=true:=⟨_,Tryz.underlying46,rfl⟩
theorem key_info (ks:List UInt8) (hk:ks.length=16):(Tryz.prog.info? 46).map (·.size)=some (bsV ks).length:=by
 have e:=key_size hk
 rw [List.size_toArray] at e
 exact e
theorem one1 {v:Value} (h:v.oneCell'=true):∀ u∈[v],u.oneCell'=true:=by
 intro u hu; simp at hu; subst hu; exact h
section
variable {c:Cli} (h:c.Ok)
include h
theorem Cli.set_id (x:Nat):c.cs.toArray.toList.take 20++[.int .u32 (x:Int)]++c.cs.toArray.toList.drop (20+[Value.int .u32 (x:Int)].length)={ c with id:=x }.cs:=by
 obtain ⟨a0,a1,a2,a3,a4,a5,a6,a7,a8,a9,a10,a11,a12,a13,a14,a15,b0,b1,b2,b3,b4,b5,b6,b7,b8,b9,b10,b11,b12,b13,b14,b15,e1,e2⟩:=c.open_ h
 obtain ⟨user,key,level,nonce,server,id,sess,opn,hi,se,out⟩:=c
 dsimp only at e1 e2
 subst e1 e2
 rfl
theorem Cli.set_server (x:Nat):c.cs.toArray.toList.take 19++[.int .u64 (x:Int)]++c.cs.toArray.toList.drop (19+[Value.int .u64 (x:Int)].length)={ c with server:=x }.cs:=by
 obtain ⟨a0,a1,a2,a3,a4,a5,a6,a7,a8,a9,a10,a11,a12,a13,a14,a15,b0,b1,b2,b3,b4,b5,b6,b7,b8,b9,b10,b11,b12,b13,b14,b15,e1,e2⟩:=c.open_ h
 obtain ⟨user,key,level,nonce,server,id,sess,opn,hi,se,out⟩:=c
 dsimp only at e1 e2
 subst e1 e2
 rfl
theorem Cli.set_opn (x:Bool):c.cs.toArray.toList.take 37++[.bool x]++c.cs.toArray.toList.drop (37+[Value.bool x].length)={ c with opn:=x }.cs:=by
 obtain ⟨a0,a1,a2,a3,a4,a5,a6,a7,a8,a9,a10,a11,a12,a13,a14,a15,b0,b1,b2,b3,b4,b5,b6,b7,b8,b9,b10,b11,b12,b13,b14,b15,e1,e2⟩:=c.open_ h
 obtain ⟨user,key,level,nonce,server,id,sess,opn,hi,se,out⟩:=c
 dsimp only at e1 e2
 subst e1 e2
 rfl
theorem Cli.set_out (x:Nat):c.cs.toArray.toList.take 40++[.int .u32 (x:Int)]++c.cs.toArray.toList.drop (40+[Value.int .u32 (x:Int)].length)={ c with out:=x }.cs:=by
 obtain ⟨a0,a1,a2,a3,a4,a5,a6,a7,a8,a9,a10,a11,a12,a13,a14,a15,b0,b1,b2,b3,b4,b5,b6,b7,b8,b9,b10,b11,b12,b13,b14,b15,e1,e2⟩:=c.open_ h
 obtain ⟨user,key,level,nonce,server,id,sess,opn,hi,se,out⟩:=c
 dsimp only at e1 e2
 subst e1 e2
 rfl
theorem Cli.set_win (x y:Nat):c.cs.toArray.toList.take 38++[.int .u32 (x:Int),.int .u32 (y:Int)]++c.cs.toArray.toList.drop (38+[Value.int .u32 (x:Int),.int .u32 (y:Int)].length)={ c with hi:=x,se:=y }.cs:=by
 obtain ⟨a0,a1,a2,a3,a4,a5,a6,a7,a8,a9,a10,a11,a12,a13,a14,a15,b0,b1,b2,b3,b4,b5,b6,b7,b8,b9,b10,b11,b12,b13,b14,b15,e1,e2⟩:=c.open_ h
 obtain ⟨user,key,level,nonce,server,id,sess,opn,hi,se,out⟩:=c
 dsimp only at e1 e2
 subst e1 e2
 rfl
theorem Cli.set_sess (x:List UInt8) (hx:x.length=16):c.cs.toArray.toList.take 21++bsV x++c.cs.toArray.toList.drop (21+(bsV x).length)={ c with sess:=x }.cs:=by
 obtain ⟨a0,a1,a2,a3,a4,a5,a6,a7,a8,a9,a10,a11,a12,a13,a14,a15,b0,b1,b2,b3,b4,b5,b6,b7,b8,b9,b10,b11,b12,b13,b14,b15,e1,e2⟩:=c.open_ h
 obtain ⟨d0,d1,d2,d3,d4,d5,d6,d7,d8,d9,d10,d11,d12,d13,d14,d15,rfl⟩:=list16 x hx
 obtain ⟨user,key,level,nonce,server,id,sess,opn,hi,se,out⟩:=c
 dsimp only at e1 e2
 subst e1 e2
 rfl
end
def helloF (u:List UInt8) (lb:UInt8) (n:Nat):List UInt8:=joinF 1 [leB (n:Int) 8,[lb],u]
theorem helloF_len (u:List UInt8) (lb:UInt8) (n:Nat):(helloF u lb n).length=10+u.length:=by simp [helloF,joinF,leB_len]; omega
def newCli (u ks:List UInt8) (l:Int) (n:Nat):Cli:=⟨u,ks,l,n,0,0,z16,false,0,0,0⟩
theorem newCli_ok {u ks:List UInt8} {l:Int} {n:Nat} (hu:u.length≤maxLen) (hk:ks.length=16) (hn:n < 18446744073709551616):(newCli u ks l n).Ok :=
 ⟨hu,hk,rfl,hn,by show 0 < 18446744073709551616; omega,by show 0 < 4294967296; omega,by show 0 < 4294967296; omega,by show 0 < 4294967296; omega,by show 0 < 4294967296; omega⟩
def BegR (B:Nat) (u:List UInt8) (lb:UInt8) (n:Nat):Nat→Value→World→Prop
 | 2,v,w=>SliceOf w 8 (leB (n:Int) 8) v
 | 5,v,w=>SliceOf w 1 [lb] v
 | 7,v,w=>SliceOf w u.length u v
 | 8,v,w=>PiecesOf w 3 [leB (n:Int) 8,[lb],u] v
 | 9,v,w=>OwnOf B w (10+u.length) (helloF u lb n) v
 | _,_,_=>True
theorem BegR.keep {B:Nat} {u:List UInt8} {lb:UInt8} {n:Nat}:∀ (k:Nat) (v:Value) (w w':World),BegR B u lb n k v w→Below w.heap.size w w'→BegR B u lb n k v w':=by
 intro k v w w' h hb
 unfold BegR at *
 split at h
 · exact h.below hb
 · exact h.below hb
 · exact h.below hb
 · exact h.below hb
 · exact h.below hb
 · trivial
theorem nameF_len {u:List UInt8} (h:nameF u=true):u.length≤16:=by
 unfold nameF at h
 simp only [Bool.and_eq_true,decide_eq_true_eq] at h
 exact h.2.1
def BegPost (w:World) (c:Cli) (b:List UInt8) (e:Ending) (w':World):Prop :=
 ∃ v,e=.returned (.tuple #[.agg c.cs.toArray,v,.int .i64 0])∧w'.ownsRow w.heap.size 5 1 v b.length (bsV b)∧Below w.heap.size w w'
def ErrC (w:World) (x:Int) (e:Ending) (w':World):Prop:=e=.returned (.tuple #[.agg zCli.cs.toArray,.slice none 0 0,.int .i64 x])∧Below w.heap.size w w' 
set_option maxRecDepth 100000 in
set_option maxHeartbeats 4000000 in
theorem begin_name (w:World) (u ks:List UInt8) (hu:u.length≤maxLen) (hk:ks.length=16) (l:Int) (n:Nat) (hn:n < 18446744073709551616) (hno:nameF u=false) :
  Calls Tryz.prog 19 #[.string ⟨u.toArray⟩,.agg (bsV ks).toArray,.int .i64 l,.int .u64 (n:Int)] w (ErrC w 1):=by
 have HNO:=jd hno
 clear hno
 obtain ⟨W2,hW2⟩ :∃W2,(w.alloc (.cells (bsV ks).toArray 46)).alloc (.cells zCli.cs.toArray 65)=W2:=⟨_,rfl⟩
 have K0:Hid (Blk ((w.alloc (.cells (bsV ks).toArray 46)).alloc (.cells zCli.cs.toArray 65)) w.heap.size 46 (bsV ks).toArray):=jd ((Blk.new w 46 (bsV ks).toArray).alloc _)
 have K1:Hid (Blk ((w.alloc (.cells (bsV ks).toArray 46)).alloc (.cells zCli.cs.toArray 65)) (w.heap.size+1) 65 zCli.cs.toArray):=jd (Blk.new' (by simp))
 have K2:Hid (Blk (((w.alloc (.cells (bsV ks).toArray 46)).alloc (.cells zCli.cs.toArray 65)).alloc (.cells zCli.cs.toArray 65)) (w.heap.size+2) 65 zCli.cs.toArray):=jd (Blk.new' (by simp))
 have B2:Hid (Below w.heap.size w ((w.alloc (.cells (bsV ks).toArray 46)).alloc (.cells zCli.cs.toArray 65))):=jd (((Below.refl _ _).alloc (Nat.le_refl _) _).alloc (by rw [size_alloc]; omega) _)
 have B2a:=jd ((uh B2).alloc (uh B2).size (.cells zCli.cs.toArray 65))
 have HSZ:=jd (key_size hk)
 have HK:=jd hk
 have HOK:=jd (newCli_ok (l:=l) hu hk hn)
 have HW2:=jd hW2
 have HU:=jd hu
 have BC:Hid (Tryz.prog.built 65 [(0,.string ⟨u.toArray⟩),(1,.agg (bsV ks).toArray),(2,.int .i64 l),(3,.int .u64 (n:Int))]=some (newCli u ks l n).cs.toArray):=jd (build_cli u ks hk l n)
 clear hk hW2 hu hn
 go_enter Tryz.func19,Tryz.ntmps19
 go_upto_region 2 with (first
  | (refine wpList_alloc_to rfl 65 rfl _ (w.heap.size+1) (size_alloc w _) (alloc_cli _) ?_)
  | (refine wpList_alloc_to rfl 65 rfl _ (w.heap.size+2) (size_alloc2 w _ _) (alloc_cli _) ?_)
  | (refine wpList_load_row rfl 46 _ rfl w.heap.size rfl 46 _ _ _ (uh K0) Tryz.underlying46 rfl (uh HSZ) ?_)
  | (refine wpList_build_cs rfl 65 _ rfl [(0,.string ⟨u.toArray⟩),(1,.agg (bsV ks).toArray),(2,.int .i64 l),(3,.int .u64 (n:Int))] rfl _ (uh BC) ?_)
  |(refine wpList_store_blk rfl 65 (.tmp 11) (.tmp 16) rfl (w.heap.size+2) 65 _ (newCli u ks l n).cs.toArray rfl rfl (uh K2) (Cli.size_eq (uh HOK)) (cli_info (uh HOK)) (fun v hv=>Cli.one v (by simpa using hv)) ?_
    intro W3 hb3 hg3
    have Z3:=jd hb3
    have Q1:=jd (((uh K1).alloc (.cells zCli.cs.toArray 65)).grown hg3 (fun e=>by injection e with e; omega))
    have B3:=jd (gWz (uh B2a) hg3)
    clear hb3 hg3)
  | fail)
 go_wp2_with fail
 refine (name_any _ u (uh HU) false (uh HNO)).mono ?_
 rintro e w4 ⟨rfl,rfl⟩
 have Q9:=Q1
 have B9:=B3
 go_wp2_with (first
   | (refine wpList_build_cs rfl 65 _ rfl [] rfl _ build_cli0 ?_)
   |(refine wpList_store_blk rfl 65 (.tmp 8) (.tmp 20) rfl (w.heap.size+1) 65 _ zCli.cs.toArray rfl rfl (uh Q9) rfl (cli_info zCli_ok) (fun v hv=>Cli.one v (by simpa using hv)) ?_
     intro w9 hb9 hg9
     have Z9:=jd hb9
     have E9:=jd (gWz (uh B9) hg9)
     clear hb9 hg9)
   | fail)
 exact bodyPost_ret (v:=.tuple #[.agg zCli.cs.toArray,.slice none 0 0,.int .i64 1]) (res_ctt rfl _ (w.heap.size+1) 65 _ _ _ _ rfl rfl rfl (uh Z9) Tryz.underlying65 rfl (cli_info zCli_ok)) rfl (show ErrC w 1 _ _ from ⟨rfl,uh E9⟩)
set_option maxRecDepth 100000 in
set_option maxHeartbeats 4000000 in
theorem begin_level (w:World) (u ks:List UInt8) (hu:u.length≤maxLen) (hk:ks.length=16) (l:Int) (n:Nat) (hn:n < 18446744073709551616) (hnm:nameF u=true) (hl:decide (1≤l∧l≤3)=false) :
  Calls Tryz.prog 19 #[.string ⟨u.toArray⟩,.agg (bsV ks).toArray,.int .i64 l,.int .u64 (n:Int)] w (ErrC w 2):=by
 have HNM:=jd hnm
 have HCF:Hid (cliF (newCli u ks l n)=false):=jd (by unfold cliF; rw [show nameF (newCli u ks l n).user=true from hnm]; exact hl)
 clear hnm hl
 obtain ⟨W2,hW2⟩ :∃W2,(w.alloc (.cells (bsV ks).toArray 46)).alloc (.cells zCli.cs.toArray 65)=W2:=⟨_,rfl⟩
 have K0:Hid (Blk ((w.alloc (.cells (bsV ks).toArray 46)).alloc (.cells zCli.cs.toArray 65)) w.heap.size 46 (bsV ks).toArray):=jd ((Blk.new w 46 (bsV ks).toArray).alloc _)
 have K1:Hid (Blk ((w.alloc (.cells (bsV ks).toArray 46)).alloc (.cells zCli.cs.toArray 65)) (w.heap.size+1) 65 zCli.cs.toArray):=jd (Blk.new' (by simp))
 have K2:Hid (Blk (((w.alloc (.cells (bsV ks).toArray 46)).alloc (.cells zCli.cs.toArray 65)).alloc (.cells zCli.cs.toArray 65)) (w.heap.size+2) 65 zCli.cs.toArray):=jd (Blk.new' (by simp))
 have B2:Hid (Below w.heap.size w ((w.alloc (.cells (bsV ks).toArray 46)).alloc (.cells zCli.cs.toArray 65))):=jd (((Below.refl _ _).alloc (Nat.le_refl _) _).alloc (by rw [size_alloc]; omega) _)
 have B2a:=jd ((uh B2).alloc (uh B2).size (.cells zCli.cs.toArray 65))
 have HSZ:=jd (key_size hk)
 have HK:=jd hk
 have HOK:=jd (newCli_ok (l:=l) hu hk hn)
 have HW2:=jd hW2
 have HU:=jd hu
 have BC:Hid (Tryz.prog.built 65 [(0,.string ⟨u.toArray⟩),(1,.agg (bsV ks).toArray),(2,.int .i64 l),(3,.int .u64 (n:Int))]=some (newCli u ks l n).cs.toArray):=jd (build_cli u ks hk l n)
 clear hk hW2 hu hn
 go_enter Tryz.func19,Tryz.ntmps19
 go_upto_region 2 with (first
  | (refine wpList_alloc_to rfl 65 rfl _ (w.heap.size+1) (size_alloc w _) (alloc_cli _) ?_)
  | (refine wpList_alloc_to rfl 65 rfl _ (w.heap.size+2) (size_alloc2 w _ _) (alloc_cli _) ?_)
  | (refine wpList_load_row rfl 46 _ rfl w.heap.size rfl 46 _ _ _ (uh K0) Tryz.underlying46 rfl (uh HSZ) ?_)
  | (refine wpList_build_cs rfl 65 _ rfl [(0,.string ⟨u.toArray⟩),(1,.agg (bsV ks).toArray),(2,.int .i64 l),(3,.int .u64 (n:Int))] rfl _ (uh BC) ?_)
  |(refine wpList_store_blk rfl 65 (.tmp 11) (.tmp 16) rfl (w.heap.size+2) 65 _ (newCli u ks l n).cs.toArray rfl rfl (uh K2) (Cli.size_eq (uh HOK)) (cli_info (uh HOK)) (fun v hv=>Cli.one v (by simpa using hv)) ?_
    intro W3 hb3 hg3
    have Z3:=jd hb3
    have Q1:=jd (((uh K1).alloc (.cells zCli.cs.toArray 65)).grown hg3 (fun e=>by injection e with e; omega))
    have B3:=jd (gWz (uh B2a) hg3)
    clear hb3 hg3)
  | fail)
 go_wp2_with fail
 refine (name_any _ u (uh HU) true (uh HNM)).mono ?_
 rintro e w4 ⟨rfl,rfl⟩
 go_wp2_with (first
  | (refine wpList_load_row rfl 65 _ rfl (w.heap.size+2) rfl 65 _ _ _ (uh Z3) Tryz.underlying65 rfl (cli_info (uh HOK)) ?_)
  | fail)
 refine (client_sx _ _ (uh HOK) false (uh HCF)).mono ?_
 rintro e w5 ⟨rfl,hb5⟩
 have Q9:=jd ((uh Q1).below hb5 (uh Q1).lt)
 have B9:=jd ((uh B3).trans (hb5.mono (uh B3).size))
 clear hb5
 go_wp2_with (first
   | (refine wpList_build_cs rfl 65 _ rfl [] rfl _ build_cli0 ?_)
   |(refine wpList_store_blk rfl 65 (.tmp 8) (.tmp 24) rfl (w.heap.size+1) 65 _ zCli.cs.toArray rfl rfl (uh Q9) rfl (cli_info zCli_ok) (fun v hv=>Cli.one v (by simpa using hv)) ?_
     intro w9 hb9 hg9
     have Z9:=jd hb9
     have E9:=jd (gWz (uh B9) hg9)
     clear hb9 hg9)
   | fail)
 exact bodyPost_ret (v:=.tuple #[.agg zCli.cs.toArray,.slice none 0 0,.int .i64 2]) (res_ctt rfl _ (w.heap.size+1) 65 _ _ _ _ rfl rfl rfl (uh Z9) Tryz.underlying65 rfl (cli_info zCli_ok)) rfl (show ErrC w 2 _ _ from ⟨rfl,uh E9⟩)
set_option maxRecDepth 100000 in
set_option maxHeartbeats 8000000 in
theorem begin_ok (w:World) (u ks:List UInt8) (hk:ks.length=16) (lb:UInt8) (n:Nat) (hn:n < 18446744073709551616) (hnm:nameF u=true) (hl:decide (1≤(lb.toNat:Int)∧(lb.toNat:Int)≤3)=true) :
  Calls Tryz.prog 19 #[.string ⟨u.toArray⟩,.agg (bsV ks).toArray,.int .i64 (lb.toNat:Int),.int .u64 (n:Int)] w (BegPost w (newCli u ks (lb.toNat:Int) n) (helloF u lb n)):=by
 have hu:u.length≤maxLen:=by have:=nameF_len hnm; unfold maxLen; omega
 obtain ⟨l,hle⟩ :∃l:Int,(lb.toNat:Int)=l:=⟨_,rfl⟩
 rw [hle] at hl ⊢
 have HLE:=jd hle
 have hlw:IntKind.u8.wrap l=(lb.toNat:Int):=by rw [← hle,IntKind.wrap_u8']; have:=lb.toNat_lt; omega
 have HNM:=jd hnm
 have HCF:Hid (cliF (newCli u ks l n)=true):=jd (by unfold cliF; rw [show nameF (newCli u ks l n).user=true from hnm]; exact hl)
 have HU16:=jd (nameF_len hnm)
 have EGL':=jd (enters Tryz.func50 (by kernel_rfl) rfl)
 have EGJ':=jd (enters Tryz.func49 (by kernel_rfl) rfl)
 clear hnm hl hle
 obtain ⟨W2,hW2⟩ :∃W2,(w.alloc (.cells (bsV ks).toArray 46)).alloc (.cells zCli.cs.toArray 65)=W2:=⟨_,rfl⟩
 have K0:Hid (Blk ((w.alloc (.cells (bsV ks).toArray 46)).alloc (.cells zCli.cs.toArray 65)) w.heap.size 46 (bsV ks).toArray):=jd ((Blk.new w 46 (bsV ks).toArray).alloc _)
 have K1:Hid (Blk ((w.alloc (.cells (bsV ks).toArray 46)).alloc (.cells zCli.cs.toArray 65)) (w.heap.size+1) 65 zCli.cs.toArray):=jd (Blk.new' (by simp))
 have K2:Hid (Blk (((w.alloc (.cells (bsV ks).toArray 46)).alloc (.cells zCli.cs.toArray 65)).alloc (.cells zCli.cs.toArray 65)) (w.heap.size+2) 65 zCli.cs.toArray):=jd (Blk.new' (by simp))
 have B2:Hid (Below w.heap.size w ((w.alloc (.cells (bsV ks).toArray 46)).alloc (.cells zCli.cs.toArray 65))):=jd (((Below.refl _ _).alloc (Nat.le_refl _) _).alloc (by rw [size_alloc]; omega) _)
 have B2a:=jd ((uh B2).alloc (uh B2).size (.cells zCli.cs.toArray 65))
 have HSZ:=jd (key_size hk)
 have HK:=jd hk
 have HOK:=jd (newCli_ok (l:=l) hu hk hn)
 have HW2:=jd hW2
 have HU:=jd hu
 have BC:Hid (Tryz.prog.built 65 [(0,.string ⟨u.toArray⟩),(1,.agg (bsV ks).toArray),(2,.int .i64 l),(3,.int .u64 (n:Int))]=some (newCli u ks l n).cs.toArray):=jd (build_cli u ks hk l n)
 clear hk hW2 hu hn
 go_enter Tryz.func19,Tryz.ntmps19
 go_upto_region 2 with (first
  | (refine wpList_alloc_to rfl 65 rfl _ (w.heap.size+1) (size_alloc w _) (alloc_cli _) ?_)
  | (refine wpList_alloc_to rfl 65 rfl _ (w.heap.size+2) (size_alloc2 w _ _) (alloc_cli _) ?_)
  | (refine wpList_load_row rfl 46 _ rfl w.heap.size rfl 46 _ _ _ (uh K0) Tryz.underlying46 rfl (uh HSZ) ?_)
  | (refine wpList_build_cs rfl 65 _ rfl [(0,.string ⟨u.toArray⟩),(1,.agg (bsV ks).toArray),(2,.int .i64 l),(3,.int .u64 (n:Int))] rfl _ (uh BC) ?_)
  |(refine wpList_store_blk rfl 65 (.tmp 11) (.tmp 16) rfl (w.heap.size+2) 65 _ (newCli u ks l n).cs.toArray rfl rfl (uh K2) (Cli.size_eq (uh HOK)) (cli_info (uh HOK)) (fun v hv=>Cli.one v (by simpa using hv)) ?_
    intro W3 hb3 hg3
    have Z3:=jd hb3
    have Q1:=jd (((uh K1).alloc (.cells zCli.cs.toArray 65)).grown hg3 (fun e=>by injection e with e; omega))
    have B3:=jd (gWz (uh B2a) hg3)
    clear hb3 hg3)
  | fail)
 go_wp2_with fail
 refine (name_any _ u (uh HU) true (uh HNM)).mono ?_
 rintro e w4 ⟨rfl,rfl⟩
 go_wp2_with (first
  | (refine wpList_load_row rfl 65 _ rfl (w.heap.size+2) rfl 65 _ _ _ (uh Z3) Tryz.underlying65 rfl (cli_info (uh HOK)) ?_)
  | fail)
 refine (client_sx _ _ (uh HOK) true (uh HCF)).mono ?_
 rintro e w5 ⟨rfl,hb5⟩
 have Q5:=jd ((uh Q1).below hb5 (uh Q1).lt)
 have Z5:=jd ((uh Z3).below hb5 (uh Z3).lt)
 have B5:=jd ((uh B3).trans (hb5.mono (uh B3).size))
 clear hb5
 go_upto_region 6 with fail
 have hB0:Below w5.heap.size w5 w5.drew:=(Below.refl _ _).drew
 have hS0:(fun wz=>Blk wz (w.heap.size+2) 65 (newCli u ks l n).cs.toArray) w5.drew:=uh Z5
 refine wp_region_noPanic (wp_region_held_drew (S:=fun wz=>Blk wz (w.heap.size+2) 65 (newCli u ks l n).cs.toArray) (by kernel_rfl) hS0 (fun _=>?_))
 refine tJz 0 rfl (y_loadblk 65 (.tmp 11) (by rfl) rfl (w.heap.size+2) rfl 65 (newCli u ks l n).cs.toArray _ (fun _ h=>h) Tryz.underlying65 rfl (cli_info (uh HOK))) hS0 ?_
 refine tq 1 rfl hS0 ?_
 refine tq 3 rfl hS0 ?_
 refine tJz (v:=.int .u8 (lb.toNat:Int)) 4 rfl (Or.inl ⟨by rfl,fun wz hSw=>?_⟩) hS0 ?_
 ·skip
  go_simp
 refine tq 6 rfl hS0 ?_
 refine any_below (BegR w.heap.size u lb n) w5 [2,5,7,8,9] #[true,true,true,true,true,true,true,true,true,true,false,false,false] [(2,some 27),(5,some 30),(7,some 32),(8,some 33),(9,some 34)] 35 3 (by kernel_rfl) rfl BegR.keep (fun _ h=>(uh Z5).below h (uh Z5).lt) hB0 ⟨?_,?_,?_,?_,?_,trivial⟩ ?_ rfl
 ·intro a wa hBa hout hin
  refine b_call [.int .u64 (n:Int),.int .i64 ((8:Nat):Int)] rfl rfl rfl rfl (uh EGL') ?_ ?_
  ·show [a.eval (.tmp 26),_]=_
   rw [hout 26 (by kernel_rfl)]
   rfl
  · exact little_of wa n 8 (.inr rfl)
 ·intro a wa hBa hout hin
  have e:a.eval (.tmp 29)=.int .u8 (lb.toNat:Int):=hout 29 (by kernel_rfl)
  refine b_val rfl rfl (v:=.slice (some ⟨wa.heap.size,0,none⟩) 1 1) (w':=wa.alloc (.cells #[.int .u8 (lb.toNat:Int)] 5)) ?_ ⟨(Below.refl _ _).alloc (Nat.le_refl _) _,SliceOf.new1 lb⟩
  simp [execOp,e,run_slice_b]
 ·intro a wa hBa hout hin
  have e:a.eval (.tmp 31)=.string ⟨u.toArray⟩:=hout 31 (by kernel_rfl)
  obtain ⟨v,w7,hrun,ho,hb⟩:=run_str_bytes (P:=Tryz.prog) wa 9 22 5 ⟨u.toArray⟩ Tryz.underlying9 Tryz.underlying22 Tryz.underlying5 wa.heap.size (Nat.le_refl _) (by have:=uh HU; simpa [ByteArray.size] using this)
  obtain ⟨A7,c7,rfl,h71,h72⟩:=ho.slice_
  refine b_val rfl rfl (v:=.slice A7 (ByteArray.mk u.toArray).size c7) (w':=w7) ?_ ⟨hb,A7,c7,by simp [ByteArray.size],by simpa [ByteArray.size] using h71,h72,by simpa [bsV,ByteArray.size] using ho.reads⟩
  simp [execOp,e,hrun]
 ·intro a wa hBa hout hin
  obtain ⟨A2,c2,e2,h21,h22,h23⟩:=hin 2 27 (by kernel_rfl)
  obtain ⟨A5,c5,e5,h51,h52,h53⟩:=hin 5 30 (by kernel_rfl)
  obtain ⟨A7,c7,e7,h71,h72,h73⟩:=hin 7 32 (by kernel_rfl)
  refine b_val rfl rfl (v:=.slice (some ⟨wa.heap.size,0,none⟩) 3 3) (w':=wa.alloc (.cells [Value.slice A2 8 c2,.slice A5 1 c5,.slice A7 u.length c7].toArray 22)) ?_ ⟨(Below.refl _ _).alloc (Nat.le_refl _) _,PiecesOf.new 3 rfl (.cons h21 h22 h23 (.cons h51 h52 h53 (.cons h71 h72 h73 (.nil _ _))))⟩
  simp [execOp,e2,e5,e7,run_slice_3]
 ·intro a wa hBa hout hin
  refine b_call [.int .u8 ((1:UInt8).toNat:Int),a.eval (.tmp 33)] rfl rfl rfl rfl (uh EGJ') rfl ?_
  refine (joined_of wa 1 3 _ _ (hin 8 33 (by kernel_rfl)) (by have:=uh HU16; simp [leB_len]; omega) (by omega)).mono fun e w' ⟨v,he,ho,hb⟩=>⟨v,he,hb,?_⟩
  have hl:(joinF 1 [leB (n:Int) 8,[lb],u]).length=10+u.length:=helloF_len u lb n
  rw [hl] at ho
  exact own_more ho (Nat.le_trans (uh B5).size hBa.size)
 intro vals ww hBw hRw
 simp only [puts,Act.put,zA,zB,zC]
 have h9:OwnOf w.heap.size ww (10+u.length) (helloF u lb n) (vals 9):=hRw 9 (by rfl)
 have hx1:Below w.heap.size w ww:=(uh B5).trans (hBw.mono (uh B5).size)
 have q1:=(uh Q5).below hBw (uh Q5).lt
 have hsz3:=(uh Z5).lt
 clear hRw
 have hSt:Below w5.heap.size w5 ww:=hBw
 refine tOz 10 rfl fun K hK=>?_
 have hsq:=Cli.size_eq (uh HOK)
 refine step_store_blk (by rfl) 65 (.tmp 8) (.tmp 25) rfl (w.heap.size+1) 65 _ (newCli u ks l n).cs.toArray rfl rfl q1 hsq (cli_info (uh HOK)) (fun v hv=>Cli.one v (by simpa using hv)) ?_
 intro w8 hb8 hg8
 have hx8:Below w.heap.size w w8:=hx1.grown hg8 hx1.size (fun j e=>by injection e with e; omega)
 have ho8:OwnOf w.heap.size w8 (10+u.length) (helloF u lb n) (vals 9):=World.ownsRow.kept h9 hg8 (.inr (own_blk_ne h9 q1 (by decide)))
 have hS8:Blk w8 (w.heap.size+2) 65 (newCli u ks l n).cs.toArray:=((uh Z5).below hBw (uh Z5).lt).grown hg8 (fun e=>by injection e with e; omega)
 refine hK.out _ _ hS8 (fun _=>?_)
 clear hK K
 try simp only [Act.put]
 refine tq 11 rfl hS8 ?_
 refine tq 12 rfl hS8 ?_
 refine wpAnyH_done (by kernel_rfl) (NoPanic.normal ?_) _
 have H8:=jd hb8
 have O8:=jd ho8
 have X8:=jd hx8
 clear hb8 ho8 hx8 hg8 q1 h9 hx1 hSt
 go_wp2_with fail
 refine bodyPost_ret (v:=.tuple #[.agg (newCli u ks l n).cs.toArray,vals 9,.int .i64 0]) (res_ctt rfl _ (w.heap.size+1) 65 _ _ _ _ rfl rfl rfl (uh H8) Tryz.underlying65 rfl (cli_info (uh HOK))) rfl (show BegPost w _ _ _ _ from ⟨vals 9,rfl,?_,uh X8⟩)
 rw [helloF_len]
 exact uh O8
end Go.Proofs.YtfbkkmnkpjgciaaGreat
