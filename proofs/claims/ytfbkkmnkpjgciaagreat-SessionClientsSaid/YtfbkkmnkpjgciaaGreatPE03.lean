/- Joined of TCjP TClP. No condition. -/
import Derived.Test.YtfbkkmnkpjgciaaGreatPD33
import Derived.Test.YtfbkkmnkpjgciaaGreatPE02
import Derived.Test.YtfbkkmnkpjgciaaGreatPD35
namespace Go.Proofs.YtfbkkmnkpjgciaaGreat
open Go.RowKit
section
variable {W0 w w':World} {B g:Nat}
theorem CJ.put {q:Nat} (h:CJ W0 B g w) (hg:w.grownBy w' (some q)) (hq:W0.heap.size≤q) (hgq:g < q):CJ W0 B g w' :=
 ⟨⟨hg.os.trans h.1.os,hg.tape.trans h.1.tape,hg.output.trans h.1.output,Nat.le_trans h.1.size hg.size,fun k hk hne=>(hg.block k (Nat.lt_of_lt_of_le hk h.1.size) (fun e=>by injection e with e; omega)).trans (h.1.block k hk hne)⟩,
  h.2.grown_ hg (fun j e=>by injection e with e; omega)⟩
theorem CJ.new (h:CJ W0 B g w) (o:Obj):CJ W0 B g (w.alloc o):=(cj_alloc h o trivial).1
theorem CJ.low {n:Nat} (hb:Below n w W0) (h:CJ W0 B g w') (hn:n≤W0.heap.size) (hg:n≤g):Below n w w':=hb.grown h.1 hn (fun j e=>by injection e with e; omega)
theorem CJ.then_ {w1:World} (h:CJ W0 B g w) (h1:CJ w B g w1):CJ W0 B g w1:=⟨h.1.trans h1.1,h1.2⟩
end
theorem num_byte {r:Int} (h0:0≤r) (h1:r < 256) :∃kb:UInt8,r=(kb.toNat:Int):=by
 refine ⟨UInt8.ofNat r.toNat,?_⟩
 rw [UInt8.toNat_ofNat']
 omega
theorem beg_ok2 {u ks:List UInt8} (hu:u.length≤maxLen) (hk:ks.length=16) (l:Int) (n:Nat) (hn:n < 18446744073709551616):(begC u ks l n).c.Ok:=by
 unfold begC
 by_cases h1:nameF u=false
 · rw [if_pos h1]; exact zCli_ok
 rw [if_neg h1]
 by_cases h2:decide (1≤l∧l≤3)=false
 · rw [if_pos h2]; exact zCli_ok
 rw [if_neg h2]
 exact newCli_ok hu hk hn
theorem beg_key {u ks ks':List UInt8} {l:Int} {n:Nat} (h:(begC u ks l n).code≠0):begC u ks' l n=begC u ks l n:=by
 unfold begC at h ⊢
 by_cases h1:nameF u=false
 · rw [if_pos h1,if_pos h1]
 rw [if_neg h1] at h ⊢
 rw [if_neg h1]
 by_cases h2:decide (1≤l∧l≤3)=false
 · rw [if_pos h2,if_pos h2]
 rw [if_neg h2] at h
 exact absurd rfl h
theorem build_key0:Tryz.prog.built 46 []=some (bsV z16).toArray:=by kernel_rfl
theorem run_slice_c2 (w:World) (x y:Cli) (hx:x.Ok) (hy:y.Ok):(Instr.buildSlice 34 2 #[(0,.agg x.cs.toArray),(1,.agg y.cs.toArray)]).run Tryz.prog w=.ok (.slice (some ⟨w.heap.size,0,none⟩) 2 2) (w.alloc (.cells (x.cs++y.cs).toArray 65)):=by
 obtain ⟨a0,a1,a2,a3,a4,a5,a6,a7,a8,a9,a10,a11,a12,a13,a14,a15,b0,b1,b2,b3,b4,b5,b6,b7,b8,b9,b10,b11,b12,b13,b14,b15,e1,e2⟩:=x.open_ hx
 obtain ⟨c0,c1,c2,c3,c4,c5,c6,c7,c8,c9,c10,c11,c12,c13,c14,c15,d0,d1,d2,d3,d4,d5,d6,d7,d8,d9,d10,d11,d12,d13,d14,d15,e3,e4⟩:=y.open_ hy
 obtain ⟨user,key,level,nonce,server,id,sess,opn,hi,se,out⟩:=x
 obtain ⟨user2,key2,level2,nonce2,server2,id2,sess2,opn2,hi2,se2,out2⟩:=y
 dsimp only at e1 e2 e3 e4
 subst e1 e2 e3 e4
 kernel_rfl
theorem elem_c:Tryz.prog.elem 34=65:=by kernel_rfl
theorem und_c:Tryz.prog.underlying 34=some (.slice (Tryz.prog.elem 34)):=by kernel_rfl
theorem size_c (W:World):(sizeOf 65).run Tryz.prog W=.ok 41 W:=by kernel_rfl
theorem sl_hc (W:World) (A:Option Addr) (n c j:Nat) (y:Int) (hy:y=(j:Int)) (hjc:j≤c) :
  (Instr.sliceAt 34 (.slice A n c) none (some (.int .i64 y)) none).run Tryz.prog W=.ok (.slice A j c) W:=by
 subst hy
 rw [run_sliceAt_slice _ _ _ _ _ _ und_c,Go.run_slice_h W _ _ _ _ und_c .i64 _ (by omega) (by omega),elem_c,size_c]
 simp only [Result.andThen,sliced,Int.toNat_natCast,Nat.sub_zero]
 cases A<;>simp [Addr.add]
section
variable {c:Cli} (h:c.Ok)
include h
theorem Cli.set_user (x:List UInt8):c.cs.toArray.toList.take 0++[.string ⟨x.toArray⟩]++c.cs.toArray.toList.drop (0+[Value.string ⟨x.toArray⟩].length)={ c with user:=x }.cs:=by
 obtain ⟨a0,a1,a2,a3,a4,a5,a6,a7,a8,a9,a10,a11,a12,a13,a14,a15,b0,b1,b2,b3,b4,b5,b6,b7,b8,b9,b10,b11,b12,b13,b14,b15,e1,e2⟩:=c.open_ h
 obtain ⟨user,key,level,nonce,server,id,sess,opn,hi,se,out⟩:=c
 dsimp only at e1 e2
 subst e1 e2
 rfl
theorem Cli.set_level (x:Int):c.cs.toArray.toList.take 17++[.int .i64 x]++c.cs.toArray.toList.drop (17+[Value.int .i64 x].length)={ c with level:=x }.cs:=by
 obtain ⟨a0,a1,a2,a3,a4,a5,a6,a7,a8,a9,a10,a11,a12,a13,a14,a15,b0,b1,b2,b3,b4,b5,b6,b7,b8,b9,b10,b11,b12,b13,b14,b15,e1,e2⟩:=c.open_ h
 obtain ⟨user,key,level,nonce,server,id,sess,opn,hi,se,out⟩:=c
 dsimp only at e1 e2
 subst e1 e2
 rfl
end
theorem own_new_c (w:World) (base:Nat) (x:Cli) (hx:x.Ok) (hb:base≤w.heap.size):(w.alloc (.cells x.cs.toArray 65)).ownsRow base 65 41 (.slice (some ⟨w.heap.size,0,none⟩) 1 1) 1 x.cs :=
 ⟨by rw [Cli.len hx],.inr ⟨w.heap.size,1,_,rfl,hb,heap_alloc_new w _,by omega,by unfold maxLen; omega,by simp [Cli.len hx],by rw [Nat.one_mul,← Cli.len hx]; exact List.take_length⟩⟩
structure OddI (W0 w:World) (g q23 q24:Nat) (x y:Cli):Prop where
 j:CJ W0 g g w
 bx:Blk w q23 65 x.cs.toArray
 bo:Blk w q24 65 y.cs.toArray
 h0:W0.heap.size≤q23
 h1:q23 < q24
 hg:g < W0.heap.size
section
variable {W0 w w':World} {g q23 q24:Nat} {x y y':Cli}
theorem OddI.cj (h:OddI W0 w g q23 q24 x y) (hj:CJ w g g w'):OddI W0 w' g q23 q24 x y :=
 have h0:=h.h0
 have h1:=h.h1
 have h2:=h.hg
 ⟨h.j.then_ hj,h.bx.grown hj.1 (fun e=>by injection e with e; omega),h.bo.grown hj.1 (fun e=>by injection e with e; omega),h0,h1,h2⟩
theorem OddI.putY (h:OddI W0 w g q23 q24 x y) (hb:Blk w' q24 65 y'.cs.toArray) (hg:w.grownBy w' (some q24)):OddI W0 w' g q23 q24 x y' :=
 have h0:=h.h0
 have h1:=h.h1
 have h2:=h.hg
 ⟨h.j.put hg (by omega) (by omega),h.bx.grown hg (fun e=>by injection e with e; omega),hb,h0,h1,h2⟩
end
theorem two_rng {w:World} {q:Nat} {x y:Cli} (hx:x.Ok) (hy:y.Ok) (hb:Blk w q 65 (x.cs++y.cs).toArray) {k:Nat} (hk:k < 2) :∃z:Cli,z.Ok∧w.rangeAt q (k*41) z.cs:=by
 have h:k=0∨k=1:=by omega
 rcases h with rfl | rfl
 ·refine ⟨x,hx,fun j v hv=>?_⟩
  rw [hb.cell]
  have hj:=(List.getElem?_eq_some_iff.1 hv).1
  simp only [Nat.zero_mul,Nat.zero_add,List.getElem?_toArray]
  rw [List.getElem?_append_left hj]
  exact hv
 ·refine ⟨y,hy,fun j v hv=>?_⟩
  rw [hb.cell]
  simp only [Nat.one_mul,List.getElem?_toArray]
  rw [List.getElem?_append_right (by rw [Cli.len hx]; omega),Cli.len hx,Nat.add_sub_cancel_left]
  exact hv
theorem Cli.Ok.user_ {c:Cli} (h:c.Ok) {s:List UInt8} (hs:s.length≤17):({ c with user:=s }:Cli).Ok:={ h with user:=by show s.length≤maxLen; unfold maxLen; omega }
theorem Cli.Ok.level_ {c:Cli} (h:c.Ok) (l:Int):({ c with level:=l }:Cli).Ok:={ h with }
theorem Cli.Ok.opn_ {c:Cli} (h:c.Ok) (b:Bool):({ c with opn:=b }:Cli).Ok:={ h with }
theorem Cli.Ok.id_ {c:Cli} (h:c.Ok) {n:Nat} (hn:n < 4294967296):({ c with id:=n }:Cli).Ok:={ h with id:=hn }
theorem Cli.Ok.out_ {c:Cli} (h:c.Ok) {n:Nat} (hn:n < 4294967296):({ c with out:=n }:Cli).Ok:={ h with out:=hn }
end Go.Proofs.YtfbkkmnkpjgciaaGreat
