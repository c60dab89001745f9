/- Joined of TSame. No condition. -/
import Derived.Test.YtfbkkmnkpjgciaaGreatPG33
namespace Go.Proofs.YtfbkkmnkpjgciaaGreat
open Go.RowKit
theorem eq_key (W:World) (L:List UInt8) (hL:L.length=16):(Op.equalIn 9999 46 (.agg (bsV L).toArray) (.agg (bsV L).toArray)).run Tryz.prog W=.ok true W:=by
 obtain ⟨i,hi⟩:=info_of_underlying (P:=Tryz.prog) Tryz.underlying5
 rw [run_equalIn_array W 9998 _ _ Tryz.underlying46 hi,show Tryz.prog.cellsOf 5=1 by kernel_rfl,ZcO W 9997 Tryz.underlying5 (by kernel_rfl) L (List.range 16) (fun i h=>by rw [hL]; exact List.mem_range.1 h)]
set_option maxRecDepth 100000 in
set_option maxHeartbeats 4000000 in
theorem run_neq_sess (x:Sess) (h:x.Ok) (W:World):(binOp .neq 50 (.agg x.cs.toArray) (.agg x.cs.toArray)).run Tryz.prog W=.ok (.bool false) W:=by
 obtain ⟨a0,a1,a2,a3,a4,a5,a6,a7,a8,a9,a10,a11,a12,a13,a14,a15,e1⟩:=x.open_ h
 have hk:=fun W=>eq_key W x.key h.key
 obtain ⟨id,user,level,client,server,key,opn,hi,se,out,last⟩:=x
 dsimp only at e1
 subst e1
 simp only [bsV,List.map_cons,List.map_nil] at hk
 simp only [Sess.cs,bsV,List.map_cons,List.map_nil,List.cons_append,List.nil_append]
 go_simp
set_option maxRecDepth 100000 in
set_option maxHeartbeats 4000000 in
theorem run_eql_cli (x:Cli) (h:x.Ok) (W:World):(binOp .eql 65 (.agg x.cs.toArray) (.agg x.cs.toArray)).run Tryz.prog W=.ok (.bool true) W:=by
 obtain ⟨a0,a1,a2,a3,a4,a5,a6,a7,a8,a9,a10,a11,a12,a13,a14,a15,b0,b1,b2,b3,b4,b5,b6,b7,b8,b9,b10,b11,b12,b13,b14,b15,e1,e2⟩:=x.open_ h
 have hk:=fun W=>eq_key W x.key h.key
 have hs:=fun W=>eq_key W x.sess h.sess
 obtain ⟨user,key,level,nonce,server,id,sess,opn,hi,se,out⟩:=x
 dsimp only at e1 e2
 subst e1 e2
 simp only [bsV,List.map_cons,List.map_nil] at hk hs
 simp only [Cli.cs,bsV,List.map_cons,List.map_nil,List.cons_append,List.nil_append]
 go_simp
set_option maxRecDepth 100000 in
set_option maxHeartbeats 4000000 in
theorem run_neq_cli (x:Cli) (h:x.Ok) (W:World):(binOp .neq 65 (.agg x.cs.toArray) (.agg x.cs.toArray)).run Tryz.prog W=.ok (.bool false) W:=by
 obtain ⟨a0,a1,a2,a3,a4,a5,a6,a7,a8,a9,a10,a11,a12,a13,a14,a15,b0,b1,b2,b3,b4,b5,b6,b7,b8,b9,b10,b11,b12,b13,b14,b15,e1,e2⟩:=x.open_ h
 have hk:=fun W=>eq_key W x.key h.key
 have hs:=fun W=>eq_key W x.sess h.sess
 obtain ⟨user,key,level,nonce,server,id,sess,opn,hi,se,out⟩:=x
 dsimp only at e1 e2
 subst e1 e2
 simp only [bsV,List.map_cons,List.map_nil] at hk hs
 simp only [Cli.cs,bsV,List.map_cons,List.map_nil,List.cons_append,List.nil_append]
 go_simp
theorem y_neq_agg {P:Program} {l:List Oper} {S:World→Prop} {a:Act} {o:Oper} {b:Bool} (t u:TypeId) (x y:Operand) (hw:Region.wanted o (yielded l.toArray a.tmps)=true) (ho:o.op=.binOp .neq t x y u) (xs ys:Array Value) (hx:a.eval x=.agg xs) (hy:a.eval y=.agg ys)
  (hm:P.eqGuardType P.depth t=false) (hrun:∀ w,(binOp .neq t (.agg xs) (.agg ys)).run P w=.ok (.bool b) w):YieldsIf P l.toArray S o (.bool b) a :=
 .inl ⟨hw,fun w _=>by
  unfold execOp
  simp only [ho,hx,hy,Sem.run_bind,Sem.run_pure,Result.andThen_ok,run_eqGuard_agg w .neq t x y xs ys hm,hrun]⟩
theorem sess_isRow :∃d,Tryz.prog.underlying 50=some d∧d.isRow=true:=⟨_,Tryz.underlying50,rfl⟩
set_option maxRecDepth 100000 in
set_option maxHeartbeats 4000000 in
theorem ZdK (w:World) (A A':Option Addr) (n c c':Nat) (L:List Sess) (nx:Nat) (h:ZaA w w.heap.size A n L) (h':ZaA w w.heap.size A' n L) (hn:n≤1000) :
  Calls Tryz.prog 16 #[.agg #[.slice A n c,.int .u32 (nx:Int)],.agg #[.slice A' n c',.int .u32 (nx:Int)]] w fun e w'=>e=.returned (.bool true)∧Below w.heap.size w w':=by
 obtain ⟨W1,hW1⟩ :∃W1,(w.alloc (.cells #[.slice A n c,.int .u32 (nx:Int)] 29)).alloc (.cells #[.slice A' n c',.int .u32 (nx:Int)] 29)=W1:=⟨_,rfl⟩
 have K0:Hid (Blk W1 w.heap.size 29 #[.slice A n c,.int .u32 (nx:Int)]):=jd (hW1 ▸ ((Blk.new w _ _).alloc _))
 have K1:Hid (Blk W1 (w.heap.size+1) 29 #[.slice A' n c',.int .u32 (nx:Int)]):=jd (hW1 ▸ (Blk.new' (by simp)))
 have B1:Hid (Below w.heap.size w W1):=jd (hW1 ▸ ((Below.refl _ _).alloc (Nat.le_refl _) _).alloc (by rw [Zae]; omega) _)
 have H1:=jd h
 have H2:=jd h'
 have c0:W1.cell? ⟨w.heap.size,0,none⟩=some (.slice A n c):=(uh K0).cell 0
 have c1:W1.cell? ⟨w.heap.size,1,none⟩=some (.int .u32 (nx:Int)):=(uh K0).cell 1
 have d0:W1.cell? ⟨w.heap.size+1,0,none⟩=some (.slice A' n c'):=(uh K1).cell 0
 have d1:W1.cell? ⟨w.heap.size+1,1,none⟩=some (.int .u32 (nx:Int)):=(uh K1).cell 1
 clear h h'
 go_enter Tryz.func16,Tryz.ntmps16
 go_upto_region 4 with fail
 clear c0 c1 d0 d1
 go_loopw [5] (fun i wr=>∃ k:Nat,i=.int .i64 (k:Int)∧k≤n∧Below w.heap.size w wr∧Blk wr w.heap.size 29 #[.slice A n c,.int .u32 (nx:Int)]∧Blk wr (w.heap.size+1) 29 #[.slice A' n c',.int .u32 (nx:Int)]) (fun i _=>n - (intOf i).toNat)
 case atStart=>exact ⟨0,rfl,Nat.zero_le _,uh B1,uh K0,uh K1⟩
 case round =>
  obtain ⟨k,rfl,hk,hb,hk0,hk1⟩:=hrel
  have B2:=jd hb
  have M0:=jd hk0
  have M1:=jd hk1
  have c0:wr.cell? ⟨w.heap.size,0,none⟩=some (.slice A n c):=hk0.cell 0
  clear hb hk0 hk1 B1 K0 K1
  by_cases hlt:k < n
  ·obtain ⟨g,oo,x,hA,hg,hx,hxo,hrg⟩:=((uh H1).below (uh B2)).at_ hlt
   obtain ⟨g',oo',x',hA',hg',hx',hxo',hrg'⟩:=((uh H2).below (uh B2)).at_ hlt
   obtain rfl:x'=x:=by rw [hx] at hx'; injection hx' with h; exact h.symm
   subst hA hA'
   have HXO:=jd hxo
   have hk2:(k:Int) < (n:Int):=by omega
   have hn2:(n:Int)≤1000:=by omega
   obtain ⟨dk,hdk,hdr⟩:=sess_isRow
   have HDK:=jd hdk
   have HDR:=jd hdr
   have hS0:Blk wr.drew w.heap.size 29 #[.slice (some ⟨g,oo,none⟩) n c,.int .u32 (nx:Int)]∧Blk wr.drew (w.heap.size+1) 29 #[.slice (some ⟨g',oo',none⟩) n c',.int .u32 (nx:Int)]∧wr.drew.rangeAt g (oo+k*26) x'.cs∧wr.drew.rangeAt g' (oo'+k*26) x'.cs:=⟨uh M0,uh M1,hrg,hrg'⟩
   have HB9:Hid (Below w.heap.size w wr.drew):=jd (uh B2).drew
   have HN:=jd (fun W=>run_neq_sess x' (uh HXO) W)
   clear hx hx' hxo hxo' hrg hrg' hdk hdr hg hg'
   go_upto_region 6 with fail
   clear c0
   refine wp_region_noPanic (wp_region_held_drew (S:=fun wz=>Blk wz w.heap.size 29 #[.slice (some ⟨g,oo,none⟩) n c,.int .u32 (nx:Int)]∧Blk wz (w.heap.size+1) 29 #[.slice (some ⟨g',oo',none⟩) n c',.int .u32 (nx:Int)]∧wz.rangeAt g (oo+k*26) x'.cs∧wz.rangeAt g' (oo'+k*26) x'.cs) (by kernel_rfl) hS0 (fun _=>?_))
   refine tq 0 rfl hS0 ?_
   refine tJz (v:=.slice (some ⟨g,oo,none⟩) n c) 1 rfl (Or.inl ⟨by rfl,fun wz hSw=>?_⟩) hS0 ?_
   ·have hq:wz.cell? ⟨w.heap.size,0,none⟩=some (.slice (some ⟨g,oo,none⟩) n c):=hSw.1.cell 0
    go_simp
   refine tq 2 rfl hS0 ?_
   refine tq 3 rfl hS0 ?_
   refine tJz (v:=.agg x'.cs.toArray) 4 rfl (yieldsIf_load_mid (by rfl) 50 (.tmp 30) rfl g (oo+k*26) rfl x'.cs dk (fun _ h=>h.2.2.1) (uh HDK) (uh HDR) (Zbf (uh HXO))) hS0 ?_
   refine tq 5 rfl hS0 ?_
   refine tJz (v:=(.slice (some ⟨g',oo',none⟩) n c')) 6 rfl (Or.inl ⟨by rfl,fun wz hSw=>?_⟩) hS0 ?_
   ·have hq:wz.cell? ⟨w.heap.size+1,0,none⟩=some (.slice (some ⟨g',oo',none⟩) n c'):=hSw.2.1.cell 0
    go_simp
   refine tq 7 rfl hS0 ?_
   refine tq 8 rfl hS0 ?_
   refine tJz (v:=.agg x'.cs.toArray) 9 rfl (yieldsIf_load_mid (by rfl) 50 (.tmp 35) rfl g' (oo'+k*26) rfl x'.cs dk (fun _ h=>h.2.2.2) (uh HDK) (uh HDR) (Zbf (uh HXO))) hS0 ?_
   refine tJz (v:=.bool false) 10 rfl (y_neq_agg 50 _ (.tmp 31) (.tmp 36) (by rfl) rfl x'.cs.toArray x'.cs.toArray rfl rfl (by kernel_rfl) (uh HN)) hS0 ?_
   refine tDz ?_
   clear hS0
   go_wp2_with fail
   go_roundw
   case rel=>exact ⟨k+1,by go_num,by omega,uh HB9,(uh M0).drew,(uh M1).drew⟩
   case measure=>simp [intOf]; omega
  ·have hge:((k:Int) < (n:Int))=False:=by simp; omega
   clear hlt hk
   go_wp2_with fail
   go_ret
   exact ⟨rfl,uh B2⟩
end Go.Proofs.YtfbkkmnkpjgciaaGreat
