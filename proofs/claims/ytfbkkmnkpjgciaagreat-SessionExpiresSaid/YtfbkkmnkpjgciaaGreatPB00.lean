/- Joined of TExpP TSame TExp TExpL. No condition. -/
import Derived.Test.YtfbkkmnkpjgciaaGreatPA33
import Derived.Test.YtfbkkmnkpjgciaaGreatPA34
import Derived.Test.YtfbkkmnkpjgciaaGreatPA37
import Derived.Test.YtfbkkmnkpjgciaaGreatPA38
namespace Go.Proofs.YtfbkkmnkpjgciaaGreat
open Go.RowKit
def leftF (x:Sess):Int:=if x.opn=true then 600 else 50
theorem validG_inj {nx:Nat}:∀ {L:List Sess} {b:Nat},validG L nx b=true→∀ x∈L,∀ y∈L,x.id=y.id→x=y
 | [],_,_,x,hx,_,_,_=>by cases hx
 |z::r,b,h,x,hx,y,hy,he=>by
  obtain ⟨_,_,h3⟩:=validG_cons.1 h
  rcases List.mem_cons.1 hx with rfl | hx2<;>rcases List.mem_cons.1 hy with rfl | hy2
  · rfl
  · have:=(validG_mem h3 y hy2).1; omega
  · have:=(validG_mem h3 x hx2).1; omega
  · exact validG_inj h3 x hx2 y hy2 he
theorem exp_eq {L:List Sess} {nx:Nat} {now:Int} (hv:validF L nx=true) (ht:timeB now=true):expF L nx now=keepL (oldP now) L:=by
 unfold expF
 rw [hv,ht]
 rfl
theorem old_eq (now:Int) (x:Sess):oldP now x=decide (x.last≤now - leftF x):=by
 unfold oldP leftF
 cases x.opn<;>simp
theorem find_left {L:List Sess} {nx:Nat} {now:Int} (hv:validF L nx=true) (ht:timeB now=true) {x:Sess} (hx:x∈L):decide (0≤findG (idP x.id) (expF L nx now) 0)=decide (now < x.last+leftF x):=by
 rw [exp_eq hv ht]
 rcases findG_spec (idP x.id) (keepL (oldP now) L) 0 with ⟨e,h⟩ | ⟨i,y,e,hy,hp,_⟩
 ·rw [e]
  have ho:oldP now x=true:=by
   cases hc:oldP now x with
   | true=>rfl
   |false =>
    have:=h x (List.mem_filter.2 ⟨hx,by rw [hc]; rfl⟩)
    simp [idP] at this
  rw [old_eq] at ho
  simp only [decide_eq_true_eq] at ho
  rw [decide_eq_false (by omega),decide_eq_false (by omega)]
 ·have hm:=List.mem_filter.1 (List.mem_of_getElem? hy)
  have he:y.id=x.id:=by simpa [idP] using hp
  obtain rfl:=validG_inj (validF_iff.1 hv).2.2 y hm.1 x hx he
  have ho:=hm.2
  rw [old_eq] at ho
  simp at ho
  rw [e,decide_eq_true (by omega),decide_eq_true (by omega)]
theorem exp_twice {L:List Sess} {nx:Nat} {now:Int} (hv:validF L nx=true) (ht:timeB now=true):expF (expF L nx now) nx now=expF L nx now:=by
 rw [exp_eq (validF_exp hv) ht,exp_eq hv ht]
 unfold keepL
 rw [List.filter_filter]
 congr 1
 funext x
 simp
theorem eq_key (W:World) (L:List UInt8) (hL:L.length=16):(Op.equalIn 9999 46 (.agg (bsV L).toArray) (.agg (bsV L).toArray)).run Tryz.prog W=.ok true W:=by
 obtain ⟨i,hi⟩:=info_of_underlying (P:=Tryz.prog) Tryz.underlying5
 rw [run_equalIn_array W 9998 _ _ Tryz.underlying46 hi,show Tryz.prog.cellsOf 5=1 by kernel_rfl,run_items_same W 9997 Tryz.underlying5 (by kernel_rfl) L (List.range 16) (fun i h=>by rw [hL]; exact List.mem_range.1 h)]
set_option maxRecDepth 100000 in
set_option maxHeartbeats 4000000 in
theorem run_neq_sess (x:Sess) (h:x.Ok) (W:World):(binOp .neq 50 (.agg x.cs.toArray) (.agg x.cs.toArray)).run Tryz.prog W=.ok (.bool false) W:=by
 obtain ⟨a0,a1,a2,a3,a4,a5,a6,a7,a8,a9,a10,a11,a12,a13,a14,a15,e1⟩:=x.open_ h
 have hk:=fun W=>eq_key W x.key h.key
 obtain ⟨id,user,level,client,server,key,opn,hi,se,out,last⟩:=x
 dsimp only at e1
 subst e1
 simp only [bsV,List.map_cons,List.map_nil] at hk
 simp only [Sess.cs,bsV,List.map_cons,List.map_nil,List.cons_append,List.nil_append]
 go_simp
set_option maxRecDepth 100000 in
set_option maxHeartbeats 4000000 in
theorem run_eql_cli (x:Cli) (h:x.Ok) (W:World):(binOp .eql 65 (.agg x.cs.toArray) (.agg x.cs.toArray)).run Tryz.prog W=.ok (.bool true) W:=by
 obtain ⟨a0,a1,a2,a3,a4,a5,a6,a7,a8,a9,a10,a11,a12,a13,a14,a15,b0,b1,b2,b3,b4,b5,b6,b7,b8,b9,b10,b11,b12,b13,b14,b15,e1,e2⟩:=x.open_ h
 have hk:=fun W=>eq_key W x.key h.key
 have hs:=fun W=>eq_key W x.sess h.sess
 obtain ⟨user,key,level,nonce,server,id,sess,opn,hi,se,out⟩:=x
 dsimp only at e1 e2
 subst e1 e2
 simp only [bsV,List.map_cons,List.map_nil] at hk hs
 simp only [Cli.cs,bsV,List.map_cons,List.map_nil,List.cons_append,List.nil_append]
 go_simp
set_option maxRecDepth 100000 in
set_option maxHeartbeats 4000000 in
theorem run_neq_cli (x:Cli) (h:x.Ok) (W:World):(binOp .neq 65 (.agg x.cs.toArray) (.agg x.cs.toArray)).run Tryz.prog W=.ok (.bool false) W:=by
 obtain ⟨a0,a1,a2,a3,a4,a5,a6,a7,a8,a9,a10,a11,a12,a13,a14,a15,b0,b1,b2,b3,b4,b5,b6,b7,b8,b9,b10,b11,b12,b13,b14,b15,e1,e2⟩:=x.open_ h
 have hk:=fun W=>eq_key W x.key h.key
 have hs:=fun W=>eq_key W x.sess h.sess
 obtain ⟨user,key,level,nonce,server,id,sess,opn,hi,se,out⟩:=x
 dsimp only at e1 e2
 subst e1 e2
 simp only [bsV,List.map_cons,List.map_nil] at hk hs
 simp only [Cli.cs,bsV,List.map_cons,List.map_nil,List.cons_append,List.nil_append]
 go_simp
theorem y_neq_agg {P:Program} {l:List Oper} {S:World→Prop} {a:Act} {o:Oper} {b:Bool} (t u:TypeId) (x y:Operand) (hw:Region.wanted o (yielded l.toArray a.tmps)=true) (ho:o.op=.binOp .neq t x y u) (xs ys:Array Value) (hx:a.eval x=.agg xs) (hy:a.eval y=.agg ys)
  (hm:P.eqGuardType P.depth t=false) (hrun:∀ w,(binOp .neq t (.agg xs) (.agg ys)).run P w=.ok (.bool b) w):YieldsIf P l.toArray S o (.bool b) a :=
 .inl ⟨hw,fun w _=>by
  unfold execOp
  simp only [ho,hx,hy,Sem.run_bind,Sem.run_pure,Result.andThen_ok,run_eqGuard_agg w .neq t x y xs ys hm,hrun]⟩
theorem sess_isRow :∃d,Tryz.prog.underlying 50=some d∧d.isRow=true:=⟨_,Tryz.underlying50,rfl⟩
set_option maxRecDepth 100000 in
set_option maxHeartbeats 4000000 in
theorem rsame_sx (w:World) (A A':Option Addr) (n c c':Nat) (L:List Sess) (nx:Nat) (h:SessL w w.heap.size A n L) (h':SessL w w.heap.size A' n L) (hn:n≤1000) :
  Calls Tryz.prog 16 #[.agg #[.slice A n c,.int .u32 (nx:Int)],.agg #[.slice A' n c',.int .u32 (nx:Int)]] w fun e w'=>e=.returned (.bool true)∧Below w.heap.size w w':=by
 obtain ⟨W1,hW1⟩ :∃W1,(w.alloc (.cells #[.slice A n c,.int .u32 (nx:Int)] 29)).alloc (.cells #[.slice A' n c',.int .u32 (nx:Int)] 29)=W1:=⟨_,rfl⟩
 have K0:Hid (Blk W1 w.heap.size 29 #[.slice A n c,.int .u32 (nx:Int)]):=jd (hW1 ▸ ((Blk.new w _ _).alloc _))
 have K1:Hid (Blk W1 (w.heap.size+1) 29 #[.slice A' n c',.int .u32 (nx:Int)]):=jd (hW1 ▸ (Blk.new' (by simp)))
 have B1:Hid (Below w.heap.size w W1):=jd (hW1 ▸ ((Below.refl _ _).alloc (Nat.le_refl _) _).alloc (by rw [size_alloc]; omega) _)
 have H1:=jd h
 have H2:=jd h'
 have c0:W1.cell? ⟨w.heap.size,0,none⟩=some (.slice A n c):=(uh K0).cell 0
 have c1:W1.cell? ⟨w.heap.size,1,none⟩=some (.int .u32 (nx:Int)):=(uh K0).cell 1
 have d0:W1.cell? ⟨w.heap.size+1,0,none⟩=some (.slice A' n c'):=(uh K1).cell 0
 have d1:W1.cell? ⟨w.heap.size+1,1,none⟩=some (.int .u32 (nx:Int)):=(uh K1).cell 1
 clear h h'
 go_enter Tryz.func16,Tryz.ntmps16
 go_upto_region 4 with fail
 clear c0 c1 d0 d1
 go_loopw [5] (fun i wr=>∃ k:Nat,i=.int .i64 (k:Int)∧k≤n∧Below w.heap.size w wr∧Blk wr w.heap.size 29 #[.slice A n c,.int .u32 (nx:Int)]∧Blk wr (w.heap.size+1) 29 #[.slice A' n c',.int .u32 (nx:Int)]) (fun i _=>n - (intOf i).toNat)
 case atStart=>exact ⟨0,rfl,Nat.zero_le _,uh B1,uh K0,uh K1⟩
 case round =>
  obtain ⟨k,rfl,hk,hb,hk0,hk1⟩:=hrel
  have B2:=jd hb
  have M0:=jd hk0
  have M1:=jd hk1
  have c0:wr.cell? ⟨w.heap.size,0,none⟩=some (.slice A n c):=hk0.cell 0
  clear hb hk0 hk1 B1 K0 K1
  by_cases hlt:k < n
  ·obtain ⟨g,oo,x,hA,hg,hx,hxo,hrg⟩:=((uh H1).below (uh B2)).at_ hlt
   obtain ⟨g',oo',x',hA',hg',hx',hxo',hrg'⟩:=((uh H2).below (uh B2)).at_ hlt
   obtain rfl:x'=x:=by rw [hx] at hx'; injection hx' with h; exact h.symm
   subst hA hA'
   have HXO:=jd hxo
   have hk2:(k:Int) < (n:Int):=by omega
   have hn2:(n:Int)≤1000:=by omega
   obtain ⟨dk,hdk,hdr⟩:=sess_isRow
   have HDK:=jd hdk
   have HDR:=jd hdr
   have hS0:Blk wr.drew w.heap.size 29 #[.slice (some ⟨g,oo,none⟩) n c,.int .u32 (nx:Int)]∧Blk wr.drew (w.heap.size+1) 29 #[.slice (some ⟨g',oo',none⟩) n c',.int .u32 (nx:Int)]∧wr.drew.rangeAt g (oo+k*26) x'.cs∧wr.drew.rangeAt g' (oo'+k*26) x'.cs:=⟨uh M0,uh M1,hrg,hrg'⟩
   have HB9:Hid (Below w.heap.size w wr.drew):=jd (uh B2).drew
   have HN:=jd (fun W=>run_neq_sess x' (uh HXO) W)
   clear hx hx' hxo hxo' hrg hrg' hdk hdr hg hg'
   go_upto_region 6 with fail
   clear c0
   refine wp_region_noPanic (wp_region_held_drew (S:=fun wz=>Blk wz w.heap.size 29 #[.slice (some ⟨g,oo,none⟩) n c,.int .u32 (nx:Int)]∧Blk wz (w.heap.size+1) 29 #[.slice (some ⟨g',oo',none⟩) n c',.int .u32 (nx:Int)]∧wz.rangeAt g (oo+k*26) x'.cs∧wz.rangeAt g' (oo'+k*26) x'.cs) (by kernel_rfl) hS0 (fun _=>?_))
   refine tq 0 rfl hS0 ?_
   refine tk (v:=.slice (some ⟨g,oo,none⟩) n c) 1 rfl (Or.inl ⟨by rfl,fun wz hSw=>?_⟩) hS0 ?_
   ·have hq:wz.cell? ⟨w.heap.size,0,none⟩=some (.slice (some ⟨g,oo,none⟩) n c):=hSw.1.cell 0
    go_simp
   simp only [Act.put,zA,zB,zC]
   refine tq 2 rfl hS0 ?_
   refine tq 3 rfl hS0 ?_
   refine tk (v:=.agg x'.cs.toArray) 4 rfl (yieldsIf_load_mid (by rfl) 50 (.tmp 30) rfl g (oo+k*26) rfl x'.cs dk (fun _ h=>h.2.2.1) (uh HDK) (uh HDR) (sess_infoL (uh HXO))) hS0 ?_
   simp only [Act.put,zA,zB,zC]
   refine tq 5 rfl hS0 ?_
   refine tk (v:=(.slice (some ⟨g',oo',none⟩) n c')) 6 rfl (Or.inl ⟨by rfl,fun wz hSw=>?_⟩) hS0 ?_
   ·have hq:wz.cell? ⟨w.heap.size+1,0,none⟩=some (.slice (some ⟨g',oo',none⟩) n c'):=hSw.2.1.cell 0
    go_simp
   simp only [Act.put,zA,zB,zC]
   refine tq 7 rfl hS0 ?_
   refine tq 8 rfl hS0 ?_
   refine tk (v:=.agg x'.cs.toArray) 9 rfl (yieldsIf_load_mid (by rfl) 50 (.tmp 35) rfl g' (oo'+k*26) rfl x'.cs dk (fun _ h=>h.2.2.2) (uh HDK) (uh HDR) (sess_infoL (uh HXO))) hS0 ?_
   simp only [Act.put,zA,zB,zC]
   refine tk (v:=.bool false) 10 rfl (y_neq_agg 50 _ (.tmp 31) (.tmp 36) (by rfl) rfl x'.cs.toArray x'.cs.toArray rfl rfl (by kernel_rfl) (uh HN)) hS0 ?_
   simp only [Act.put,zA,zB,zC]
   refine wpAnyH_done (by kernel_rfl) (NoPanic.normal ?_) _
   clear hS0
   go_wp2_with fail
   go_roundw
   case rel=>exact ⟨k+1,by go_num,by omega,uh HB9,(uh M0).drew,(uh M1).drew⟩
   case measure=>simp [intOf]; omega
  ·have hge:((k:Int) < (n:Int))=False:=by simp; omega
   clear hlt hk
   go_wp2_with fail
   go_ret
   exact ⟨rfl,uh B2⟩
structure PE (w wr:World) (base q4 q7:Nat) (d:Wd) (vs vu vc vx vp:Value) (V:List Value) (E:List Sess) (vE:Value):Prop where
 b4:Blk wr q4 37 (WdCells d vs vu vc vx vp)
 b7:Blk wr q7 29 #[vE,.int .u32 (d.nx:Int)]
 s:wr.ownsRow base 50 26 vE E.length (flatS E)
 m:WdM wr base d vs vu vc vx vp V
 low:Below w.heap.size w wr
theorem PE.below {w wr wj:World} {base q4 q7:Nat} {d:Wd} {vs vu vc vx vp vE:Value} {V:List Value} {E:List Sess} (h:PE w wr base q4 q7 d vs vu vc vx vp V E vE) (hb:Below wr.heap.size wr wj):PE w wj base q4 q7 d vs vu vc vx vp V E vE :=
 ⟨h.b4.below hb h.b4.lt,h.b7.below hb h.b7.lt,own_below h.s hb,h.m.below hb,h.low.trans (hb.mono h.low.size)⟩
theorem ses_isRow2 :∃d,Tryz.prog.underlying 50=some d∧d.isRow=true:=⟨_,Tryz.underlying50,rfl⟩
set_option maxRecDepth 100000 in
set_option maxHeartbeats 16000000 in
theorem exp_any (hstep:StepAll) (w:World) (A:Option Addr) (n c:Nat) (bs:List UInt8) (hn:n≤c) (hc:c≤maxLen) (h:Reads w w.heap.size 1 A n (bsV bs)) (la:Nat) (hla:la < 65536) :
  Calls Tryz.prog 4 #[.slice A n c,.int .u16 (la:Int)] w fun e w'=>e=.returned (.bool true)∧Below w.heap.size w w':=by
 have HR:=jd h
 have HSTEP:=jd hstep
 clear h hstep
 go_enter Tryz.func4,Tryz.ntmps4
 go_wp2_with fail
 refine (awake_sx w).mono ?_
 rintro e w1 ⟨rfl,hb1⟩
 have HL1:=jd hb1
 have hs1:=hb1.size
 clear hb1
 go_wp2_with fail
 refine (new_any w1 A n c bs 300 (((uh HR).below (uh HL1)).more hs1) hn hc (by decide)).mono ?_
 rintro e w2 ⟨rfl,hc2,hb2⟩
 obtain ⟨g,hg⟩ :∃g,w1.heap.size=g:=⟨_,rfl⟩
 rw [hg] at hc2 ⊢
 have HC2:=jd hc2
 have HL2:=jd ((uh HL1).trans (hb2.mono hs1))
 have hwg:w.heap.size≤g:=by omega
 have hs2:g < w2.heap.size:=hc2.lt
 clear hc2 hb2 hg HL1 hs1 HR
 go_wp2_with fail
 refine (made_cx (uh HSTEP) w2 g g (uh HC2)).mono ?_
 rintro e w3 ⟨d,vs,vu,vc,vx,vp,V,rfl,hm,hok,hc3,hlow⟩
 obtain ⟨base,hbase⟩ :∃base,w2.heap.size=base:=⟨_,rfl⟩
 rw [hbase] at hm
 have hwb:w.heap.size≤base:=by omega
 have hs3:base≤w3.heap.size:=by have:=hlow.size; omega
 have HL3:=jd ((uh HL2).trans (hlow.mono hwg))
 have HOK:=jd hok
 obtain ⟨As,cs,e1,_,_⟩:=slice_of_own hm.s
 obtain ⟨Au,cu,e2,_,_⟩:=slice_of_own hm.u
 obtain ⟨Ac,cc,e3,_,_⟩:=slice_of_own hm.c
 obtain ⟨Ax,cx,e4,_,_⟩:=slice_of_own hm.x
 obtain ⟨Ap,cp,e5,_,_⟩:=slice_of_own hm.p
 subst e1 e2 e3 e4 e5
 have HM3:=jd hm
 obtain ⟨W4,hW4⟩ :∃W4,w3.alloc (.cells zWd 37)=W4:=⟨_,rfl⟩
 have hb4:Below w3.heap.size w3 W4:=hW4 ▸ (Below.refl _ _).alloc (Nat.le_refl _) _
 have HB4:=jd (hW4 ▸ Blk.new w3 _ _:Blk W4 w3.heap.size 37 zWd)
 have HW4:=jd hW4
 have HM4:=jd (hm.below hb4)
 have HL4:=jd ((uh HL3).trans (hb4.mono (uh HL3).size))
 obtain ⟨q4,hq4⟩ :∃q4,w3.heap.size=q4:=⟨_,rfl⟩
 have hn0:=hok.now0
 have hn1:=hok.now1
 have hn2:d.now≤2600:=by omega
 clear hm hok hc3 hlow hb4 hW4 HC2 HL2 hbase hs2 hn1
 go_upto_region 4 with (first
  |(refine wpList_alloc_to rfl 37 rfl zWd w3.heap.size rfl (alloc_wd _) ?_
    rw [uh HW4])
  |(refine wpList_store_blk rfl 37 (.tmp 5) (.tmp 15) rfl w3.heap.size 37 _ (WdCells d (.slice As d.L.length cs) (.slice Au d.U.length cu) (.slice Ac d.C.length cc) (.slice Ax d.X.length cx) (.slice Ap d.P.length cp)) rfl rfl (uh HB4) rfl wd_info (one7 rfl rfl rfl rfl rfl rfl rfl) ?_
    intro w5 hb5 hg5
    have HB5:=jd hb5
    have HM5:=jd ((uh HM4).stored (uh HB4) hg5 (by decide))
    have HL5:=jd ((uh HL4).grown hg5 (uh HL4).size (fun j hj=>by injection hj with hj; omega))
    clear hb5 hg5)
  | fail)
 simp only [Act.put,zA,zB,zC]
 rw [hq4] at HB5 ⊢
 have hq4b:base≤q4:=by omega
 clear HB4 HW4 HM4 HL4 HM3 HL3 hq4 hs3
 have c6:w5.cell? ⟨q4,6,none⟩=some (.int .i64 d.now):=(uh HB5).cell 6
 have hwl:IntKind.i64.wrap (la:Int)=(la:Int):=IntWalk.i64_in _ (by omega)
 have hwn:IntKind.i64.wrap (d.now+(la:Int))=d.now+(la:Int):=IntWalk.i64_in _ (by omega)
 obtain ⟨now,hnow⟩ :∃now,now=d.now+(la:Int):=⟨_,rfl⟩
 have htb:timeB now=true:=timeB_iff.2 (by omega)
 have hnb:0≤now∧now≤100000:=by omega
 have HTB:=jd htb
 have HNB:=jd hnb
 have HNOW:=jd hnow
 clear htb hnb hnow
 go_upto_region 5 with fail
 rw [← uh HNOW]
 clear c6 hwl hwn hn0 hn2 HNOW
 have HTAB:=jd (uh HOK).tab
 have hL4:=(validF_iff.1 (uh HTAB).val).1
 go_wp2_with (first
  | (refine wpList_load_mid rfl 29 (.tmp 21) rfl q4 0 rfl [.slice As d.L.length cs,.int .u32 (d.nx:Int)] _ (world_part0 (uh HB5)) Tryz.underlying29 rfl (by kernel_rfl) ?_)
  | fail)
 refine (expire_sx w5 As d.L.length cs d.L d.nx (sessL_of (uh HM5).s (uh HTAB).ok) (by omega) (uh HTAB).nx now).mono ?_
 rintro e w6 ⟨vE,rfl,hoE,hb6⟩
 obtain ⟨E,hE⟩ :∃E,E=expF d.L d.nx now:=⟨_,rfl⟩
 rw [← hE] at hoE
 have HE:=jd hE
 obtain ⟨AE,cE,e6,_,_⟩:=slice_of_own hoE
 subst e6
 have hs5:base≤w5.heap.size:=by have:=(uh HB5).lt; omega
 have HE6:=jd (own_more hoE hs5)
 have HB6:=jd ((uh HB5).below hb6 (uh HB5).lt)
 have HM6:=jd ((uh HM5).below hb6)
 have HL6:=jd ((uh HL5).trans (hb6.mono (uh HL5).size))
 obtain ⟨W7,hW7⟩ :∃W7,w6.alloc (.cells #[.slice none 0 0,.int .u32 0] 29)=W7:=⟨_,rfl⟩
 have hb7:Below w6.heap.size w6 W7:=hW7 ▸ (Below.refl _ _).alloc (Nat.le_refl _) _
 have HB7:=jd (hW7 ▸ Blk.new w6 _ _:Blk W7 w6.heap.size 29 #[.slice none 0 0,.int .u32 0])
 have HW7:=jd hW7
 have HM7:=jd ((uh HM6).below hb7)
 have HQ7:=jd ((uh HB6).below hb7 (uh HB6).lt)
 have HE7:=jd (own_below (uh HE6) hb7)
 have HL7:=jd ((uh HL6).trans (hb7.mono (uh HL6).size))
 obtain ⟨q7,hq7⟩ :∃q7,w6.heap.size=q7:=⟨_,rfl⟩
 have hq47:q4 < q7:=by have:=(uh HB6).lt; omega
 clear hb6 hb7 hW7 HB5 HM5 HL5 hoE hE hs5
 go_upto_region 6 with (first
  |(refine wpList_alloc_to rfl 29 rfl #[.slice none 0 0,.int .u32 0] w6.heap.size rfl (alloc_sl _) ?_
    rw [uh HW7])
  |(refine wpList_store_blk rfl 29 (.tmp 7) (.tmp 24) rfl w6.heap.size 29 _ #[.slice AE E.length cE,.int .u32 (d.nx:Int)] rfl rfl (uh HB7) rfl (by kernel_rfl) (by intro v hv; simp at hv; rcases hv with rfl | rfl<;>rfl) ?_
    intro w8 hb8 hg8
    rw [hq7] at hb8 hg8
    have PE8:Hid (PE w w8 base q4 q7 d (.slice As d.L.length cs) (.slice Au d.U.length cu) (.slice Ac d.C.length cc) (.slice Ax d.X.length cx) (.slice Ap d.P.length cp) V E (.slice AE E.length cE)):=jd ⟨(uh HQ7).grown hg8 (fun e=>by injection e with e; omega),hb8,(uh HE7).kept hg8 (.inr (own_blk_ne (uh HE7) (hq7 ▸ uh HB7) (by decide))),(uh HM7).stored (hq7 ▸ uh HB7) hg8 (by decide),(uh HL7).grown hg8 (uh HL7).size (fun j hj=>by injection hj with hj; omega)⟩
    clear hb8 hg8)
  | fail)
 simp only [Act.put,zA,zB,zC]
 rw [hq7]
 have c0:w8.cell? ⟨q4,0,none⟩=some (.slice As d.L.length cs):=(uh PE8).b4.cell 0
 clear HB6 HM6 HL6 HB7 HW7 HM7 HQ7 HL7 hq7 HE6 HE7
 go_wp2_with fail
 clear c0
 have hwz:=(uh PE8).low.size
 go_loopw [29] (fun i wr=>∃ k:Nat,i=.int .i64 (k:Int)∧k≤d.L.length∧Below w8.heap.size w8 wr) (fun i _=>d.L.length - (intOf i).toNat)
 case atStart=>exact ⟨0,rfl,Nat.zero_le _,Below.refl _ _⟩
 case round =>
  obtain ⟨k,rfl,hk,hb⟩:=hrel
  have HBo:=jd hb
  have PE1:=jd ((uh PE8).below hb)
  have hL5:(d.L.length:Int)≤4:=by omega
  clear hb
  by_cases hlt:k < d.L.length
  ·obtain ⟨x,hx⟩ :∃x,d.L[k]?=some x:=⟨_,List.getElem?_eq_getElem hlt⟩
   have hxo:=(uh HTAB).ok x (List.mem_of_getElem? hx)
   have hfl:=find_left (uh HTAB).val (uh HTB) (List.mem_of_getElem? hx)
   rw [← uh HE] at hfl
   have hxl:=(okE_parts (validF_ok (uh HTAB).val (List.mem_of_getElem? hx))).2.2.2
   obtain ⟨gs,cS2,cur,hvS,hgs,hbs,_,_,_,_,_,_,hrec⟩:=own_rec (m:=26) (cs:=Sess.cs) (uh PE1).m.s (by decide) (fun x hx=>Sess.len ((uh HTAB).ok x hx)) hx
   injection hvS with hA _ hcS
   subst hA hcS
   have HRG:=jd (show wr.rangeAt gs (k*26) x.cs from fun j v hv=>by rw [hbs.cell]; exact hrec j v hv)
   have HXO:=jd hxo
   have HFL:=jd hfl
   have HXL:=jd hxl
   obtain ⟨ds,hds,hdr⟩:=ses_isRow2
   have HDS:=jd hds
   have HDR:=jd hdr
   have hk2:(k:Int) < (d.L.length:Int):=by omega
   obtain ⟨W9,hW9⟩ :∃W9,wr.alloc (.cells zSess.cs.toArray 50)=W9:=⟨_,rfl⟩
   have hb9:Below wr.heap.size wr W9:=hW9 ▸ (Below.refl _ _).alloc (Nat.le_refl _) _
   have HB9:=jd (hW9 ▸ Blk.new wr _ _:Blk W9 wr.heap.size 50 zSess.cs.toArray)
   have HW9:=jd hW9
   have HL9:=jd hb9
   obtain ⟨q9,hq9⟩ :∃q9,wr.heap.size=q9:=⟨_,rfl⟩
   have hq9b:w8.heap.size≤q9:=by have:=(uh HBo).size; omega
   clear hx hxo hfl hxl hbs hrec hds hdr hW9 hb9 hgs
   go_upto_region 9 with (first
     | (refine wpList_load_mid rfl 50 (.tmp 31) rfl gs (k*26) rfl x.cs ds (uh HRG) (uh HDS) (uh HDR) (sess_infoL (uh HXO)) ?_)
     |(refine wpList_alloc_to rfl 50 rfl zSess.cs.toArray wr.heap.size rfl (alloc_sess _) ?_
       rw [uh HW9])
     |(refine wpList_store_blk rfl 50 (.tmp 9) (.tmp 32) rfl wr.heap.size 50 _ x.cs.toArray rfl rfl (uh HB9) (Sess.size_eq (uh HXO)) (sess_info (uh HXO)) (fun v hv=>Sess.one v (by simpa using hv)) ?_
       intro w10 hb10 hg10
       rw [hq9] at hb10
       have HB10:=jd hb10
       have HL10:Hid (Below w8.heap.size w8 w10):=jd ((((uh HBo).trans ((uh HL9).mono (by omega))).grown hg10 (by have:=(uh HBo).size; have:=(uh HL9).size; omega) (fun j hj=>by injection hj with hj; omega)))
       clear hb10 hg10)
     | fail)
   simp only [Act.put,zA,zB,zC]
   try rw [hq9]
   have PE2:=jd ((uh PE8).below (uh HL10))
   obtain ⟨op,hop⟩ :∃op,x.opn=op:=⟨_,rfl⟩
   have x21:=(Sess.blk (uh HXO) (uh HB10)).opn
   rw [hop] at x21
   have HOP:=jd hop
   clear HB9 HW9 HL9 hq9 HRG PE1 hop
   obtain ⟨lf,hlf⟩ :∃lf:Int,lf=(if op=true then 600 else 50):=⟨_,rfl⟩
   have HLF:Hid (leftF x=lf):=jd (by rw [hlf]; unfold leftF; rw [uh HOP])
   have hlfb:0≤lf∧lf≤600:=by rw [hlf]; split<;>omega
   have HLFB:=jd hlfb
   have HLFE:=jd hlf
   clear hlf hlfb
   go_upto_if 35 with fail
   go_cut [10] from 33 to 35 (fun v W=>v=.int .i64 lf∧W=w10)
   case first =>
     cases op
     ·obtain rfl:lf=50:=by rw [uh HLFE]; rfl
      go_wp2_with fail
      go_meet
      exact ⟨rfl,rfl⟩
     ·obtain rfl:lf=600:=by rw [uh HLFE]; rfl
      go_wp2_with fail
      go_meet
      exact ⟨rfl,rfl⟩
   case rest =>
     obtain ⟨rfl,hwc⟩:=hcut
     have hwc':=hwc.symm
     clear hwc
     subst hwc'
     clear x21
     obtain ⟨h20,h21⟩:=uh HXL
     obtain ⟨hl0,hl1⟩:=uh HLFB
     have hws:IntKind.i64.wrap (x.last+lf)=x.last+lf:=IntWalk.i64_in _ (by omega)
     obtain ⟨bn,hbn⟩ :∃bn,decide (now < x.last+lf)=bn:=⟨_,rfl⟩
     have HGE:Hid (decide (0≤findG (idP x.id) E 0)=bn):=jd (by rw [uh HFL,uh HLF]; exact hbn)
     have hEL:E.length≤4:=by rw [uh HE]; exact (validF_iff.1 (validF_exp (uh HTAB).val)).1
     have HEOK:Hid (AllOk E):=jd (by rw [uh HE]; exact expF_ok (uh HTAB).ok)
     go_upto_region 12 with fail
     have hS0:Below w10.heap.size w10 w10.drew:=(Below.refl _ _).drew
     refine wp_region_noPanic (wp_region_held_drew (S:=fun wz=>Below w10.heap.size w10 wz) (by kernel_rfl) hS0 (fun _=>?_))
     refine th_take (i:=0)  rfl (by kernel_rfl) (by kernel_rfl) (by kernel_rfl) (y_loadblk 29 (.tmp 7) (by rfl) rfl q7 rfl 29 #[.slice AE E.length cE,.int .u32 (d.nx:Int)] _ (fun _ h=>(uh PE2).b7.below h (uh PE2).b7.lt) Tryz.underlying29 rfl (by kernel_rfl)) hS0 ?_
     simp only [Act.put,zA,zB,zC]
     refine tq 1 rfl hS0 ?_
     refine tk (v:=.int .u32 (x.id:Int)) 2 rfl (Or.inl ⟨by rfl,fun wz hSw=>?_⟩) hS0 ?_
     ·have hq:=(Sess.blk (uh HXO) ((uh HB10).below hSw (uh HB10).lt)).id
      go_simp
     simp only [Act.put,zA,zB,zC]
     refine tq 5 rfl hS0 ?_
     refine tq 6 rfl hS0 ?_
     refine tk (v:=.int .i64 x.last) 7 rfl (Or.inl ⟨by rfl,fun wz hSw=>?_⟩) hS0 ?_
     ·have hq:=(Sess.blk (uh HXO) ((uh HB10).below hSw (uh HB10).lt)).last
      go_simp
     simp only [Act.put,zA,zB,zC]
     refine tq 8 rfl hS0 ?_
     refine tk (v:=.int .i64 (x.last+lf)) 9 rfl (Or.inl ⟨by rfl,fun wz hSw=>?_⟩) hS0 ?_
     ·skip
      go_simp
     simp only [Act.put,zA,zB,zC]
     refine tk (v:=.bool bn) 10 rfl (Or.inl ⟨by rfl,fun wz hSw=>?_⟩) hS0 ?_
     ·skip
      go_simp
     simp only [Act.put,zA,zB,zC]
     refine th_one (i:=3) rfl (by kernel_rfl) (fun K hK=>?_)
     rw [if_pos (by rfl)]
     go_simp
     refine (find_sx w10.drew AE E.length cE E d.nx (sessL_of (own_below (uh PE2).s hS0) (uh HEOK)) (by unfold maxLen; omega) x.id).mono ?_
     rintro e w12 ⟨rfl,hb12⟩
     have hS1:Below w10.heap.size w10 w12:=hS0.trans (hb12.mono hS0.size)
     obtain ⟨f,hf⟩ :∃f,findG (idP x.id) E 0=f:=⟨_,rfl⟩
     have hge:decide (0≤f)=bn:=by rw [← hf]; exact uh HGE
     rw [hf]
     clear hf hb12
     refine hK.out _ _ hS1 (fun _=>?_)
     clear hK K
     try simp only [Act.put,zA,zB,zC]
     refine tk (v:=.bool bn) 4 rfl (Or.inl ⟨by rfl,fun wz hSw=>?_⟩) hS1 ?_
     ·have hq:=hge
      go_simp
     simp only [Act.put,zA,zB,zC]
     refine tk (v:=.bool false) 11 rfl (Or.inl ⟨by rfl,fun wz hSw=>?_⟩) hS1 ?_
     ·skip
      go_simp
     simp only [Act.put,zA,zB,zC]
     refine wpAnyH_done (by kernel_rfl) (NoPanic.normal ?_) _
     have HLN:Hid (Below w8.heap.size w8 w12):=jd ((uh HL10).trans (hS1.mono (uh HL10).size))
     clear hge hbn hS0 hS1 hws
     go_wp2_with fail
     go_roundw
     case rel=>exact ⟨k+1,by go_num,by omega,uh HLN⟩
     case measure=>simp [intOf]; omega
  ·have hge:((k:Int) < (d.L.length:Int))=False:=by simp; omega
   clear hlt hk
   have hEL:E.length≤4:=by rw [uh HE]; exact (validF_iff.1 (validF_exp (uh HTAB).val)).1
   have HEOK:Hid (AllOk E):=jd (by rw [uh HE]; exact expF_ok (uh HTAB).ok)
   have HTW:Hid (expF E d.nx now=E):=jd (by rw [uh HE]; exact exp_twice (uh HTAB).val (uh HTB))
   go_upto_region 15 with fail
   clear hge
   have hS0:Below wr.heap.size wr wr.drew:=(Below.refl _ _).drew
   refine wp_region_noPanic (wp_region_held_drew (S:=fun wz=>Below wr.heap.size wr wz) (by kernel_rfl) hS0 (fun _=>?_))
   refine th_take (i:=0)  rfl (by kernel_rfl) (by kernel_rfl) (by kernel_rfl) (y_loadblk 29 (.tmp 7) (by rfl) rfl q7 rfl 29 #[.slice AE E.length cE,.int .u32 (d.nx:Int)] _ (fun _ h=>(uh PE1).b7.below h (uh PE1).b7.lt) Tryz.underlying29 rfl (by kernel_rfl)) hS0 ?_
   simp only [Act.put,zA,zB,zC]
   refine th_take (i:=1)  rfl (by kernel_rfl) (by kernel_rfl) (by kernel_rfl) (y_loadblk 29 (.tmp 7) (by rfl) rfl q7 rfl 29 #[.slice AE E.length cE,.int .u32 (d.nx:Int)] _ (fun _ h=>(uh PE1).b7.below h (uh PE1).b7.lt) Tryz.underlying29 rfl (by kernel_rfl)) hS0 ?_
   simp only [Act.put,zA,zB,zC]
   refine tq 2 rfl hS0 ?_
   refine th_one (i:=3) rfl (by kernel_rfl) (fun K hK=>?_)
   rw [if_pos (by rfl)]
   go_simp
   refine (expire_sx wr.drew AE E.length cE E d.nx (sessL_of (own_below (uh PE1).s hS0) (uh HEOK)) (by omega) (uh HTAB).nx now).mono ?_
   rintro e w12 ⟨v12,rfl,ho12,hb12⟩
   rw [uh HTW] at ho12
   obtain ⟨A12,c12,e12,_,_⟩:=slice_of_own ho12
   subst e12
   have hS1:Below wr.heap.size wr w12:=hS0.trans (hb12.mono hS0.size)
   have HO12:=jd ho12
   clear ho12 hb12
   refine hK.out _ _ hS1 (fun _=>?_)
   clear hK K
   try simp only [Act.put,zA,zB,zC]
   refine th_one (i:=4) rfl (by kernel_rfl) (fun K hK=>?_)
   rw [if_pos (by rfl)]
   go_simp
   refine (rsame_sx w12 AE A12 E.length cE c12 E d.nx (sessL_of (own_below (uh PE1).s hS1) (uh HEOK)) (sessL_of (uh HO12) (uh HEOK)) (by omega)).mono ?_
   rintro e w13 ⟨rfl,hb13⟩
   have hS2:Below wr.heap.size wr w13:=hS1.trans (hb13.mono hS1.size)
   clear hb13
   refine hK.out _ _ hS2 (fun _=>?_)
   clear hK K
   try simp only [Act.put,zA,zB,zC]
   refine tq 5 rfl hS2 ?_
   refine tq 6 rfl hS2 ?_
   refine tk (v:=.int .u32 (d.nx:Int)) 7 rfl (Or.inl ⟨by rfl,fun wz hSw=>?_⟩) hS2 ?_
   · have hq:wz.cell? ⟨q7,1,none⟩=some (.int .u32 (d.nx:Int)):=((uh PE1).b7.below hSw (uh PE1).b7.lt).cell 1
     go_simp
   simp only [Act.put,zA,zB,zC]
   refine tq 8 rfl hS2 ?_
   refine tq 9 rfl hS2 ?_
   refine tk (v:=.int .u32 (d.nx:Int)) 10 rfl (Or.inl ⟨by rfl,fun wz hSw=>?_⟩) hS2 ?_
   · have hq:wz.cell? ⟨q4,1,none⟩=some (.int .u32 (d.nx:Int)):=((uh PE1).b4.below hSw (uh PE1).b4.lt).cell 1
     go_simp
   simp only [Act.put,zA,zB,zC]
   refine tq 11 rfl hS2 ?_
   refine tq 12 rfl hS2 ?_
   refine tq 13 rfl hS2 ?_
   refine wpAnyH_done (by kernel_rfl) (NoPanic.normal ?_) _
   have HLN:Hid (Below w.heap.size w w13):=jd ((uh PE1).low.trans (hS2.mono (uh PE1).low.size))
   clear hS0 hS1 hS2
   go_wp2_with fail
   go_ret
   exact ⟨rfl,uh HLN⟩
theorem exp_law (w:World) (A:Option Addr) (n c:Nat) (bs:List UInt8) (hn:n≤c) (hc:c≤maxLen) (h:Reads w w.heap.size 1 A n (bsV bs)) (a:Int) (ha:0≤a∧a≤65535) :
  Calls Tryz.prog 4 #[.slice A n c,.int .u16 a] w fun e w'=>e=.returned (.bool true)∧Below w.heap.size w w':=by
 obtain ⟨la,rfl⟩:=Int.eq_ofNat_of_zero_le ha.1
 exact exp_any step_all w A n c bs hn hc h la (by omega)
end Go.Proofs.YtfbkkmnkpjgciaaGreat
