/- Joined of GExp. No condition. -/
import Derived.Test.YtfbkkmnkpjgciaaGreatPG16
import Derived.Test.YtfbkkmnkpjgciaaGreatPG17
import Derived.Test.YtfbkkmnkpjgciaaGreatPG12
namespace Go.Proofs.YtfbkkmnkpjgciaaGreat
open Go.RowKit
section
variable {ops:Array Oper} {rest:List Oper} {o:Oper} {a:Act} {Q:Exit→Act→World→Prop}
theorem wpList_appS (w:World) (s x:Operand) (v:Value) (A:Option Addr) (m c:Nat) (ho:o.op=.call { callee:=.builtin .append,args:=#[s,x],argTypes:=#[26,26] }) (hgd:o.guard=none) (hs:a.eval s=v) (hx:a.eval x=.slice A m c)
  (base n:Nat) (l:List Sess) (hown:w.ownsRow base 50 26 v n (Zat l)) (Bd:Nat) (l2:List Sess) (hr:Zaj w Bd 26 A m (Zat l2)) (h63:n+m≤1000000) (hbase:base≤w.heap.size)
  (h:∀ A' c' w',w'.ownsRow base 50 26 (.slice A' (n+m) c') (n+m) (Zat (l++l2))→n+m≤c'→c'≤maxLen→Below base w w'→wpList Tryz.prog ops Q rest (a.put o.dst (.slice A' (n+m) c')) w'):wpList Tryz.prog ops Q (o::rest) a w:=by
 obtain ⟨i0,hi,hz0,hz1,hz2⟩:=info_parts ZeG
 refine ZaM w hgd s x 26 ho base 50 i0 (.agg Za7.cs.toArray) 26 88 Tryz.underlying26 hi hz0 hz1 hz2 ZcU (by omega) v n (Zat l) hs hown Bd A m c (Zat l2) hx hr (Zdt _) (by unfold maxLen; omega) (by omega) hbase fun v' w' ho2 hg _=>?_
 obtain ⟨A',c',rfl,h1,h2⟩:=Zac ho2
 rw [show Zat l++Zat l2=Zat (l++l2) by simp [Zat]] at ho2
 exact h A' c' w' ho2 h1 h2 ((Below.refl base w).grown hg hbase (Zaw hown))
theorem step_appS {K:Act→World→Prop} {E:Prop} (w:World) (s x:Operand) (v:Value) (A:Option Addr) (m c:Nat) (ho:o.op=.call { callee:=.builtin .append,args:=#[s,x],argTypes:=#[26,26] }) (hgd:o.guard=none) (hs:a.eval s=v) (hx:a.eval x=.slice A m c)
  (base n:Nat) (l:List Sess) (hown:w.ownsRow base 50 26 v n (Zat l)) (Bd:Nat) (l2:List Sess) (hr:Zaj w Bd 26 A m (Zat l2)) (h63:n+m≤1000000) (hbase:base≤w.heap.size)
  (h:∀ A' c' w',w'.ownsRow base 50 26 (.slice A' (n+m) c') (n+m) (Zat (l++l2))→n+m≤c'→c'≤maxLen→Below base w w'→K (a.put o.dst (.slice A' (n+m) c')) w') :
  if Region.wanted o (yielded ops a.tmps)=true then Oper.wp Tryz.prog o a w K Q else E:=by
 obtain ⟨i0,hi,hz0,hz1,hz2⟩:=info_parts ZeG
 refine ZaJ w hgd s x 26 ho base 50 i0 (.agg Za7.cs.toArray) 26 88 Tryz.underlying26 hi hz0 hz1 hz2 ZcU (by omega) v n (Zat l) hs hown Bd A m c (Zat l2) hx hr (Zdt _) (by unfold maxLen; omega) (by omega) hbase fun v' w' ho2 hg _=>?_
 obtain ⟨A',c',rfl,h1,h2⟩:=Zac ho2
 rw [show Zat l++Zat l2=Zat (l++l2) by simp [Zat]] at ho2
 exact h A' c' w' ho2 h1 h2 ((Below.refl base w).grown hg hbase (Zaw hown))
end
theorem step_build {P:Program} {o:Oper} {a:Act} {w:World} {K:Act→World→Prop} {Q:Exit→Act→World→Prop} (t:TypeId) (parts:Array (Nat × Operand)) (ho:o.op=.build t parts) (pl:List (Nat × Value)) (hp:(parts.toList.map fun p=>(p.1,a.eval p.2))=pl) (v:Value)
  (hr:(Instr.build t pl.toArray).run P w=.ok v w) (h:K (a.put o.dst v) w):Oper.wp P o a w K Q:=by
 have hq:(parts.map fun p=>(p.1,a.eval p.2))=pl.toArray:=by rw [← hp]; apply Array.ext'; simp
 unfold Oper.wp execOp
 simp only [ho,Sem.run_bind]
 rw [hq,hr]
 exact h
set_option maxRecDepth 100000 in
set_option maxHeartbeats 4000000 in
theorem Zer (w:World) (A:Option Addr) (n c:Nat) (L:List Sess) (nx:Int) (h:ZaA w w.heap.size A n L) (hnm:n≤maxLen) (id:Nat) :
  Calls Tryz.prog 27 #[.agg #[.slice A n c,.int .u32 nx],.int .u32 (id:Int)] w fun e w'=>e=.returned (.int .i64 (Zbl (idP id) L 0))∧Below w.heap.size w w':=by
 unfold maxLen at hnm
 have HB0:=jd ((Below.refl w.heap.size w).alloc (Nat.le_refl _) (.cells #[.slice A n c,.int .u32 nx] 29))
 have HK0:=jd (Blk.new w 29 #[.slice A n c,.int .u32 nx])
 have HS:=jd h
 clear h
 go_enter Tryz.func27,Tryz.ntmps27
 go_wp2_with fail
 go_loopw [5] (fun i wr=>∃ k:Nat,k≤n∧i=.int .i64 k∧Hid (Zbl (idP id) (L.drop k) k=Zbl (idP id) L 0)∧Blk wr w.heap.size 29 #[.slice A n c,.int .u32 nx]∧Below w.heap.size w wr) (fun i _=>n - (intOf i).toNat)
 case atStart=>exact ⟨0,by omega,rfl,jd (by rw [List.drop_zero]),uh HK0,uh HB0⟩
 case round =>
  obtain ⟨k,hk,rfl,hrk,hK,hB⟩:=hrel
  have HK:=jd hK
  have HB:=jd hB
  have dr:wr.cell? ⟨w.heap.size,0,none⟩=some (.slice A n c):=hK.cell 0
  clear hK hB
  by_cases hlt:k < n
  ·obtain ⟨g,oo,x,rfl,hg,hx,hxo,hrg⟩:=((uh HS).below (uh HB)).at_ hlt
   have hfd:=ZeB (p:=idP id) hx
   have hc0:wr.cell? ⟨g,oo+k*26,none⟩=some (.int .u32 (x.id:Int)):=(Sess.range hxo hrg).id
   have hlt2:(k:Int) < (n:Int):=by omega
   have hxl:=hxo.id
   by_cases he:x.id=id
   ·have e1:idP id x=true:=by simp [idP,he]
    rw [e1,if_pos rfl] at hfd
    have hres:Zbl (idP id) L 0=(k:Int):=by rw [← uh hrk,hfd]
    have HRES:=jd hres
    have eqi:((x.id:Int)==(id:Int))=true:=by simp [he]
    clear hfd hx hxo hrg hrk hres e1 he
    go_wp2_with fail
    go_ret
    exact ⟨by rw [uh HRES]; rfl,uh HB⟩
   ·have e1:idP id x=false:=by simp [idP,he]
    rw [e1,if_neg (by simp)] at hfd
    have HRES:Hid (Zbl (idP id) (L.drop (k+1)) (k+1)=Zbl (idP id) L 0):=jd (by rw [← hfd]; exact uh hrk)
    have eqi:((x.id:Int)==(id:Int))=false:=by simp; omega
    clear hfd hx hxo hrg hrk e1 he
    go_wp2_with fail
    go_roundw
    case rel=>exact ⟨k+1,by omega,by go_num,HRES,uh HK,uh HB⟩
    case measure=>simp [intOf]; omega
  ·obtain rfl:k=n:=by omega
   have hdr:L.drop k=[]:=List.drop_of_length_le (by have:=(uh HS).len; omega)
   have h0:=uh hrk
   rw [hdr] at h0
   have HRES:Hid (Zbl (idP id) L 0=-1):=jd (by rw [← h0]; rfl)
   clear hrk hdr h0
   go_wp2_with fail
   go_ret
   exact ⟨by rw [uh HRES]; rfl,uh HB⟩
set_option maxRecDepth 100000 in
set_option maxHeartbeats 4000000 in
theorem ZeP (w:World) (A:Option Addr) (n c:Nat) (L:List Sess) (nx:Nat) (h:ZaA w w.heap.size A n L) (hn:n≤1000) :
  Calls Tryz.prog 71 #[.agg #[.slice A n c,.int .u32 (nx:Int)]] w (Zcm w L nx):=by
 obtain ⟨W2,hW2⟩ :∃W2,((w.alloc (.cells #[.slice A n c,.int .u32 (nx:Int)] 29)).alloc (.cells #[.slice none 0 0,.int .u32 0] 29))=W2:=⟨_,rfl⟩
 have K0:Hid (Blk W2 w.heap.size 29 #[.slice A n c,.int .u32 (nx:Int)]):=jd (hW2 ▸ (Blk.new w _ _).alloc _)
 have K1:Hid (Blk W2 (w.heap.size+1) 29 #[.slice none 0 0,.int .u32 0]):=jd (hW2 ▸ Blk.new' (by simp))
 have B0:Hid (Below w.heap.size w W2):=jd (hW2 ▸ (((Below.refl _ _).alloc (Nat.le_refl _) _).alloc (by rw [Zae]; omega) _))
 have HR:=jd ((h.reads.below (uh B0)))
 have hl:=h.len
 have HL:=jd hl
 clear h hl
 go_enter Tryz.func71,Tryz.ntmps71
 go_wp2_with fail
 have hB0:Below W2.heap.size W2 W2.drew:=(Below.refl _ _).drew
 have hS0:(fun wz=>Blk wz w.heap.size 29 #[.slice A n c,.int .u32 (nx:Int)]) W2.drew:=(uh K0)
 refine wp_region_noPanic (wp_region_held_drew (S:=fun wz=>Blk wz w.heap.size 29 #[.slice A n c,.int .u32 (nx:Int)]) (by kernel_rfl) hS0 (fun _=>?_))
 clear hB0
 refine tq 0 rfl hS0 ?_
 refine tJz (v:=(.slice A n c)) 1 rfl (Or.inl ⟨by rfl,fun wz hSw=>?_⟩) hS0 ?_
 ·have hcz:=hSw.cell 0
  simp only [List.getElem?_toArray,List.getElem?_cons_zero] at hcz
  go_simp
 refine tq 3 rfl hS0 ?_
 refine tJz (v:=(.int .u32 (nx:Int))) 4 rfl (Or.inl ⟨by rfl,fun wz hSw=>?_⟩) hS0 ?_
 ·have hcz:=hSw.cell 1
  simp only [List.getElem?_toArray,List.getElem?_cons_zero,List.getElem?_cons_succ] at hcz
  go_simp
 refine tOz 2 rfl fun K hK=>?_
 refine step_appS W2.drew (.const (.slice none 0 0)) (.tmp 4) _ A n c rfl rfl rfl rfl W2.heap.size 0 [] (World.ownsRow_nil W2.drew W2.heap.size 50 26) _ L (uh HR).drew (by omega) (Nat.le_refl _) ?_
 intro A3 c3 w3 o3 hc3 hm3 b3
 rw [Nat.zero_add,List.nil_append] at o3
 simp only [Nat.zero_add]
 have h3:Below W2.heap.size W2 w3:=(Below.refl _ _).drew.trans b3
 refine hK.out _ _ ((uh K0).below h3 (uh K0).lt) (fun _=>?_)
 clear hK K
 try simp only [Act.put,zA,zB,zC]
 refine tCz 5 rfl fun K hK=>?_
 refine step_build 29 _ rfl [(0,.slice A3 n c3),(1,.int .u32 (nx:Int))] rfl _ (bld_sl w3 A3 n c3 (nx:Int)) ?_
 refine hK.out _ _ ((uh K0).below h3 (uh K0).lt) (fun _=>?_)
 clear hK K
 try simp only [Act.put,zA,zB,zC]
 refine tOz 6 rfl fun K hK=>?_
 refine Zaf (by rfl) 29 (.tmp 2) (.tmp 8) rfl (w.heap.size+1) 29 _ #[.slice A3 n c3,.int .u32 (nx:Int)] rfl rfl ((uh K1).below h3 (uh K1).lt) rfl (by kernel_rfl) (oZz rfl rfl) ?_
 intro w4 hb4 hg4
 have h4:Below w.heap.size w w4:=((uh B0).trans (h3.mono (uh B0).size)).grown hg4 (by have:=(uh B0).size; have:=h3.size; omega) (fun j e=>by injection e with e; omega)
 have o4:=World.ownsRow.kept o3 hg4 (.inr (Zad o3 ((uh K1).below h3 (uh K1).lt) (by decide)))
 have R4:=jd hb4
 have H4:=jd h4
 have O4:=jd (Zak o4 (by have:=(uh B0).size; omega:w.heap.size≤W2.heap.size))
 refine hK.out _ _ (((uh K0).below h3 (uh K0).lt).grown hg4 (fun e=>by injection e with e; omega)) (fun _=>?_)
 clear hK K hb4 hg4 h4 o4 o3
 try simp only [Act.put]
 refine tDz ?_
 go_wp2_with fail
 exact bodyPost_ret (v:=.agg #[.slice A3 n c3,.int .u32 (nx:Int)]) (Zba rfl _ (w.heap.size+1) 29 _ _ rfl (uh R4) Tryz.underlying29 rfl (by kernel_rfl)) rfl (show Zcm w L nx _ _ from ⟨_,rfl,by rw [uh HL]; exact uh O4,uh H4⟩)
theorem keep_step {p:Sess→Bool} {L:List Sess} {k:Nat} {x:Sess} (h:L[k]?=some x):ZbU p (L.take (k+1))=ZbU p (L.take k)++(if p x=true then [] else [x]):=by
 unfold ZbU
 rw [List.take_add_one,h,List.filter_append]
 congr 1
 cases hp:p x<;>simp [hp]
set_option maxRecDepth 100000 in
set_option maxHeartbeats 8000000 in
theorem rexpire_sx (w:World) (A:Option Addr) (n c:Nat) (L:List Sess) (nx:Nat) (h:ZaA w w.heap.size A n L) (hn:n≤1000) (hnx:nx < 4294967296) (now:Int) :
  Calls Tryz.prog 28 #[.agg #[.slice A n c,.int .u32 (nx:Int)],.int .i64 now] w (Zcm w (expF L nx now) nx):=by
 obtain ⟨W2,hW2⟩ :∃W2,((w.alloc (.cells #[.slice A n c,.int .u32 (nx:Int)] 29)).alloc (.cells #[.slice none 0 0,.int .u32 0] 29))=W2:=⟨_,rfl⟩
 have K0:Hid (Blk W2 w.heap.size 29 #[.slice A n c,.int .u32 (nx:Int)]):=jd (hW2 ▸ (Blk.new w _ _).alloc _)
 have K1:Hid (Blk W2 (w.heap.size+1) 29 #[.slice none 0 0,.int .u32 0]):=jd (hW2 ▸ Blk.new' (by simp))
 have B0:Hid (Below w.heap.size w W2):=jd (hW2 ▸ (((Below.refl _ _).alloc (Nat.le_refl _) _).alloc (by rw [Zae]; omega) _))
 have HS:=jd h
 have hl:=h.len
 have HL:=jd hl
 have HN:=jd hn
 obtain ⟨vl,hvl⟩ :∃b,ZaS L nx=b:=⟨_,rfl⟩
 obtain ⟨tl,htl⟩ :∃b,ZcR now=b:=⟨_,rfl⟩
 have HV:=jd hvl
 have HT:=jd htl
 have HE:Hid (expF L nx now=if (vl && tl)=true then ZbU (oldP now) L else L):=jd (by rw [← hvl,← htl]; rfl)
 have hnm:(n:Int)≤1000:=by omega
 clear hvl htl h hl hn
 go_enter Tryz.func28,Tryz.ntmps28
 go_wp2_with (first
  | (refine wpList_load_row rfl 29 _ rfl w.heap.size rfl 29 _ _ _ (uh K0) Tryz.underlying29 rfl (by kernel_rfl) ?_)
  | fail)
 refine (Zds W2 A n c L nx (((uh HS).below (uh B0)).more (uh B0).size) (by unfold maxLen; omega) hnx vl (uh HV)).mono ?_
 rintro e w3 ⟨rfl,hb3⟩
 have K0:=jd ((uh K0).below hb3 (uh K0).lt)
 have K1:=jd ((uh K1).below hb3 (uh K1).lt)
 have B3:=jd ((uh B0).trans (hb3.mono (uh B0).size))
 have hs3:w.heap.size+2≤w3.heap.size:=by have:=(uh K1).lt; omega
 clear hb3 B0
 have HTM:Hid (decide (0≤now∧now≤17179869184)=tl):=jd (by rw [← uh HT]; rfl)
 cases hvt:(vl && tl)
 case false =>
  have hE:expF L nx now=L:=by rw [uh HE,hvt]; rfl
  have HEE:=jd hE
  have hCo:=fun W=>ZeP W A n c L nx
  have HCO:=jd hCo
  clear hE hCo
  clear HE
  rcases (show vl=false∨(vl=true∧tl=false) by revert hvt; cases vl<;>cases tl<;>simp) with rfl | ⟨rfl,rfl⟩
  all_goals
   clear hvt
   go_wp2_with (first
    | (go_at_call 72; refine (Zbv _ now _ (uh HTM)).mono ?_; rintro e w' ⟨rfl,rfl⟩)
    | (refine wpList_load_row rfl 29 _ rfl w.heap.size rfl 29 _ _ _ (uh K0) Tryz.underlying29 rfl (by kernel_rfl) ?_)
    | fail)
   refine (uh HCO w3 (((uh HS).below (uh B3)).more (uh B3).size) (uh HN)).mono ?_
   rintro e w4 ⟨v,rfl,ho,hb⟩
   have K1':=jd ((uh K1).below hb (uh K1).lt)
   have B4:=jd ((uh B3).trans (hb.mono (uh B3).size))
   have O4:=jd (Zak ho (uh B3).size)
   obtain ⟨A4,c4,rfl,_,_⟩:=Zac ho
   clear hb ho
   go_wp2_with (first
    | (refine Zaa rfl 29 (.tmp 4) (.tmp 17) rfl (w.heap.size+1) 29 _ #[.slice A4 L.length c4,.int .u32 (nx:Int)] rfl rfl (uh K1') rfl (by kernel_rfl) (oZz rfl rfl) ?_
       intro w5 hb5 hg5
       have R5:=jd hb5
       have B5:=jd (gWz (uh B4) hg5)
       have O5:=jd (World.ownsRow.kept (uh O4) hg5 (.inr (Zad (uh O4) (uh K1') (by decide))))
       clear hb5 hg5)
    | fail)
   exact bodyPost_ret (v:=.agg #[.slice A4 L.length c4,.int .u32 (nx:Int)]) (Zba rfl _ (w.heap.size+1) 29 _ _ rfl (uh R5) Tryz.underlying29 rfl (by kernel_rfl)) rfl (show Zcm w (expF L nx now) nx _ _ from ⟨_,rfl,by rw [uh HEE]; exact uh O5,uh B5⟩)
 case true =>
  have hE:expF L nx now=ZbU (oldP now) L:=by rw [uh HE,hvt]; rfl
  have HEE:=jd hE
  obtain ⟨rfl,rfl⟩:vl=true∧tl=true:=by simpa using hvt
  have hnow:0≤now∧now≤17179869184:=by have:=uh HTM; simpa using this
  have hn0:=hnow.1
  have hn1:=hnow.2
  clear hE hvt HE hnow
  have c1:w3.cell? ⟨w.heap.size,1,none⟩=some (.int .u32 (nx:Int)):=(uh K0).cell 1
  have K0':=jd ((uh K0).alloc (.cells #[.slice none 0 0,.int .u32 0] 29))
  have K1':=jd ((uh K1).alloc (.cells #[.slice none 0 0,.int .u32 0] 29))
  have K5:=jd (Blk.new w3 29 #[.slice none 0 0,.int .u32 0])
  have B3':=jd ((uh B3).alloc (uh B3).size (.cells #[.slice none 0 0,.int .u32 0] 29))
  go_upto_region 4 with (first
   | (go_at_call 72; refine (Zbv _ now _ (uh HTM)).mono ?_; rintro e w' ⟨rfl,rfl⟩)
   | (refine Zag rfl 29 rfl _ w3.heap.size rfl (ZaB _) ?_)
   |(refine Zaa rfl 29 (.tmp 5) (.tmp 20) rfl w3.heap.size 29 _ #[.slice none 0 0,.int .u32 (nx:Int)] rfl rfl (uh K5) rfl (by kernel_rfl) (oZz rfl rfl) ?_
     intro w5 hb5 hg5
     have G5:=jd hb5
     have G0:=jd ((uh K0').grown hg5 (fun e=>by injection e with e; omega))
     have G1:=jd ((uh K1').grown hg5 (fun e=>by injection e with e; omega))
     have B5:=jd ((uh B3').grown hg5 (uh B3').size (fun j e=>by injection e with e; omega))
     have hs5:w3.heap.size < w5.heap.size:=hb5.lt
     clear hb5 hg5)
   | fail)
  clear c1 K0 K1 K0' K1' K5 B3 B3' HTM
  go_wp2_with fail
  go_loopw [6] (fun i wr=>∃ (k m c2:Nat) (A2:Option Addr),k≤n∧i=.int .i64 k∧Hid (m=(ZbU (oldP now) (L.take k)).length)∧Blk wr w.heap.size 29 #[.slice A n c,.int .u32 (nx:Int)]∧Blk wr (w.heap.size+1) 29 #[.slice none 0 0,.int .u32 0]∧Blk wr w3.heap.size 29 #[.slice A2 m c2,.int .u32 (nx:Int)]∧wr.ownsRow (w3.heap.size+1) 50 26 (.slice A2 m c2) m (Zat (ZbU (oldP now) (L.take k)))∧Below w.heap.size w wr) (fun i _=>n - (intOf i).toNat)
  case atStart=>exact ⟨0,0,0,none,by omega,rfl,jd (by simp [ZbU]),uh G0,uh G1,uh G5,World.ownsRow_nil _ _ _ _,uh B5⟩
  case round =>
   obtain ⟨k,m,c2,A2,hk,rfl,hm,h0,h1,h5,ho,hB⟩:=hrel
   have dr:wr.cell? ⟨w.heap.size,0,none⟩=some (.slice A n c):=h0.cell 0
   have G0:=jd h0
   have G1:=jd h1
   have G5:=jd h5
   have O:=jd ho
   have B:=jd hB
   have hmk:m≤k:=by
    have:=keepL_le (oldP now) (L.take k)
    have h2:(L.take k).length≤k:=List.length_take_le _ _
    have:=uh hm
    omega
   have hsr:w3.heap.size+1≤wr.heap.size:=h5.lt
   clear h0 h1 h5 ho hB
   by_cases hlt:k < n
   ·obtain ⟨g,oo,x,rfl,hg,hx,hxo,hrg⟩:=((uh HS).below (uh B)).at_ hlt
    have HKS:=jd (keep_step (p:=oldP now) hx)
    have HX:=jd hxo
    have HRG:=jd hrg
    have HN:=jd (Blk.new wr 50 Za7.cs.toArray)
    have hlt2:(k:Int) < (n:Int):=by omega
    have Y0:=jd ((Below.refl wr.heap.size wr).alloc (Nat.le_refl _) (.cells Za7.cs.toArray 50))
    clear hx hxo hrg
    go_upto_region 8 with (first
      | (refine wpList_load_mid rfl 50 (.tmp 31) rfl g (oo+k*26) rfl _ _ (uh HRG) Tryz.underlying50 rfl (Zbf (uh HX)) ?_)
      | (refine Zag rfl 50 rfl _ wr.heap.size rfl (ZbL _) ?_)
      | (refine Zaa rfl 50 (.tmp 7) (.tmp 32) rfl wr.heap.size 50 _ x.cs.toArray rfl rfl (uh HN) (Sess.size_eq (uh HX)) (Zbb (uh HX)) (fun v hv=>Sess.one v (by simpa using hv)) ?_
         intro w6 hb6 hg6
         have X6:=jd hb6
         have Y6:=jd ((uh Y0).grown hg6 (by rw [Zae]; omega) (fun j e=>by injection e with e; omega))
         have hs6:wr.heap.size < w6.heap.size:=hb6.lt
         clear hb6 hg6
         simp only [Act.put,zA,zB,zC])
      | fail)
    have hat:=(Sess.blk (uh HX) (uh X6))
    have c25:=hat.last
    have c21:=hat.opn
    have G0:=jd ((uh G0).below (uh Y6) (uh G0).lt)
    have G1:=jd ((uh G1).below (uh Y6) (uh G1).lt)
    have G5:=jd ((uh G5).below (uh Y6) (uh G5).lt)
    have O6:=jd (Zam (uh O) (uh Y6))
    have B6:=jd ((uh B).trans ((uh Y6).mono (by omega)))
    have q0:w6.cell? ⟨w3.heap.size,0,none⟩=some (.slice A2 m c2):=(uh G5).cell 0
    have qf:w6.frozen? ⟨w3.heap.size,0,none⟩=false:=(uh G5).frozen 0
    obtain ⟨ob,hob⟩ :∃b,oldP now x=b:=⟨_,rfl⟩
    have HOB:=jd hob
    clear hat hob dr HRG HN O Y0
    go_cut [53] from 21 to 59 (fun b W=>W=w6∧b=.bool ob)
    case first =>
      cases hop:x.opn with
      | true =>
        rw [hop] at c21
        have e1:oldP now x=decide (x.last≤now - 600):=by unfold oldP; rw [hop,if_pos rfl]
        by_cases hle:x.last≤now - 600
        · have hb:ob=true:=by rw [← uh HOB,e1]; simpa using hle
          have el:(x.last≤now - 600)=True:=by simp; omega
          have el2:decide (x.last≤now - 600)=true:=by simpa using hle
          clear e1 hop HOB
          go_wp2_with fail
          go_meet
          exact ⟨rfl,by rw [hb]⟩
        · have hb:ob=false:=by rw [← uh HOB,e1]; simpa using hle
          have el:(x.last≤now - 600)=False:=by simp; omega
          have el2:decide (x.last≤now - 600)=false:=by simpa using hle
          clear e1 hop HOB
          go_wp2_with fail
          go_meet
          exact ⟨rfl,by rw [hb]⟩
      | false =>
        rw [hop] at c21
        have e1:oldP now x=decide (x.last≤now - 50):=by unfold oldP; rw [hop,if_neg (by simp)]
        by_cases hle:x.last≤now - 50
        · have hb:ob=true:=by rw [← uh HOB,e1]; simpa using hle
          have el:(x.last≤now - 50)=True:=by simp; omega
          have el2:decide (x.last≤now - 50)=true:=by simpa using hle
          clear e1 hop HOB
          go_wp2_with fail
          go_meet
          exact ⟨rfl,by rw [hb]⟩
        · have hb:ob=false:=by rw [← uh HOB,e1]; simpa using hle
          have el:(x.last≤now - 50)=False:=by simp; omega
          have el2:decide (x.last≤now - 50)=false:=by simpa using hle
          clear e1 hop HOB
          go_wp2_with fail
          go_meet
          exact ⟨rfl,by rw [hb]⟩
    case rest =>
      obtain ⟨hwc,rfl⟩:=hcut
      subst hwc
      cases ob with
      | true =>
        have HE2:Hid (ZbU (oldP now) (L.take (k+1))=ZbU (oldP now) (L.take k)):=jd (by rw [uh HKS,uh HOB,if_pos rfl,List.append_nil])
        go_wp2_with fail
        go_roundw
        case rel=>exact ⟨k+1,m,c2,A2,by omega,by go_num,jd (by rw [uh HE2]; exact uh hm),uh G0,uh G1,uh G5,by rw [uh HE2]; exact uh O6,uh B6⟩
        case measure=>simp [intOf]; omega
      | false =>
        have HE2:Hid (ZbU (oldP now) (L.take (k+1))=ZbU (oldP now) (L.take k)++[x]):=jd (by rw [uh HKS,uh HOB]; rfl)
        have O7:=jd ((uh O6).alloc (.cells x.cs.toArray 50))
        have RX:Hid (Zaj (wc.alloc (.cells x.cs.toArray 50)) (wc.heap.size+1) 26 (some ⟨wc.heap.size,0,none⟩) 1 (Zat [x])):=jd ⟨by simp [Zat,x.len (uh HX)],fun _=>⟨_,rfl,Nat.lt_succ_self _,fun j u hu=>by rw [ZbM,(Blk.new wc 50 x.cs.toArray).cell]; simpa [Zat] using hu⟩⟩
        have hOK:=uh HX
        go_wp2_with (first
          | (refine wpList_load_row rfl 50 _ rfl wr.heap.size rfl 50 _ _ _ (uh X6) Tryz.underlying50 rfl (Zbb hOK) ?_)
          | (refine ZaD rfl 26 1 _ rfl [(0,.agg x.cs.toArray)] rfl _ _ (ZcJ wc x hOK) ?_)
          |(at_builtin; refine wpList_appS (wc.alloc (.cells x.cs.toArray 50)) (.tmp 55) (.tmp 57) _ (some ⟨wc.heap.size,0,none⟩) 1 1 rfl rfl rfl rfl (w3.heap.size+1) m _ (uh O7) _ [x] (uh RX) (by omega) (by rw [Zae]; omega) ?_
            intro A7 c7 w7 o7 hc7 hm7 b7
            have N7:=jd o7
            have G0:=jd (((uh G0).alloc (.cells x.cs.toArray 50)).below b7 (by omega))
            have G1:=jd (((uh G1).alloc (.cells x.cs.toArray 50)).below b7 (by omega))
            have G5:=jd (((uh G5).alloc (.cells x.cs.toArray 50)).below b7 (by omega))
            have B7:=jd (((uh B6).alloc (uh B6).size (.cells x.cs.toArray 50)).trans (b7.mono (by omega)))
            have q07:w7.cell? ⟨w3.heap.size,0,none⟩=some (.slice A2 m c2):=(uh G5).cell 0
            have qf7:w7.frozen? ⟨w3.heap.size,0,none⟩=false:=(uh G5).frozen 0
            clear o7 b7)
          | fail)
        have hset:=(uh G5).set_ 0 (.slice A7 (m+1) c7)
        have hgs:=ZaC (p:=⟨w3.heap.size,0,none⟩) (World.grownBy.refl w7 (some w3.heap.size)) (.inl rfl) (.slice A7 (m+1) c7)
        go_roundw
        case rel=>exact ⟨k+1,m+1,c7,A7,by omega,by go_num,jd (by rw [uh HE2,List.length_append,← uh hm]; rfl),(uh G0).gb hgs,(uh G1).gb hgs,by simpa using hset,by rw [uh HE2]; exact World.ownsRow.kept (uh N7) hgs (.inr (Zad (uh N7) (uh G5) (by decide))),gWz (uh B7) hgs⟩
        case measure=>simp [intOf]; omega
   ·obtain rfl:k=n:=by omega
    have HEN:Hid (ZbU (oldP now) (L.take k)=ZbU (oldP now) L):=jd (by rw [List.take_of_length_le (by rw [uh HL]; exact Nat.le_refl _)])
    have hz2:(#[Value.slice A2 m c2,.int .u32 (nx:Int)] : Array Value).size=2:=rfl
    go_wp2_with (first
      | (refine wpList_load_row rfl 29 _ rfl w3.heap.size rfl 29 _ _ _ (uh G5) Tryz.underlying29 rfl (by kernel_rfl) ?_)
      | (refine Zaa rfl 29 (.tmp 4) (.tmp 60) rfl (w.heap.size+1) 29 _ #[.slice A2 m c2,.int .u32 (nx:Int)] rfl rfl (uh G1) rfl (by kernel_rfl) (oZz rfl rfl) ?_
         intro w8 hb8 hg8
         have R8:=jd hb8
         have B8:=jd (gWz (uh B) hg8)
         have O8:=jd (World.ownsRow.kept (uh O) hg8 (.inr (Zad (uh O) (uh G1) (by decide))))
         clear hb8 hg8)
      | fail)
    exact bodyPost_ret (v:=.agg #[.slice A2 m c2,.int .u32 (nx:Int)]) (Zba rfl _ (w.heap.size+1) 29 _ _ rfl (uh R8) Tryz.underlying29 rfl (by kernel_rfl)) rfl (show Zcm w (expF L nx now) nx _ _ from ⟨_,rfl,by rw [uh HEE,← uh HEN,← uh hm]; exact Zak (uh O8) (by omega),uh B8⟩)
end Go.Proofs.YtfbkkmnkpjgciaaGreat
