/- Joined of Own Row HHeld. No condition. -/
import Derived.Test.YtfbkkmnkpjgciaaGreatPG00
import Derived.Laws.CopyRow
import Derived.Laws.IdiomStrings
namespace Go.Proofs.YtfbkkmnkpjgciaaGreat
open Go.RowKit
theorem gWz {a w w':World} {q:Nat} (h:Below a.heap.size a w) (hg:w.grownBy w' (some q)) (hq:a.heap.size≤q:=by omega):Below a.heap.size a w':=h.grown hg h.size (fun k e=>by injection e with e; omega)
def Clear (fr:Nat × Nat) (k:Nat):Prop:=∀ j,j < k→¬ (fr.1≤j∧j < fr.2)
def Own (w:World) (base:Nat) (e:TypeId) (size:Nat) (v:Value) (n:Nat) (xs:List Value):Prop :=
 xs.length=n*size ∧
 ((v=.slice none 0 0∧n=0) ∨
  ∃ g cap cur fr,v=.slice (some ⟨g,0,none⟩) n cap∧base≤g∧w.heap[g]?=some (.cells cur e fr)∧Clear fr (cap*size)∧n≤cap∧cap≤maxLen∧cur.size=cap*size∧cur.toList.take (n*size)=xs)
section
variable {w w':World} {base base' size n:Nat} {e:TypeId} {v:Value} {xs:List Value}
theorem heap_lt {g:Nat} {o:Obj} (h:w.heap[g]?=some o):g < w.heap.size:=(Array.getElem?_eq_some_iff.1 h).1
theorem Own.nil_ (w:World) (base:Nat) (e:TypeId) (size:Nat):Own w base e size (.slice none 0 0) 0 []:=⟨by simp,.inl ⟨rfl,rfl⟩⟩
theorem Own.of_ownsRow (h:w.ownsRow base e size v n xs):Own w base e size v n xs:=by
 refine ⟨h.1,?_⟩
 rcases h.2 with h2 | ⟨g,cap,cur,h1,h2,h3,h4⟩
 · exact .inl h2
 · exact .inr ⟨g,cap,cur,(0,0),h1,h2,h3,fun j _ hh=>by omega,h4⟩
theorem Own.slice_ (h:Own w base e size v n xs) :∃A c,v=.slice A n c∧n≤c∧c≤maxLen:=by
 rcases h.2 with ⟨rfl,rfl⟩ | ⟨g,cap,cur,fr,rfl,_,_,_,hc,hm,_⟩
 · exact ⟨none,0,rfl,Nat.le_refl _,by simp [maxLen]⟩
 · exact ⟨_,cap,rfl,hc,hm⟩
theorem Own.at_ (h:Own w base e size v n xs) (hn:0 < n) :∃g c,v=.slice (some ⟨g,0,none⟩) n c∧n≤c∧c≤maxLen:=by
 rcases h.2 with ⟨rfl,rfl⟩ | ⟨g,cap,cur,fr,rfl,_,_,_,hc,hm,_⟩
 · omega
 · exact ⟨g,cap,rfl,hc,hm⟩
theorem Own.ge_ (h:Own w base e size v n xs):∀ g,v.ownBlock=some g→base≤g:=by
 intro g hg
 rcases h.2 with ⟨rfl,_⟩ | ⟨g',cap,cur,fr,rfl,hb,_⟩
 · simp [Value.ownBlock] at hg
 ·have:g'=g:=by simpa [Value.ownBlock] using hg
  omega
theorem Own.lt_ (h:Own w base e size v n xs):∀ g,v.ownBlock=some g→g < w.heap.size:=by
 intro g hg
 rcases h.2 with ⟨rfl,_⟩ | ⟨g',cap,cur,fr,rfl,_,hh,_⟩
 · simp [Value.ownBlock] at hg
 ·have:g'=g:=by simpa [Value.ownBlock] using hg
  have:=heap_lt hh
  omega
theorem Own.reads {A:Option Addr} {c:Nat} (h:Own w base e size (.slice A n c) n xs):Zaj w w.heap.size size A n xs:=by
 refine ⟨h.1,fun hn=>?_⟩
 rcases h.2 with ⟨_,h0⟩ | ⟨g,cap,cur,fr,hv,_,hh,_,_,_,_,hx⟩
 · omega
 ·injection hv with hA _ _
  refine ⟨_,hA,heap_lt hh,fun j u hu=>?_⟩
  rw [ZbM,Nat.zero_add,cell_of_row w g j cur e fr hh]
  rw [← hx,List.getElem?_take] at hu
  split at hu
  · simpa using hu
  · cases hu
theorem Own.kept {row:Option Nat} (h:Own w base e size v n xs) (hg:w.grownBy w' row) (hne:v.ownBlock=none∨v.ownBlock≠row):Own w' base e size v n xs:=by
 refine ⟨h.1,?_⟩
 rcases h.2 with h2 | ⟨g,cap,cur,fr,rfl,hb,hh,rest⟩
 · exact .inl h2
 ·refine .inr ⟨g,cap,cur,fr,rfl,hb,?_,rest⟩
  rw [hg.block g (heap_lt hh) (by simpa [Value.ownBlock] using hne)]
  exact hh
theorem Own.below {B:Nat} (h:Own w base e size v n xs) (hb:Below B w w') (hv:∀ g,v.ownBlock=some g→g < B):Own w' base e size v n xs:=by
 refine ⟨h.1,?_⟩
 rcases h.2 with h2 | ⟨g,cap,cur,fr,rfl,hbb,hh,rest⟩
 · exact .inl h2
 · exact .inr ⟨g,cap,cur,fr,rfl,hbb,(hb.block g (hv g rfl)).trans hh,rest⟩
theorem Own.old (h:Own w base e size v n xs) (hb:Below w.heap.size w w'):Own w' base e size v n xs:=h.below hb h.lt_
theorem Own.drew (h:Own w base e size v n xs):Own w.drew base e size v n xs:=h
theorem Own.drewN (h:Own w base e size v n xs) (k:Nat):Own (w.drewN k) base e size v n xs:=h
theorem Own.alloc (h:Own w base e size v n xs) (o:Obj):Own (w.alloc o) base e size v n xs:=h.old ((Below.refl _ _).alloc (Nat.le_refl _) o)
theorem Own.more (h:Own w base e size v n xs) (hb:base'≤base):Own w base' e size v n xs:=by
 refine ⟨h.1,?_⟩
 rcases h.2 with h2 | ⟨g,cap,cur,fr,h1,h2,rest⟩
 · exact .inl h2
 · exact .inr ⟨g,cap,cur,fr,h1,by omega,rest⟩
theorem Own.frozenAt {g c:Nat} (h:Own w base e size (.slice (some ⟨g,0,none⟩) n c) n xs) (j:Nat) (hj:j < n*size):w.frozen? ⟨g,j,none⟩=false:=by
 rcases h.2 with ⟨h0,_⟩ | ⟨g',cap,cur,fr,hv,_,hh,hc,hn,_⟩
 · simp at h0
 ·injection hv with h1 _ h2
  injection h1 with h1
  injection h1 with h1
  subst h1
  have hjc:j < cap*size:=Nat.lt_of_lt_of_le hj (Nat.mul_le_mul_right _ hn)
  have:=hc j hjc
  simp only [World.frozen?,hh]
  obtain ⟨lo,hi⟩:=fr
  simp at this ⊢
  exact this
theorem Own.stored {g c:Nat} (h:Own w base e size (.slice (some ⟨g,0,none⟩) n c) n xs) (j:Nat) (u:Value):Own (w.setCell ⟨g,j,none⟩ u) base e size (.slice (some ⟨g,0,none⟩) n c) n (xs.set j u):=by
 refine ⟨by simpa using h.1,?_⟩
 rcases h.2 with ⟨h0,_⟩ | ⟨g',cap,cur,fr,hv,hb,hh,hc,hn,hm,hs,hx⟩
 · simp at h0
 ·injection hv with h1 _ h2
  injection h1 with h1
  injection h1 with h1
  subst h1 h2
  refine .inr ⟨g,c,cur.setIfInBounds j u,fr,rfl,hb,?_,hc,hn,hm,by simpa using hs,?_⟩
  · simp [World.setCell,Array.getElem?_modify,hh]
  · rw [Array.toList_setIfInBounds,List.take_set,hx]
end
theorem Own.made (w:World) (base:Nat) (e:TypeId) (size:Nat) (cs:Array Value) (n cap:Nat) (hb:base≤w.heap.size) (hn:n≤cap) (hm:cap≤maxLen) (hs:cs.size=cap*size) :
  Own (w.alloc (.cells cs e)) base e size (.slice (some ⟨w.heap.size,0,none⟩) n cap) n (cs.toList.take (n*size)):=by
 refine ⟨?_,.inr ⟨w.heap.size,cap,cs,(0,0),rfl,hb,heap_alloc_new w _,fun j _ hh=>by omega,hn,hm,hs,rfl⟩⟩
 rw [List.length_take,Array.length_toList,hs]
 exact Nat.min_eq_left (Nat.mul_le_mul_right _ hn)
theorem Zbs {P:Program} (g o:Nat) (t:TypeId) (fr:Nat × Nat):∀ (vs:List Value) (i:Nat) (cur:Array Value) (w:World),w.heap[g]?=some (.cells cur t fr)→Clear fr cur.size→o+i+vs.length≤cur.size→(∀ v∈vs,v.oneCell'=true) →
  (storeCells ⟨g,o,none⟩ vs i).run P w=.ok () (w.setRow g (cur.toList.take (o+i)++vs++cur.toList.drop (o+i+vs.length)).toArray)
 |[],i,cur,w,hg,_,_,_=>by
  simp only [storeCells,List.append_nil,List.length_nil,Nat.add_zero,List.take_append_drop,Array.toArray_toList]
  rw [setRow_self w g cur t fr hg]
  rfl
 |v::rest,i,cur,w,hg,hf,hl,h1=>by
  have hi:o+i < cur.size:=by simp at hl; omega
  have hcell:w.cell? ⟨g,o+i,none⟩=some cur[o+i]:=by simp [World.cell?,hg,hi]
  have hfro:w.frozen? ⟨g,o+i,none⟩=false:=by
   have:=hf _ hi
   obtain ⟨lo,hh⟩:=fr
   simp only [World.frozen?,hg]
   simp at this ⊢
   exact this
  have hst:(store ((⟨g,o,none⟩:Addr).add i) v).run P w=.ok () (w.setRow g (cur.setIfInBounds (o+i) v)):=by
   rw [ZbM,run_store P w _ v _ (h1 v (by simp)),hcell]
   simp [hfro,setCell_eq_setRow w g (o+i) cur t fr v hg]
  have ih:=Zbs (P:=P) g o t fr rest (i+1) (cur.setIfInBounds (o+i) v) (w.setRow g (cur.setIfInBounds (o+i) v)) (setRow_heap w g cur _ t _ hg) (by simpa using hf) (by simp at hl ⊢; omega) (fun x hx=>h1 x (by simp [hx]))
  simp only [storeCells,Sem.run_bind,hst,Result.andThen_ok,ih,setRow_setRow]
  congr 3
  have e:=list_seg_step cur.toList (o+i) v rest (by simp at hl ⊢; omega)
  simpa [Array.toList_setIfInBounds,Nat.add_assoc] using e
section
variable {P:Program} (w:World)
theorem ZeZ (base:Nat) (t ty e:TypeId) (i:TypeInfo) (size:Nat) (ht:P.underlying t=some (.slice e)) (hi:P.info? e=some i)
  (v:Value) (n:Nat) (xs:List Value) (hown:Own w base e size v n xs) (A:Option Addr) (c:Nat):(Builtin.append_ #[t,t] ty #[v,.slice A 0 c]).run P w=.ok v w:=by
 have hf:(Builtin.firstCells i.size 0 (.slice A 0 c)).run P w=.ok #[] w:=by
  rcases A with _ | a
  · simp [Builtin.firstCells]
  · simp [Builtin.firstCells,loadCells,loadCellsFrom]
 rcases hown.2 with ⟨rfl,rfl⟩ | ⟨g,cap,cur,fr,rfl,_,_,_,hnc,_⟩
 · simp [Builtin.append_,run_underlying ht,sizeOf,typeInfo,hi,Builtin.lenOf,hf]
 · simp [Builtin.append_,run_underlying ht,sizeOf,typeInfo,hi,Builtin.lenOf,hnc,hf,storeCells]
theorem run_append_Own (base:Nat) (t ty e:TypeId) (i:TypeInfo) (z:Value) (size bytes:Nat) (ht:P.underlying t=some (.slice e)) (hi:P.info? e=some i) (hz:i.zero=some z)
  (hsize:i.size=size) (hby:i.bytes=bytes) (hzs:z.cells.size=size) (hsz:0 < size)
  (v:Value) (n:Nat) (xs:List Value) (hown:Own w base e size v n xs)
  (B:Nat) (A:Option Addr) (m c:Nat) (news:List Value) (hr:Zaj w B size A m news) (h1:∀ u∈news,u.oneCell'=true)
  (h63:n+m≤maxLen) (hbytes:(n+m)*bytes≤140737488355328) (hbase:base≤w.heap.size) :
  ∃ v' w',(Builtin.append_ #[t,t] ty #[v,.slice A m c]).run P w=.ok v' w'∧Own w' base e size v' (n+m) (xs++news)∧Own w' base e size v n xs∧w.grownBy w' v.ownBlock ∧
   (v'.ownBlock=v.ownBlock∨v'.ownBlock=some w.heap.size):=by
 by_cases hm0:m=0
 ·subst hm0
  have hn:news=[]:=List.eq_nil_of_length_eq_zero (by simpa using hr.1)
  subst hn
  exact ⟨v,w,ZeZ w base t ty e i size ht hi v n xs hown A c,by simpa using hown,hown,World.grownBy.refl w _,.inl rfl⟩
 obtain ⟨a,rfl,_,hnews⟩:=hr.2 (by omega)
 have hl:=hr.1
 subst hsize
 subst hby
 have hsmall:n+m≤9223372036854775807:=by simp only [maxLen] at h63; omega
 have hlen:(xs++news).length=(n+m)*i.size:=by rw [List.length_append,hown.1,hl,Nat.add_mul]
 have grown:∀ (old:Nat),old < n+m→∀ (row:Option Nat),
   Own (w.drew.alloc (.cells (xs.toArray++news.toArray++Builtin.zeroCells z.cells (grownCap w (n+m) old e - (n+m))) e)) base e i.size
    (.slice (some ⟨w.heap.size,0,none⟩) (n+m) (grownCap w (n+m) old e)) (n+m) (xs++news) ∧
   w.grownBy (w.drew.alloc (.cells (xs.toArray++news.toArray++Builtin.zeroCells z.cells (grownCap w (n+m) old e - (n+m))) e)) row:=by
  intro old ho row
  have hge:=grownCap_ge w (n+m) old e
  have hcm:grownCap w (n+m) old e≤maxLen:=grownCap_le_maxLen w (n+m) old e h63
  refine ⟨⟨hlen,.inr ⟨w.heap.size,_,_,(0,0),rfl,hbase,heap_alloc_new w.drew _,fun j _ hh=>by omega,hge,hcm,?_,?_⟩⟩,⟨rfl,rfl,rfl,by simp,fun k hk _=>Below.heap_alloc w.drew _ k hk⟩⟩
  ·simp only [Array.size_append,List.size_toArray,size_zeroCells,hzs,hown.1,hl,← Nat.add_mul]
   congr 1
   omega
  ·simp only [Array.toList_append,List.append_assoc]
   rw [← List.append_assoc,← hlen]
   exact List.take_left
 rcases hown.2 with ⟨rfl,rfl⟩ | ⟨g,cap,cur,fr,rfl,hbg,hg,hfr,hnc,hcm,hcs,htake⟩
 ·have hx:xs=[]:=List.eq_nil_of_length_eq_zero (by simpa using hown.1)
  subst hx
  have hr:=run_append_nil (P:=P) w t ty e i z ht hi hz a m c news hl hnews (by omega) (by omega) (by have hb:=hbytes; simp only [Nat.zero_add] at hb; omega)
  have hgr:=grown 0 (by omega) (Value.ownBlock (.slice none 0 0))
  simp only [Nat.zero_add,List.nil_append,Array.empty_append] at hgr ⊢
  exact ⟨_,_,hr,hgr.1,Own.nil_ _ _ _ _,hgr.2,Or.inr rfl⟩
 ·by_cases hroom:n+m≤cap
  ·have hfit:n*i.size+news.length≤cur.size:=by rw [hl,hcs,← Nat.add_mul]; exact Nat.mul_le_mul_right _ hroom
   have hf:=run_firstCells_some (P:=P) w i.size m a m c news hl hnews
   have hst:=Zbs (P:=P) g (n*i.size) e fr news 0 cur w hg (by rw [hcs]; exact hfr) (by simpa using hfit) h1
   simp only [Nat.add_zero] at hst
   have hrun:(Builtin.append_ #[t,t] ty #[.slice (some ⟨g,0,none⟩) n cap,.slice (some a) m c]).run P w =
     .ok (.slice (some ⟨g,0,none⟩) (n+m) cap) (w.setRow g (cur.toList.take (n*i.size)++news++cur.toList.drop (n*i.size+news.length)).toArray):=by
    simp [Builtin.append_,run_underlying ht,sizeOf,typeInfo,hi,Builtin.lenOf,hroom,hf,Addr.add_lit,hst]
   have hsz2:(cur.toList.take (n*i.size)++news++cur.toList.drop (n*i.size+news.length)).toArray.size=cap*i.size:=by
    simp only [List.size_toArray,List.length_append,List.length_take,List.length_drop,Array.length_toList]
    omega
   refine ⟨_,_,hrun,⟨hlen,.inr ⟨g,cap,_,fr,rfl,hbg,setRow_heap w g cur _ e _ hg,hfr,hroom,hcm,hsz2,?_⟩⟩,⟨hown.1,.inr ⟨g,cap,_,fr,rfl,hbg,setRow_heap w g cur _ e _ hg,hfr,hnc,hcm,hsz2,?_⟩⟩,⟨rfl,rfl,rfl,by simp,fun k _ hk=>setRow_other w g k _ (fun e=>hk (by simp [Value.ownBlock,e]))⟩,Or.inl rfl⟩
   ·rw [htake,← hlen]
    exact List.take_left
   ·rw [htake,List.append_assoc,← hown.1]
    exact List.take_left
  ·have holds:∀ j u,xs[j]?=some u→w.cell? ((⟨g,0,none⟩:Addr).add j)=some u:=by
    intro j u hu
    rw [ZbM,Nat.zero_add,cell_of_row w g j cur e fr hg]
    rw [← htake,List.getElem?_take] at hu
    split at hu
    · simpa using hu
    · cases hu
   have hr:=run_append_grow (P:=P) w t ty e i z ht hi hz ⟨g,0,none⟩ n cap xs hown.1 holds a m c news hl hnews (by omega) (by omega) (growslice_fits (by omega) hbytes)
   have hgr:=grown cap (by omega) (Value.ownBlock (.slice (some ⟨g,0,none⟩) n cap))
   have hold:Own (w.drew.alloc (.cells (xs.toArray++news.toArray++Builtin.zeroCells z.cells (grownCap w (n+m) cap e - (n+m))) e)) base e i.size (.slice (some ⟨g,0,none⟩) n cap) n xs:=hown.drew.alloc _
   exact ⟨_,_,hr,hgr.1,hold,hgr.2,Or.inr rfl⟩
theorem ZeY {o:Oper} {a:Act} {K:Act→World→Prop} {Q:Exit→Act→World→Prop} (s x:Operand) (t:TypeId) (v:Value) (A:Option Addr) (m c:Nat)
  (ho:o.op=.call { callee:=.builtin .append,args:=#[s,x],argTypes:=#[t,t] }) (hs:a.eval s=v) (hx:a.eval x=.slice A m c)
  (base:Nat) (e:TypeId) (i:TypeInfo) (z:Value) (size bytes:Nat) (ht:P.underlying t=some (.slice e)) (hi:P.info? e=some i) (hz:i.zero=some z)
  (hsize:i.size=size) (hby:i.bytes=bytes) (hzs:z.cells.size=size) (hsz:0 < size)
  (n:Nat) (xs:List Value) (hown:Own w base e size v n xs)
  (B:Nat) (news:List Value) (hr:Zaj w B size A m news) (h1:∀ u∈news,u.oneCell'=true)
  (h63:n+m≤maxLen) (hbytes:(n+m)*bytes≤140737488355328) (hbase:base≤w.heap.size)
  (h:∀ v' w',Own w' base e size v' (n+m) (xs++news)→Own w' base e size v n xs→Below base w w'→w.grownBy w' v.ownBlock→K (a.put o.dst v') w'):o.wp P a w K Q:=by
 obtain ⟨v',w',hrun,h2,h3,h4,_⟩:=run_append_Own (P:=P) w base t o.type e i z size bytes ht hi hz hsize hby hzs hsz v n xs hown B A m c news hr h1 h63 hbytes hbase
 unfold Oper.wp execOp
 simp only [ho,resolve,invoke,builtin,Sem.run_bind,Sem.run_pure,Result.andThen_ok,List.map_toArray,List.map_cons,List.map_nil,hs,hx,hrun]
 exact h v' w' h2 h3 ((Below.refl base w).grown h4 hbase hown.ge_) h4
theorem Zbq {ops:Array Oper} {rest:List Oper} {o:Oper} {a:Act} {Q:Exit→Act→World→Prop} (s x:Operand) (t:TypeId) (v:Value) (A:Option Addr) (m c:Nat)
  (ho:o.op=.call { callee:=.builtin .append,args:=#[s,x],argTypes:=#[t,t] }) (hgd:o.guard=none) (hs:a.eval s=v) (hx:a.eval x=.slice A m c)
  (base:Nat) (e:TypeId) (i:TypeInfo) (z:Value) (size bytes:Nat) (ht:P.underlying t=some (.slice e)) (hi:P.info? e=some i) (hz:i.zero=some z)
  (hsize:i.size=size) (hby:i.bytes=bytes) (hzs:z.cells.size=size) (hsz:0 < size)
  (n:Nat) (xs:List Value) (hown:Own w base e size v n xs)
  (B:Nat) (news:List Value) (hr:Zaj w B size A m news) (h1:∀ u∈news,u.oneCell'=true)
  (h63:n+m≤maxLen) (hbytes:(n+m)*bytes≤140737488355328) (hbase:base≤w.heap.size)
  (h:∀ v' w',Own w' base e size v' (n+m) (xs++news)→Own w' base e size v n xs→Below base w w'→w.grownBy w' v.ownBlock→wpList P ops Q rest (a.put o.dst v') w'):wpList P ops Q (o::rest) a w :=
 wpList_plain hgd fun _ hK=>ZeY w s x t v A m c ho hs hx base e i z size bytes ht hi hz hsize hby hzs hsz n xs hown B news hr h1 h63 hbytes hbase fun v' w' h2 h3 h4 h5=>hK _ _ (h v' w' h2 h3 h4 h5)
theorem Zek {ops:Array Oper} {o:Oper} {a:Act} {K:Act→World→Prop} {Q:Exit→Act→World→Prop} {E:Prop} (s x:Operand) (t:TypeId) (v:Value) (A:Option Addr) (m c:Nat)
  (ho:o.op=.call { callee:=.builtin .append,args:=#[s,x],argTypes:=#[t,t] }) (hgd:o.guard=none) (hs:a.eval s=v) (hx:a.eval x=.slice A m c)
  (base:Nat) (e:TypeId) (i:TypeInfo) (z:Value) (size bytes:Nat) (ht:P.underlying t=some (.slice e)) (hi:P.info? e=some i) (hz:i.zero=some z)
  (hsize:i.size=size) (hby:i.bytes=bytes) (hzs:z.cells.size=size) (hsz:0 < size)
  (n:Nat) (xs:List Value) (hown:Own w base e size v n xs)
  (B:Nat) (news:List Value) (hr:Zaj w B size A m news) (h1:∀ u∈news,u.oneCell'=true)
  (h63:n+m≤maxLen) (hbytes:(n+m)*bytes≤140737488355328) (hbase:base≤w.heap.size)
  (h:∀ v' w',Own w' base e size v' (n+m) (xs++news)→Own w' base e size v n xs→Below base w w'→w.grownBy w' v.ownBlock→K (a.put o.dst v') w') :
  if Region.wanted o (yielded ops a.tmps)=true then Oper.wp P o a w K Q else E:=by
 rw [if_pos (by simp [Region.wanted,hgd])]
 exact ZeY w s x t v A m c ho hs hx base e i z size bytes ht hi hz hsize hby hzs hsz n xs hown B news hr h1 h63 hbytes hbase h
theorem Zd9 (src dst e:TypeId) (s:ByteArray) (hs:P.underlying src=some .string) (hd:P.underlying dst=some (.slice e)) (he:P.underlying e=some (.int .u8)) (base:Nat) (hb:base≤w.heap.size) (hm:s.size≤maxLen) :
  ∃ v w',(convert src dst (.string s)).run P w=.ok v w'∧Own w' base e 1 v s.size (s.data.toList.map fun b=>.int .u8 (b.toNat:Int))∧Below w.heap.size w w':=by
 refine ⟨_,_,run_bytes_of_string w src dst e s hs hd he,⟨by simp,.inr ⟨w.heap.size,grownCap w s.size 0 e,_,_,rfl,hb,heap_alloc_new w.drew _,?_,grownCap_ge _ _ _ _,grownCap_le_maxLen _ _ _ _ hm,?_,?_⟩⟩,?_⟩
 ·intro j hj hh
  have hge:=grownCap_ge w s.size 0 e
  simp [bytesRow] at hh
  have hss:s.data.size=s.size:=rfl
  omega
 ·have hge:=grownCap_ge w s.size 0 e
  have hss:s.data.size=s.size:=rfl
  simp [bytesRow]
  omega
 ·have hss:s.data.size=s.size:=rfl
  simp only [bytesRow,Array.toList_append,Array.toList_map]
  rw [List.take_left' (by simp)]
 · exact ((Below.refl _ _).drew).alloc (Nat.le_refl _) _
end
section
variable {P:Program} {w:World}
theorem Zcx {g:Nat} {t:TypeId} {cs cs':Array Value} (h:Blk w g t cs):Blk (w.setRow g cs') g t cs'∧w.grownBy (w.setRow g cs') (some g) :=
 ⟨setRow_heap w g cs cs' t (0,0) h,⟨rfl,rfl,rfl,by simp,fun k _ hk=>setRow_other w g k _ (fun e=>hk (by rw [e]))⟩⟩
theorem Zem (ty:TypeId) (g:Nat) (t:TypeId) (cs cs':Array Value) (h:Blk w g t cs) (hs:cs'.size=cs.size) (hi:(P.info? ty).map (·.size)=some cs'.size) (h1:∀ v∈cs'.toList,v.oneCell'=true) :
  (storeVar ty ⟨g,0,none⟩ (.agg cs')).run P w=.ok () (w.setRow g cs'):=by
 have hst:=Zbs (P:=P) g 0 t (0,0) cs'.toList 0 cs w h (fun j _ hh=>by omega) (by simp; omega) h1
 simp only [Nat.add_zero,List.take_zero,List.nil_append,Nat.zero_add] at hst
 have e:cs'.toList++cs.toList.drop cs'.toList.length=cs'.toList:=by
  rw [List.drop_of_length_le (by simp; omega),List.append_nil]
 rw [e] at hst
 cases hq:P.info? ty with
 | none=>simp [hq] at hi
 |some i =>
  have hs:cs'.size=i.size:=by simp [hq] at hi; omega
  simp [storeVar,sizeOf,typeInfo,hq,Value.cells,hs,hst]
theorem Zaa {ops:Array Oper} {rest:List Oper} {op:Oper} {a:Act} {Q:Exit→Act→World→Prop} (hgd:op.guard=none) (ty:TypeId) (x y:Operand) (ho:op.op=.store ty x y)
  (g:Nat) (t:TypeId) (cs cs':Array Value) (hx:a.eval x=.pointer (some ⟨g,0,none⟩)) (hy:a.eval y=.agg cs')
  (h:Blk w g t cs) (hs:cs'.size=cs.size) (hi:(P.info? ty).map (·.size)=some cs'.size) (h1:∀ v∈cs'.toList,v.oneCell'=true)
  (hk:∀ w',Blk w' g t cs'→w.grownBy w' (some g)→wpList P ops Q rest (a.put op.dst undef) w'):wpList P ops Q (op::rest) a w:=by
 refine wpList_plain hgd fun _ hK=>?_
 unfold Oper.wp execOp
 simp only [ho,hx,hy,Instr.storeAt,Instr.sureAddr,Sem.run_bind,Sem.run_pure,Result.andThen_ok,Zem ty g t cs cs' h hs hi h1]
 have hb:=Zcx (cs':=cs') h
 exact hK _ _ (hk _ hb.1 hb.2)
theorem step_copy_blk {ops:Array Oper} {o:Oper} {a:Act} {K:Act→World→Prop} {Q:Exit→Act→World→Prop} {E:Prop} (hgd:o.guard=none) (d s:Operand) (dT sT:TypeId)
  (ho:o.op=.call { callee:=.builtin .copy,args:=#[d,s],argTypes:=#[dT,sT] }) (elem:TypeId) (hu:P.underlying dT=some (.slice elem)) (hsz:(P.info? elem).map (·.size)=some 1)
  (g off dLen dCap sLen sCap:Nat) (ad:Addr) (hd:a.eval d=.slice (some ⟨g,off,none⟩) dLen dCap) (hs:a.eval s=.slice (some ad) sLen sCap)
  (t:TypeId) (cur:Array Value) (hg:Blk w g t cur) (cs:List Value) (hn:cs.length=Nat.min sLen dLen) (hc:∀ j v,cs[j]?=some v→w.cell? (ad.add j)=some v)
  (hfit:off+cs.length≤cur.size) (h1:∀ v∈cs,v.oneCell'=true)
  (h:∀ w',Blk w' g t (cur.toList.take off++cs++cur.toList.drop (off+cs.length)).toArray→w.grownBy w' (some g)→K (a.put o.dst (goInt cs.length)) w') :
  if Region.wanted o (yielded ops a.tmps)=true then Oper.wp P o a w K Q else E:=by
 rw [if_pos (by simp [Region.wanted,hgd])]
 have hrun:=run_copy_row (P:=P) w dT sT o.type elem g off dLen dCap ad sLen sCap cur t cs hu hsz hg hn hc hfit h1
 unfold Oper.wp execOp
 simp only [ho,resolve,invoke,builtin,Sem.run_bind,Sem.run_pure,Result.andThen_ok,List.map_toArray,List.map_cons,List.map_nil,hd,hs,hrun]
 have hb:=Zcx (cs':=(cur.toList.take off++cs++cur.toList.drop (off+cs.length)).toArray) hg
 exact h _ hb.1 hb.2
theorem Zba {fn:Func} {p:Tmp} {ty:TypeId} (h:fn.results=#[.cell p ty]) (tmps:Array Value) (g:Nat) (t:TypeId) (cs:Array Value) (d:TypeDesc)
 (hp:tmps.getD p undef=.pointer (some ⟨g,0,none⟩)) (hg:Blk w g t cs)
 (hu:P.underlying ty=some d) (hd:(match d with | .struct _ | .array _ _=>true | _=>false)=true) (hi:(P.info? ty).map (·.size)=some cs.size) :
 (results fn tmps).run P w=.ok (.agg cs) w:=results_cell_row h tmps w g t cs (0,0) d hp hg hu hd hi
end
section
variable {P:Program} (w0:World)
theorem Zcp {ops:Array Oper} {rest:List Oper} {o:Oper} {a:Act} {Q:Exit→Act→World→Prop} (s x:Operand) (t:TypeId) (v u:Value)
  (ho:o.op=.call { callee:=.builtin .append,args:=#[s,x],argTypes:=#[t,t] }) (hgd:o.guard=none) (hs:a.eval s=v) (hx:a.eval x=.slice (some ⟨w0.heap.size,0,none⟩) 1 1)
  (base:Nat) (e:TypeId) (i:TypeInfo) (z:Value) (bytes:Nat) (ht:P.underlying t=some (.slice e)) (hi:P.info? e=some i) (hz:i.zero=some z)
  (hsize:i.size=1) (hby:i.bytes=bytes) (hzs:z.cells.size=1)
  (n:Nat) (xs:List Value) (hown:Own w0 base e 1 v n xs) (h1:u.oneCell'=true)
  (h63:n+1≤maxLen) (hbytes:(n+1)*bytes≤140737488355328) (hbase:base≤w0.heap.size)
  (h:∀ v' w',Own w' base e 1 v' (n+1) (xs++[u])→Own w' base e 1 v n xs→Below base w0 w'→wpList P ops Q rest (a.put o.dst v') w') :
  wpList P ops Q (o::rest) a (w0.alloc (.cells #[u] e)):=by
 have hr:Zaj (w0.alloc (.cells #[u] e)) (w0.heap.size+1) 1 (some ⟨w0.heap.size,0,none⟩) 1 [u]:=by
  have:=Zaj.of_blk (B:=w0.heap.size+1) (Blk.new w0 e #[u]) 0 1 (by simp) (Nat.lt_succ_self _)
  simpa using this
 exact Zbq _ s x t v _ 1 1 ho hgd hs hx base e i z 1 bytes ht hi hz hsize hby hzs (by omega) n xs (hown.alloc _) _ [u] hr (by simpa using h1) h63 hbytes (by rw [Zae]; omega)
  fun v' w' h2 h3 h4 _=>h v' w' h2 h3 (((Below.refl base w0).alloc hbase _).trans h4)
theorem step_append1_O {ops:Array Oper} {o:Oper} {a:Act} {K:Act→World→Prop} {Q:Exit→Act→World→Prop} {E:Prop} (s x:Operand) (t:TypeId) (v u:Value)
  (ho:o.op=.call { callee:=.builtin .append,args:=#[s,x],argTypes:=#[t,t] }) (hgd:o.guard=none) (hs:a.eval s=v) (hx:a.eval x=.slice (some ⟨w0.heap.size,0,none⟩) 1 1)
  (base:Nat) (e:TypeId) (i:TypeInfo) (z:Value) (bytes:Nat) (ht:P.underlying t=some (.slice e)) (hi:P.info? e=some i) (hz:i.zero=some z)
  (hsize:i.size=1) (hby:i.bytes=bytes) (hzs:z.cells.size=1)
  (n:Nat) (xs:List Value) (hown:Own w0 base e 1 v n xs) (h1:u.oneCell'=true)
  (h63:n+1≤maxLen) (hbytes:(n+1)*bytes≤140737488355328) (hbase:base≤w0.heap.size)
  (h:∀ v' w',Own w' base e 1 v' (n+1) (xs++[u])→Own w' base e 1 v n xs→Below base w0 w'→(w0.alloc (.cells #[u] e)).grownBy w' v.ownBlock→K (a.put o.dst v') w') :
  if Region.wanted o (yielded ops a.tmps)=true then Oper.wp P o a (w0.alloc (.cells #[u] e)) K Q else E:=by
 have hr:Zaj (w0.alloc (.cells #[u] e)) (w0.heap.size+1) 1 (some ⟨w0.heap.size,0,none⟩) 1 [u]:=by
  have:=Zaj.of_blk (B:=w0.heap.size+1) (Blk.new w0 e #[u]) 0 1 (by simp) (Nat.lt_succ_self _)
  simpa using this
 exact Zek _ s x t v _ 1 1 ho hgd hs hx base e i z 1 bytes ht hi hz hsize hby hzs (by omega) n xs (hown.alloc _) _ [u] hr (by simpa using h1) h63 hbytes (by rw [Zae]; omega)
  fun v' w' h2 h3 h4 h5=>h v' w' h2 h3 (((Below.refl base w0).alloc hbase _).trans h4) h5
theorem Zdj {ops:Array Oper} {rest:List Oper} {o:Oper} {a:Act} {Q:Exit→Act→World→Prop} (x:Operand) (src dst e:TypeId) (s:ByteArray) (ho:o.op=.convert src dst x) (hgd:o.guard=none) (hx:a.eval x=.string s)
  (hs:P.underlying src=some .string) (hd:P.underlying dst=some (.slice e)) (he:P.underlying e=some (.int .u8)) (base:Nat) (hb:base≤w0.heap.size) (hm:s.size≤maxLen)
  (h:∀ v w',Own w' base e 1 v s.size (s.data.toList.map fun b=>.int .u8 (b.toNat:Int))→Below w0.heap.size w0 w'→wpList P ops Q rest (a.put o.dst v) w'):wpList P ops Q (o::rest) a w0:=by
 refine wpList_plain hgd fun _ hK=>?_
 obtain ⟨v,w',hrun,h2,h3⟩:=Zd9 (P:=P) w0 src dst e s hs hd he base hb hm
 unfold Oper.wp execOp
 simp only [ho,hx,Sem.run_bind,Sem.run_pure,Result.andThen_ok,hrun]
 exact hK _ _ (h v w' h2 h3)
end
section
variable {P:Program} {l:List Oper} {S:World→Prop} {a:Act} {o:Oper}
theorem Zar (ty:TypeId) (x:Operand) (hw:Region.wanted o (yielded l.toArray a.tmps)=true) (ho:o.op=.load ty x)
  (g:Nat) (hx:a.eval x=.pointer (some ⟨g,0,none⟩)) (t:TypeId) (cs:Array Value) (d:TypeDesc) (hg:∀ w,S w→Blk w g t cs)
  (hu:P.underlying ty=some d) (hd:(match d with | .struct _ | .array _ _=>true | _=>false)=true) (hi:(P.info? ty).map (·.size)=some cs.size):YieldsIf P l.toArray S o (.agg cs) a :=
 .inl ⟨hw,fun w hS=>by
  unfold execOp
  simp only [ho,hx,Instr.loadAt,Instr.sureAddr,Sem.run_bind,Sem.run_pure,Result.andThen_ok,run_loadVar_row w g t ty cs (0,0) d (hg w hS) hu hd hi]⟩
theorem Zaf {w:World} {K:Act→World→Prop} {Q:Exit→Act→World→Prop} {E:Prop} (hw:Region.wanted o (yielded l.toArray a.tmps)=true) (ty:TypeId) (x y:Operand) (ho:o.op=.store ty x y)
  (g:Nat) (t:TypeId) (cs cs':Array Value) (hx:a.eval x=.pointer (some ⟨g,0,none⟩)) (hy:a.eval y=.agg cs')
  (h:Blk w g t cs) (hs:cs'.size=cs.size) (hi:(P.info? ty).map (·.size)=some cs'.size) (h1:∀ v∈cs'.toList,v.oneCell'=true)
  (hk:∀ w',Blk w' g t cs'→w.grownBy w' (some g)→K (a.put o.dst undef) w'):if Region.wanted o (yielded l.toArray a.tmps)=true then Oper.wp P o a w K Q else E:=by
 rw [if_pos hw]
 unfold Oper.wp execOp
 simp only [ho,hx,hy,Instr.storeAt,Instr.sureAddr,Sem.run_bind,Sem.run_pure,Result.andThen_ok,Zem ty g t cs cs' h hs hi h1]
 have hb:=Zcx (cs':=cs') h
 exact hk _ hb.1 hb.2
end
end Go.Proofs.YtfbkkmnkpjgciaaGreat
