/- Joined of Base Mem Le Conv Class Eq Held. No condition. -/
import Derived.WalkKit
import Derived.Below
import Derived.ChangeSame
import Derived.Laws.OwnMore
import Derived.Laws.MakeOwn
import Derived.Laws.Entries
import Derived.Deep.AppendLies
import Derived.Deep.Draws
import Derived.Deep.OwnRows
import Derived.Deep.QuietTactic
import Derived.Maps.AppendAt
import Derived.RegionTactic
import Derived.OwnWalk
import Derived.Laws.Rows
import Derived.Laws.BitsAllLaws
import Derived.Laws.BitsLemmas
import Derived.Lib.Hide
import Derived.StillTailTactics
import Derived.Laws.BytesArg
import Derived.BigQuiet
import Derived.ChangeKeysEq
import Derived.Laws.StructEq
import Derived.Deep.RegionHeld3
import Derived.Deep.MidRow
import Derived.BigRegion
namespace Go.Proofs.YtfbkkmnkpjgciaaGreat
theorem oZz {a b:Value} (ha:a.oneCell'=true) (hb:b.oneCell'=true):∀ v∈#[a,b].toList,v.oneCell'=true:=by
 intro v hv
 simp only [List.mem_cons,List.not_mem_nil,or_false] at hv
 rcases hv with rfl | rfl<;>assumption
theorem zA {α : Type _} {l:List α} {i:Nat} {a:α}:l.toArray.setIfInBounds i a=(l.set i a).toArray:=List.setIfInBounds_toArray ..
theorem zB {α : Type _} {x:α} {xs:List α} {a:α}:(x::xs).set 0 a=a::xs:=rfl
theorem zC {α : Type _} {x:α} {xs:List α} {n:Nat} {a:α}:(x::xs).set (n+1) a=x::xs.set n a:=rfl
open Go.RowKit Go.WideShapes Go.ChangeShapes
theorem Za1 (a:Addr) (n:Nat):(a.add n).block=a.block:=by unfold Addr.add; split<;>rfl
theorem Zew (a:Addr) (i j:Nat):(a.add i).add j=a.add (i+j):=by
 unfold Addr.add
 by_cases hi:i=0<;>by_cases hj:j=0<;>simp [hi,hj,Nat.add_assoc]
def Zaj (w:World) (B size:Nat) (A:Option Addr) (n:Nat) (xs:List Value):Prop :=
 xs.length=n*size∧(0 < n→∃ ad,A=some ad∧ad.block < B∧∀ j u,xs[j]?=some u→w.cell? (ad.add j)=some u)
section
variable {w w':World} {B B' size n:Nat} {A:Option Addr} {xs:List Value}
theorem Zaj.none_:Zaj w B size A 0 []:=⟨by simp,fun h=>absurd h (by omega)⟩
theorem Zaj.at_ {k:Nat} (h:Zaj w B 1 A n xs) (hk:k < n) :∃ad u,A=some ad∧ad.block < B∧xs[k]?=some u∧w.cell? (ad.add k)=some u:=by
 obtain ⟨ad,e,hb,hc⟩:=h.2 (by omega)
 have hl:k < xs.length:=by have:=h.1; omega
 exact ⟨ad,xs[k],e,hb,List.getElem?_eq_getElem hl,hc k _ (List.getElem?_eq_getElem hl)⟩
theorem Zaj.keep (h:Zaj w B size A n xs) (hk:∀ p:Addr,p.block < B→w'.cell? p=w.cell? p):Zaj w' B size A n xs :=
 ⟨h.1,fun hn=>by
  obtain ⟨ad,e,hb,hc⟩:=h.2 hn
  exact ⟨ad,e,hb,fun j u hu=>(hk _ (by rw [Za1]; exact hb)).trans (hc j u hu)⟩⟩
theorem Zaj.more (h:Zaj w B size A n xs) (hB:B≤B'):Zaj w B' size A n xs :=
 ⟨h.1,fun hn=>by
  obtain ⟨ad,e,hb,hc⟩:=h.2 hn
  exact ⟨ad,e,by omega,hc⟩⟩
theorem Zaj.below (h:Zaj w B size A n xs) (hb:Below B w w'):Zaj w' B size A n xs:=h.keep fun _ hp=>hb.cell hp
theorem Zaj.drew (h:Zaj w B size A n xs):Zaj w.drew B size A n xs:=h
theorem Zaj.drewN (h:Zaj w B size A n xs) (k:Nat):Zaj (w.drewN k) B size A n xs:=h
theorem Zaj.alloc (h:Zaj w B size A n xs) (hB:B≤w.heap.size) (o:Obj):Zaj (w.alloc o) B size A n xs:=h.keep fun p hp=>World.cell?_alloc_lt w o p (by omega)
theorem Zaj.setCell (h:Zaj w B size A n xs) {p:Addr} (hB:B≤p.block) (u:Value):Zaj (w.setCell p u) B size A n xs :=
 h.keep fun q hq=>World.cell?_setCell_other w p q u (fun e=>by subst e; omega)
theorem Zaj.grown (h:Zaj w B size A n xs) {row:Option Nat} (hg:w.grownBy w' row) (hB:B≤w.heap.size) (hr:∀ g,row=some g→B≤g):Zaj w' B size A n xs :=
 h.keep fun p hp=>World.cell?_of_block (hg.block p.block (by omega) (fun e=>by have:=hr _ e.symm; omega))
theorem Zaj.cut (h:Zaj w B size A n xs) {k cap:Nat} (hk:k≤n) (hc:n≤cap) :
  Zaj w B size (if cap=k then A else A.map (·.add (k*size))) (n - k) (xs.drop (k*size)):=by
 refine ⟨by rw [List.length_drop,h.1,Nat.sub_mul],fun hn=>?_⟩
 obtain ⟨ad,rfl,hb,hcell⟩:=h.2 (by omega)
 rw [if_neg (by omega)]
 refine ⟨ad.add (k*size),rfl,by rw [Za1]; exact hb,fun j u hu=>?_⟩
 rw [Zew]
 exact hcell _ u (by rw [← hu,List.getElem?_drop])
theorem Zaj.of_own {base:Nat} {e:TypeId} {c:Nat} (h:w.ownsRow base e size (.slice A n c) n xs):Zaj w w.heap.size size A n xs:=by
 refine ⟨h.1,fun hn=>?_⟩
 obtain ⟨g,cap,hv,_,hlt⟩:=h.form hn
 have hA:A=some ⟨g,0,none⟩:=by injection hv
 subst hA
 exact ⟨_,rfl,hlt,h.cells (g:=g) rfl⟩
end
def Blk (w:World) (g:Nat) (t:TypeId) (cs:Array Value):Prop:=w.heap[g]?=some (.cells cs t (0,0))
section
variable {w w':World} {g:Nat} {t:TypeId} {cs:Array Value}
theorem Blk.lt (h:Blk w g t cs):g < w.heap.size:=by
 rcases Nat.lt_or_ge g w.heap.size with hlt | hge
 · exact hlt
 · unfold Blk at h; rw [Array.getElem?_eq_none hge] at h; cases h
theorem Blk.cell (h:Blk w g t cs) (i:Nat):w.cell? ⟨g,i,none⟩=cs[i]?:=cell_of_row w g i cs t (0,0) h
theorem Blk.frozen (h:Blk w g t cs) (i:Nat):w.frozen? ⟨g,i,none⟩=false:=by
 unfold Blk at h
 simp [World.frozen?,h]
theorem Blk.new (w:World) (t:TypeId) (cs:Array Value):Blk (w.alloc (.cells cs t)) w.heap.size t cs:=heap_alloc_new w _
theorem Blk.drew (h:Blk w g t cs):Blk w.drew g t cs:=h
theorem Blk.drewN (h:Blk w g t cs) (n:Nat):Blk (w.drewN n) g t cs:=h
theorem Blk.alloc (h:Blk w g t cs) (o:Obj):Blk (w.alloc o) g t cs:=(Below.heap_alloc w o g h.lt).trans h
theorem Blk.set_ (h:Blk w g t cs) (i:Nat) (u:Value):Blk (w.setCell ⟨g,i,none⟩ u) g t (cs.setIfInBounds i u):=by
 unfold Blk at h ⊢
 simp [World.setCell,Array.getElem?_modify,h]
theorem Blk.far (h:Blk w g t cs) {p:Addr} (hp:g≠p.block) (u:Value):Blk (w.setCell p u) g t cs:=(Below.heap_setCell w p u g hp).trans h
theorem Blk.below {B:Nat} (h:Blk w g t cs) (hb:Below B w w') (hg:g < B):Blk w' g t cs:=(hb.block g hg).trans h
theorem Blk.grown {row:Option Nat} (h:Blk w g t cs) (hb:w.grownBy w' row) (hg:some g≠row):Blk w' g t cs:=(hb.block g h.lt hg).trans h
theorem Blk.gb {q:Nat} (h:Blk w g t cs) (hb:w.grownBy w' (some q)) (hg:g≠q:=by omega):Blk w' g t cs:=h.grown hb (fun e=>hg (by injection e))
theorem Blk.ne_ {g':Nat} {t':TypeId} {cs':Array Value} (h:Blk w g t cs) (h':Blk w g' t' cs') (hne:t≠t'):g≠g':=by
 rintro rfl
 unfold Blk at h h'
 rw [h] at h'
 injection h' with h'
 injection h' with _ ht
 exact hne ht
theorem Zad {base:Nat} {e:TypeId} {size n:Nat} {v:Value} {xs:List Value} (h:w.ownsRow base e size v n xs) (hg:Blk w g t cs) (hne:e≠t):v.ownBlock≠some g:=by
 rcases h.2 with ⟨rfl,_⟩ | ⟨g',cap,cur,rfl,_,hh,_⟩
 · simp [Value.ownBlock]
 ·intro he
  have:g'=g:=by simpa [Value.ownBlock] using he
  subst this
  exact Blk.ne_ (t:=e) hh hg hne rfl
end
section
variable {P:Program} (w:World)
theorem ZeF (base:Nat) (t ty e:TypeId) (i:TypeInfo) (size:Nat) (ht:P.underlying t=some (.slice e)) (hi:P.info? e=some i)
  (v:Value) (n:Nat) (xs:List Value) (hown:w.ownsRow base e size v n xs) (c:Nat):(Builtin.append_ #[t,t] ty #[v,.slice none 0 c]).run P w=.ok v w:=by
 rcases hown.2 with ⟨rfl,rfl⟩ | ⟨g,cap,cur,rfl,_,_,hnc,_⟩
 · simp [Builtin.append_,run_underlying ht,sizeOf,typeInfo,hi,Builtin.lenOf,Builtin.firstCells]
 · simp [Builtin.append_,run_underlying ht,sizeOf,typeInfo,hi,Builtin.lenOf,Builtin.firstCells,hnc,storeCells]
theorem run_append_any (base:Nat) (t ty e:TypeId) (i:TypeInfo) (z:Value) (size bytes:Nat) (ht:P.underlying t=some (.slice e)) (hi:P.info? e=some i) (hz:i.zero=some z)
  (hsize:i.size=size) (hby:i.bytes=bytes) (hzs:z.cells.size=size) (hsz:0 < size)
  (v:Value) (n:Nat) (xs:List Value) (hown:w.ownsRow base e size v n xs)
  (B:Nat) (A:Option Addr) (m c:Nat) (news:List Value) (hr:Zaj w B size A m news) (h1:∀ u∈news,u.oneCell'=true)
  (h63:n+m≤maxLen) (hbytes:(n+m)*bytes≤140737488355328) (hbase:base≤w.heap.size) :
  ∃ v' w',(Builtin.append_ #[t,t] ty #[v,.slice A m c]).run P w=.ok v' w'∧w'.ownsRow base e size v' (n+m) (xs++news)∧w.grownBy w' v.ownBlock ∧
   (v'.ownBlock=v.ownBlock∨v'.ownBlock=some w.heap.size):=by
 rcases A with _ | ad
 ·have hm:m=0:=by
   rcases Nat.eq_zero_or_pos m with h0 | h0
   · exact h0
   ·obtain ⟨ad,h,_⟩:=hr.2 h0
    cases h
  subst hm
  have hn:news=[]:=List.eq_nil_of_length_eq_zero (by simpa using hr.1)
  subst hn
  exact ⟨v,w,ZeF w base t ty e i size ht hi v n xs hown c,by simpa using hown,World.grownBy.refl w _,.inl rfl⟩
 ·have hcells:∀ j u,news[j]?=some u→w.cell? (ad.add j)=some u:=by
   intro j u hu
   rcases Nat.eq_zero_or_pos m with h0 | h0
   ·subst h0
    have hn:news=[]:=List.eq_nil_of_length_eq_zero (by simpa using hr.1)
    subst hn
    simp at hu
   ·obtain ⟨ad',h,_,hc⟩:=hr.2 h0
    injection h with h
    subst h
    exact hc j u hu
  obtain ⟨v',w',hrun,h2,h3,_,h5⟩:=run_append_own_at (P:=P) w base t ty e i z size bytes ht hi hz hsize hby hzs hsz v n xs hown ad m c news hr.1 hcells h1 h63 hbytes hbase
  exact ⟨v',w',hrun,h2,h3,h5⟩
theorem Zeh {o:Oper} {a:Act} {K:Act→World→Prop} {Q:Exit→Act→World→Prop} (s x:Operand) (t:TypeId)
  (ho:o.op=.call { callee:=.builtin .append,args:=#[s,x],argTypes:=#[t,t] })
  (base:Nat) (e:TypeId) (i:TypeInfo) (z:Value) (size bytes:Nat) (ht:P.underlying t=some (.slice e)) (hi:P.info? e=some i) (hz:i.zero=some z)
  (hsize:i.size=size) (hby:i.bytes=bytes) (hzs:z.cells.size=size) (hsz:0 < size)
  (v:Value) (n:Nat) (xs:List Value) (hs:a.eval s=v) (hown:w.ownsRow base e size v n xs)
  (B:Nat) (A:Option Addr) (m c:Nat) (news:List Value) (hx:a.eval x=.slice A m c) (hr:Zaj w B size A m news) (h1:∀ u∈news,u.oneCell'=true)
  (h63:n+m≤maxLen) (hbytes:(n+m)*bytes≤140737488355328) (hbase:base≤w.heap.size)
  (h:∀ v' w',w'.ownsRow base e size v' (n+m) (xs++news)→w.grownBy w' v.ownBlock→(v'.ownBlock=v.ownBlock∨v'.ownBlock=some w.heap.size)→K (a.put o.dst v') w'):o.wp P a w K Q:=by
 obtain ⟨v',w',hrun,h2,h3,h4⟩:=run_append_any (P:=P) w base t o.type e i z size bytes ht hi hz hsize hby hzs hsz v n xs hown B A m c news hr h1 h63 hbytes hbase
 unfold Oper.wp execOp
 simp only [ho,resolve,invoke,builtin,Sem.run_bind,Sem.run_pure,Result.andThen_ok,List.map_toArray,List.map_cons,List.map_nil,hs,hx,hrun]
 exact h v' w' h2 h3 h4
theorem ZaM {ops:Array Oper} {rest:List Oper} {o:Oper} {a:Act} {Q:Exit→Act→World→Prop} (hgd:o.guard=none) (s x:Operand) (t:TypeId)
  (ho:o.op=.call { callee:=.builtin .append,args:=#[s,x],argTypes:=#[t,t] })
  (base:Nat) (e:TypeId) (i:TypeInfo) (z:Value) (size bytes:Nat) (ht:P.underlying t=some (.slice e)) (hi:P.info? e=some i) (hz:i.zero=some z)
  (hsize:i.size=size) (hby:i.bytes=bytes) (hzs:z.cells.size=size) (hsz:0 < size)
  (v:Value) (n:Nat) (xs:List Value) (hs:a.eval s=v) (hown:w.ownsRow base e size v n xs)
  (B:Nat) (A:Option Addr) (m c:Nat) (news:List Value) (hx:a.eval x=.slice A m c) (hr:Zaj w B size A m news) (h1:∀ u∈news,u.oneCell'=true)
  (h63:n+m≤maxLen) (hbytes:(n+m)*bytes≤140737488355328) (hbase:base≤w.heap.size)
  (h:∀ v' w',w'.ownsRow base e size v' (n+m) (xs++news)→w.grownBy w' v.ownBlock→(v'.ownBlock=v.ownBlock∨v'.ownBlock=some w.heap.size)→wpList P ops Q rest (a.put o.dst v') w'):wpList P ops Q (o::rest) a w :=
 wpList_plain hgd fun _ hK=>Zeh w s x t ho base e i z size bytes ht hi hz hsize hby hzs hsz v n xs hs hown B A m c news hx hr h1 h63 hbytes hbase fun v' w' h2 h3 h4=>hK _ _ (h v' w' h2 h3 h4)
theorem ZaJ {ops:Array Oper} {o:Oper} {a:Act} {K:Act→World→Prop} {Q:Exit→Act→World→Prop} {E:Prop} (hgd:o.guard=none) (s x:Operand) (t:TypeId)
  (ho:o.op=.call { callee:=.builtin .append,args:=#[s,x],argTypes:=#[t,t] })
  (base:Nat) (e:TypeId) (i:TypeInfo) (z:Value) (size bytes:Nat) (ht:P.underlying t=some (.slice e)) (hi:P.info? e=some i) (hz:i.zero=some z)
  (hsize:i.size=size) (hby:i.bytes=bytes) (hzs:z.cells.size=size) (hsz:0 < size)
  (v:Value) (n:Nat) (xs:List Value) (hs:a.eval s=v) (hown:w.ownsRow base e size v n xs)
  (B:Nat) (A:Option Addr) (m c:Nat) (news:List Value) (hx:a.eval x=.slice A m c) (hr:Zaj w B size A m news) (h1:∀ u∈news,u.oneCell'=true)
  (h63:n+m≤maxLen) (hbytes:(n+m)*bytes≤140737488355328) (hbase:base≤w.heap.size)
  (h:∀ v' w',w'.ownsRow base e size v' (n+m) (xs++news)→w.grownBy w' v.ownBlock→(v'.ownBlock=v.ownBlock∨v'.ownBlock=some w.heap.size)→K (a.put o.dst v') w') :
  if Region.wanted o (yielded ops a.tmps)=true then Oper.wp P o a w K Q else E:=by
 have hw:Region.wanted o (yielded ops a.tmps)=true:=by simp [Region.wanted,hgd]
 rw [if_pos hw]
 exact Zeh w s x t ho base e i z size bytes ht hi hz hsize hby hzs hsz v n xs hs hown B A m c news hx hr h1 h63 hbytes hbase h
end
theorem jd {p:Prop} (h:p):Hid p:=h
theorem uh {p:Prop} (h:Hid p):p:=h
theorem quiet_add {P:Program} {f:FuncId} {args:Array Value} {w:World} {a n:Nat} {v:Value}
  (h:Calls P f args (w.drewN (a+n)) fun e w'=>e=.returned v∧∃ m,w'=(w.drewN (a+n)).drewN m) :
  Calls P f args (w.drewN (a+n)) fun e w''=>e=.returned v∧∃ m,w''=w.drewN (a+m) :=
 h.mono fun _ _ ⟨he,m,hm⟩=>⟨he,n+m,by rw [hm,World.drewN_drewN,Nat.add_assoc]⟩
theorem quiet_add_same {P:Program} {f:FuncId} {args:Array Value} {w:World} {a n:Nat} {v:Value}
  (h:Calls P f args (w.drewN (a+n)) fun e w'=>e=.returned v∧w'=w.drewN (a+n)) :
  Calls P f args (w.drewN (a+n)) fun e w''=>e=.returned v∧∃ m,w''=w.drewN (a+m) :=
 h.mono fun _ _ ⟨he,hm⟩=>⟨he,n,hm⟩
theorem quiet_add_left {P:Program} {f:FuncId} {args:Array Value} {w:World} {a n:Nat} {v:Value}
  (h:Calls P f args (w.drewN (a+n)) fun e w'=>e=.returned v∧w.drewN (a+n)=w') :
  Calls P f args (w.drewN (a+n)) fun e w''=>e=.returned v∧∃ m,w''=w.drewN (a+m) :=
 h.mono fun _ _ ⟨he,hm⟩=>⟨he,n,hm.symm⟩
theorem ZdF {P:Program} {f:FuncId} {args:Array Value} {w:World} {n:Nat} {v:Value}
  (h:Calls P f args (w.drewN n) fun e w'=>e=.returned v∧w.drewN n=w'):Calls P f args (w.drewN n) fun e w''=>e=.returned v∧∃ m,w''=w.drewN m :=
 h.mono fun _ _ ⟨he,hm⟩=>⟨he,n,hm.symm⟩
theorem results_tmp4 {fn:Func} {t u v x:Tmp} (h:fn.results=#[.tmp t,.tmp u,.tmp v,.tmp x]) (tmps:Array Value) (P:Program) (w:World) :
 (results fn tmps).run P w=.ok (.tuple #[tmps.getD t undef,tmps.getD u undef,tmps.getD v undef,tmps.getD x undef]) w:=by simp [results,h]
theorem results_tmp5 {fn:Func} {t u v x y:Tmp} (h:fn.results=#[.tmp t,.tmp u,.tmp v,.tmp x,.tmp y]) (tmps:Array Value) (P:Program) (w:World) :
 (results fn tmps).run P w=.ok (.tuple #[tmps.getD t undef,tmps.getD u undef,tmps.getD v undef,tmps.getD x undef,tmps.getD y undef]) w:=by simp [results,h]
theorem ZaK {B:Nat} {a w:World} (h:Below B a w) (n:Nat):Below B a (w.drewN n):=⟨h.os,h.tape,h.output,h.size,h.block⟩
theorem rowIs_drewN {w:World} {b:Nat} {t:TypeId} {n:Nat} {f:Nat→Value} (h:w.rowIs b t n f) (k:Nat):(w.drewN k).rowIs b t n f:=h
theorem grown_trans {a b c:World} (h:Grown a b) (k:Grown b c):Grown a c :=
 ⟨World.keptBut_trans h.1 k.1,fun x=>(k.2.1 x).trans (h.2.1 x),Nat.le_trans h.2.2 k.2.2⟩
theorem ZcV {a w:World} {row:Option Nat} (h:a.grownBy w row) (n:Nat):a.grownBy (w.drewN n) row:=⟨h.os,h.tape,h.output,h.size,h.block⟩
theorem ZbW {a w:World} {row:Option Nat} (h:a.grownBy w row):a.grownBy w.drew row:=⟨h.os,h.tape,h.output,h.size,h.block⟩
theorem only_alloc {a w:World} {row:Option Nat} (h:a.grownBy w row) (o:Obj):a.grownBy (w.alloc o) row :=
 ⟨h.os,h.tape,h.output,Nat.le_trans h.size (by simp),fun i hi hne=>(Below.heap_alloc w o i (Nat.lt_of_lt_of_le hi h.size)).trans (h.block i hi hne)⟩
theorem ZaC {a w:World} {g:Nat} (h:a.grownBy w (some g)) {p:Addr} (hp:p.block=g∨a.heap.size≤p.block) (u:Value):a.grownBy (w.setCell p u) (some g) :=
 ⟨h.os,h.tape,h.output,by simpa [World.setCell] using h.size,fun i hi hne=>(Below.heap_setCell w p u i (by
  rintro rfl
  rcases hp with hp | hp
  · exact hne (by rw [hp])
  · omega)).trans (h.block i hi hne)⟩
theorem Zah {a w:World} (h:Below a.heap.size a w) (row:Option Nat):a.grownBy w row:=⟨h.os,h.tape,h.output,h.size,fun i hi _=>h.block i hi⟩
theorem run_make_rowN {P:Program} (t e:TypeId) (i:TypeInfo) (z:Value) (ht:P.underlying t=some (.slice e)) (hi:P.info? e=some i) (hz:i.zero=some z)
  (kl kc:IntKind) (n c:Nat) (hnc:n≤c) (hbytes:i.bytes*c≤281474976710656) (h63:c≤9223372036854775807) (w:World) :
  (Instr.makeSlice t (.int kl (n:Int)) (.int kc (c:Int))).run P w=.ok (.slice (some ⟨w.heap.size,0,none⟩) n c) (w.alloc (.cells (madeCells z.cells (c*i.size)) e)):=by
 have hb:(i.bytes:Int)*(c:Int)≤281474976710656:=by
  have h:((i.bytes*c:Nat):Int)≤281474976710656:=by omega
  rwa [Int.natCast_mul] at h
 have hr:=run_make (P:=P) w t e i z ht hi hz kl kc n c (by omega) (by omega) hb (by omega)
 simp only [Int.toNat_natCast] at hr
 exact hr
theorem run_makeMap_hint {P:Program} (t k e:TypeId) (kd:IntKind) (n:Int) (ht:P.underlying t=some (.map k e)) (w:World) :
  (Instr.makeMap t (some (.int kd n))).run P w=.ok (.map (some w.heap.size)) (w.alloc (.map #[] 0)):=by
 simp [Instr.makeMap,run_underlying ht]; rfl
theorem ZcX (a:Nat) (ha:a < 9223372036854775808):(BitVec.ofInt 64 (a:Int)).toNat=a:=by
 rw [BitVec.ofInt_natCast,BitVec.toNat_ofNat]; exact Nat.mod_eq_of_lt (by omega)
theorem i64_and_nat (a b:Nat) (ha:a < 9223372036854775808) (hb:b < 9223372036854775808):bits .and .i64 (a:Int) (b:Int)=((a &&& b:Nat):Int):=by
 have hx:a &&& b < 2 ^ 63:=Nat.and_lt_two_pow _ (by omega)
 show IntKind.i64.wrap ((BitVec.ofInt 64 (a:Int) &&& BitVec.ofInt 64 (b:Int)).toNat:Int)=_
 rw [BitVec.toNat_and,ZcX a ha,ZcX b hb,IntKind.wrap_i64]
 omega
theorem i64_or_nat (a b:Nat) (ha:a < 9223372036854775808) (hb:b < 9223372036854775808):bits .or .i64 (a:Int) (b:Int)=((a ||| b:Nat):Int):=by
 have hx:a ||| b < 2 ^ 63:=Nat.or_lt_two_pow (by omega) (by omega)
 show IntKind.i64.wrap ((BitVec.ofInt 64 (a:Int) ||| BitVec.ofInt 64 (b:Int)).toNat:Int)=_
 rw [BitVec.toNat_or,ZcX a ha,ZcX b hb,IntKind.wrap_i64]
 omega
theorem i64_xor_nat (a b:Nat) (ha:a < 9223372036854775808) (hb:b < 9223372036854775808):bits .xor .i64 (a:Int) (b:Int)=((a ^^^ b:Nat):Int):=by
 have hx:a ^^^ b < 2 ^ 63:=Nat.xor_lt_two_pow (by omega) (by omega)
 show IntKind.i64.wrap ((BitVec.ofInt 64 (a:Int) ^^^ BitVec.ofInt 64 (b:Int)).toNat:Int)=_
 rw [BitVec.toNat_xor,ZcX a ha,ZcX b hb,IntKind.wrap_i64]
 omega
section
variable {H:Type} {enc:TypeId × Value→H} {P:Program}
theorem post_of_below {f:Func} {s:ChangeSpec} {apart fresh handsOn again:Bool} {W W':World} {args:Array Value} {v:Value} {ds gs:List (DataW H)} {before pa pv:List MemPlace}
  (hW:DataW.Whole enc P f.params.toList s.vars apart W args.toList ds gs before)
  (hres:∀ (b:Nat) (sp:Nat→Bool) (hd:Bool),DataW.TrodAll enc P W' b sp hd f.resultTypes.toList (v.resultList f.resultTypes.size) (s.fn H (ds++gs)).results [])
  (hargs:∀ sp:Nat→Bool,(∀ p∈before,sp p.block=true)→DataW.TrodAll enc P W' 0 sp true f.params.toList args.toList (s.fn H (ds++gs)).args pa)
  (hvars:∀ sp:Nat→Bool,(∀ p∈before,sp p.block=true)→DataW.TrodVars enc P W' sp s.vars (s.fn H (ds++gs)).vars pv)
  (hps:before=pa++pv) (hb:Below W.heap.size W W')
  (hok:∀ (j:Nat) (t:TypeId) (r:Value),f.resultTypes[j]?=some t→(v.resultList f.resultTypes.size)[j]?=some r→Value.okWide P W' .any 0 t r) :
  s.post enc P f apart fresh handsOn again W args v W':=by
 have hlt:∀ p∈before,p.block < W.heap.size:=fun p hp=>hW.lt p hp
 have hold:∀ p∈before,(fun b=>decide (b < W.heap.size)) p.block=true:=fun p hp=>by simpa using hlt p hp
 refine ⟨ds,gs,before,[],pa,pv,hW,hres _ _ _,hargs _ hold,hvars _ hold,World.keptBut_mono (fun p hp=>⟨hp,?_⟩) (hb.frame (·∈before)),fun _=>?_⟩
 ·rw [hps,List.mem_append] at hp
  exact Or.inr hp
 ·obtain ⟨_,_,_,_,_,hz,hn⟩:=hW
  refine ⟨hok,_,_,([]++pa)++pv,⟨[]++pa,pv,trodAll_append (hargs _ (fun _ _=>rfl)) (hres _ _ _),hvars _ (fun _ _=>rfl),rfl,?_,?_⟩,?_⟩
  ·intro b off hp
   have hin:MemPlace.cell b off∈before:=by rw [hps]; simpa using hp
   rw [hb.frozen (hlt _ hin)]
   exact hz b off hin
  ·intro ha
   have:=hn ha
   rw [hps] at this
   simpa using this
  ·intro p hp _
   rw [hps]
   simpa using hp
end
theorem bcell {W w1:World} {B:Nat} (hb:Below B W w1):(∀ b o,b < B→w1.cell? ⟨b,o,none⟩=W.cell? ⟨b,o,none⟩)∧(∀ b o,b < B→w1.frozen? ⟨b,o,none⟩=W.frozen? ⟨b,o,none⟩) :=
 ⟨fun b o h=>hb.cell (p:=⟨b,o,none⟩) h,fun b o h=>hb.frozen (p:=⟨b,o,none⟩) h⟩
theorem Zbg {P:Program} {id:Nat} {Q:Exit→Act→World→Prop} {a:Act} {w:World} {l:List Oper} (n:Nat) (hm:P.follows .mixedOrders=true) (hB:Region.lexTailB .any l.toArray n=true)
 (h:wpStill P l.toArray w.drew (fun a'=>wpList P l.toArray Q (l.drop n) a' w.drew) (l.take n) a):(Code.region id l.toArray true).wp P Q a w:=wp_region_still_tail n hm hB h
theorem ZcN {P:Program} {f:FuncId} {args:Array Value} {w:World} {v:Value} (h:Calls P f args w fun e w'=>e=.returned v∧w=w'):Calls P f args w fun e w'=>e=.returned v∧w'=w :=
 h.mono fun _ _ h=>⟨h.1,h.2.symm⟩
theorem ZbM (g o j:Nat):(Addr.mk g o none).add j=⟨g,o+j,none⟩:=by
 unfold Addr.add; split
 · subst_vars; rfl
 · rfl
theorem Zaj.of_blk {w:World} {g B:Nat} {t:TypeId} {cs:List Value} (h:Blk w g t cs.toArray) (k m:Nat) (hkm:k+m≤cs.length) (hB:g < B):Zaj w B 1 (some ⟨g,k,none⟩) m ((cs.drop k).take m):=by
 refine ⟨by simp; omega,fun _=>⟨_,rfl,hB,fun j u hu=>?_⟩⟩
 rw [ZbM,h.cell]
 have hj:j < m:=by
  have:=(List.getElem?_eq_some_iff.1 hu).1
  simp at this; omega
 rw [List.getElem?_take_of_lt hj,List.getElem?_drop] at hu
 simpa using hu
theorem Zaj.take {w:World} {B n m:Nat} {A:Option Addr} {xs:List Value} (h:Zaj w B 1 A n xs) (hm:m≤n):Zaj w B 1 A m (xs.take m):=by
 refine ⟨by rw [List.length_take,h.1]; omega,fun h0=>?_⟩
 obtain ⟨ad,e,hb,hc⟩:=h.2 (by omega)
 refine ⟨ad,e,hb,fun j u hu=>hc j u ?_⟩
 have hj:j < m:=by
  have:=(List.getElem?_eq_some_iff.1 hu).1
  simp at this; omega
 rwa [List.getElem?_take_of_lt hj] at hu
theorem Zaj.some_ {w:World} {B n:Nat} {A:Option Addr} {xs:List Value} (h:Zaj w B 1 A n xs) (hn:0 < n) :∃ad,A=some ad:=by
 obtain ⟨ad,e,_⟩:=h.2 hn
 exact ⟨ad,e⟩
def sliceLen:Value→Nat
 | .slice _ n _=>n
 | _=>0
theorem Zae (w:World) (o:Obj):(w.alloc o).heap.size=w.heap.size+1:=by simp
theorem ZdD (w:World) (o:Obj):w.heap.size≤(w.alloc o).heap.size:=by rw [Zae]; omega
theorem Blk.new' {w:World} {t:TypeId} {cs:Array Value} {g:Nat} (hg:g=w.heap.size):Blk (w.alloc (.cells cs t)) g t cs:=by rw [hg]; exact Blk.new w t cs
theorem ret_int {k:IntKind} {a b:Int} (h:a=b):Ending.returned (.int k a)=.returned (.int k b):=by rw [h]
section
variable {w w':World} {B n m k:Nat} {A A':Option Addr} {xs:List Value} {ad:Addr}
theorem Zaj.sub (h:Zaj w B 1 (some ad) n xs) (hkm:k+m≤n):Zaj w B 1 (some (ad.add k)) m ((xs.drop k).take m):=by
 have h1:=h.1
 refine ⟨by simp; omega,fun h0=>?_⟩
 obtain ⟨ad',e,hb,hc⟩:=h.2 (by omega)
 injection e with e
 subst e
 refine ⟨_,rfl,by rw [Za1]; exact hb,fun j u hu=>?_⟩
 have hj:j < m:=by
  have:=(List.getElem?_eq_some_iff.1 hu).1
  simp at this; omega
 rw [Zew]
 rw [List.getElem?_take_of_lt hj,List.getElem?_drop] at hu
 exact hc _ _ hu
theorem Zaj.tail_ (h:Zaj w B 1 A n xs) (hk:k≤n) (hA:k < n→A'=A.map (·.add k)):Zaj w B 1 A' (n - k) (xs.drop k):=by
 have h1:=h.1
 refine ⟨by simp; omega,fun h0=>?_⟩
 obtain ⟨ad',rfl,hb,hc⟩:=h.2 (by omega)
 refine ⟨_,hA (by omega),by rw [Za1]; exact hb,fun j u hu=>?_⟩
 rw [Zew]
 rw [List.getElem?_drop] at hu
 exact hc _ _ hu
end
theorem Zaw {w:World} {base:Nat} {e:TypeId} {size n:Nat} {v:Value} {xs:List Value} (h:w.ownsRow base e size v n xs):∀ g,v.ownBlock=some g→base≤g:=by
 intro g hg
 rcases h.2 with ⟨rfl,_⟩ | ⟨g',cap,cur,rfl,hb,_⟩
 · simp [Value.ownBlock] at hg
 ·have:g'=g:=by simpa [Value.ownBlock] using hg
  omega
theorem Zac {w:World} {base:Nat} {e:TypeId} {size n:Nat} {v:Value} {xs:List Value} (h:w.ownsRow base e size v n xs) :∃A c,v=.slice A n c∧n≤c∧c≤maxLen:=by
 rcases h.2 with ⟨rfl,rfl⟩ | ⟨g,cap,cur,rfl,_,_,hc,hm,_⟩
 · exact ⟨none,0,rfl,Nat.le_refl _,by simp [maxLen]⟩
 · exact ⟨_,cap,rfl,hc,hm⟩
theorem ZcT {P:Program} (w0:World) {ops:Array Oper} {rest:List Oper} {o:Oper} {a:Act} {Q:Exit→Act→World→Prop} (hgd:o.guard=none) (s x:Operand) (t:TypeId)
  (ho:o.op=.call { callee:=.builtin .append,args:=#[s,x],argTypes:=#[t,t] })
  (base:Nat) (e:TypeId) (i:TypeInfo) (z:Value) (bytes:Nat) (ht:P.underlying t=some (.slice e)) (hi:P.info? e=some i) (hz:i.zero=some z)
  (hsize:i.size=1) (hby:i.bytes=bytes) (hzs:z.cells.size=1)
  (v:Value) (n:Nat) (xs:List Value) (hs:a.eval s=v) (hown:w0.ownsRow base e 1 v n xs) (u:Value) (hx:a.eval x=.slice (some ⟨w0.heap.size,0,none⟩) 1 1) (h1:u.oneCell'=true)
  (h63:n+1≤maxLen) (hbytes:(n+1)*bytes≤140737488355328) (hbase:base≤w0.heap.size)
  (h:∀ v' w',w'.ownsRow base e 1 v' (n+1) (xs++[u])→Below base w0 w'→wpList P ops Q rest (a.put o.dst v') w') :
  wpList P ops Q (o::rest) a (w0.alloc (.cells #[u] e)):=by
 have hr:Zaj (w0.alloc (.cells #[u] e)) (w0.heap.size+1) 1 (some ⟨w0.heap.size,0,none⟩) 1 [u]:=by
  have:=Zaj.of_blk (B:=w0.heap.size+1) (Blk.new w0 e #[u]) 0 1 (by simp) (Nat.lt_succ_self _)
  simpa using this
 refine ZaM _ hgd s x t ho base e i z 1 bytes ht hi hz hsize hby hzs (by omega) v n xs hs (hown.alloc _) (w0.heap.size+1) _ 1 1 [u] hx hr (by simpa using h1) h63 hbytes (by rw [Zae]; omega) ?_
 intro v' w' hown' hg _
 refine h v' w' hown' ?_
 exact ((Below.refl base w0).alloc hbase _).grown hg (by rw [Zae]; omega) (Zaw hown)
abbrev bsV (bs:List UInt8):List Value:=bs.map fun b=>.int .u8 (b.toNat:Int)
def leW:List UInt8→Nat
 | []=>0
 | b::r=>b.toNat+256*leW r
theorem Zd0 {bs:List UInt8} {k:Nat} {u:Value} (h:(bsV bs)[k]?=some u) :∃b:UInt8,bs[k]?=some b∧u=.int .u8 (b.toNat:Int)∧0≤(b.toNat:Int)∧(b.toNat:Int) < 256:=by
 unfold bsV at h
 rw [List.getElem?_map] at h
 match hb:bs[k]?,h with
 | some b,h=>exact ⟨b,rfl,by simpa using h.symm,by omega,by have:=b.toNat_lt; omega⟩
theorem leW_lt (l:List UInt8):leW l < 256 ^ l.length:=by
 induction l with
 | nil=>simp [leW]
 |cons b r ih =>
  have:=b.toNat_lt
  simp only [leW,List.length_cons,Nat.pow_succ]
  omega
theorem leW_snoc (l:List UInt8) (b:UInt8):leW (l++[b])=leW l+b.toNat*256 ^ l.length:=by
 induction l with
 | nil=>simp [leW]
 |cons a r ih =>
  simp only [List.cons_append,leW,ih,List.length_cons,Nat.pow_succ]
  rw [Nat.mul_add,Nat.mul_comm (256 ^ r.length) 256,← Nat.mul_assoc,← Nat.mul_assoc,Nat.mul_comm b.toNat 256]
  omega
theorem Ze4 {l:List UInt8} {k:Nat} {b:UInt8} (h:l[k]?=some b):l.take (k+1)=l.take k++[b]:=by
 rw [List.take_add_one,h]; rfl
theorem pow256 (k:Nat):256 ^ k=2 ^ (8*k):=by rw [Nat.pow_mul]
theorem pow_le (k n:Nat) (h:k≤n):256 ^ k≤256 ^ n:=Nat.pow_le_pow_right (by omega) h
theorem or_u64 (x y:Nat) (hx:x < 18446744073709551616) (hy:y < 18446744073709551616):bits .or .u64 (x:Int) (y:Int)=((x ||| y:Nat):Int):=by
 have hz:x ||| y < 2 ^ 64:=Nat.or_lt_two_pow (by omega) (by omega)
 show IntKind.u64.wrap ((BitVec.ofInt 64 (x:Int) ||| BitVec.ofInt 64 (y:Int)).toNat:Int)=_
 have e:∀ a:Nat,a < 18446744073709551616→(BitVec.ofInt 64 (a:Int)).toNat=a:=fun a ha=>by
  rw [BitVec.ofInt_natCast,BitVec.toNat_ofNat]; exact Nat.mod_eq_of_lt (by omega)
 rw [BitVec.toNat_or,e x hx,e y hy,IntKind.wrap_u64]
 omega
theorem leW_step {bs:List UInt8} {k:Nat} {b:UInt8} (h:bs[k]?=some b) (hk:k < 8) :
  bits .or .u64 (leW (bs.take k):Int) (IntKind.u64.wrap ((b.toNat:Int)*2 ^ (8*k)))=(leW (bs.take (k+1)):Int):=by
 have hl:k < bs.length:=(List.getElem?_eq_some_iff.1 h).1
 have hlen:(bs.take k).length=k:=by rw [List.length_take]; omega
 have h1:=leW_lt (bs.take k)
 rw [hlen] at h1
 have h2:=leW_snoc (bs.take k) b
 rw [hlen] at h2
 rw [Ze4 h,h2]
 have hp:256 ^ (k+1)≤256 ^ 8:=pow_le _ _ (by omega)
 have hp8:(256:Nat) ^ 8=18446744073709551616:=rfl
 have hb:=b.toNat_lt
 have hb2:b.toNat*256 ^ k < 18446744073709551616:=by
  rw [Nat.pow_succ,Nat.mul_comm] at hp
  have:b.toNat*256 ^ k < 256*256 ^ k:=Nat.mul_lt_mul_of_pos_right (by simpa using hb) (Nat.pow_pos (by omega))
  omega
 have hp0:256 ^ k≤256 ^ 8:=pow_le _ _ (by omega)
 have e1:IntKind.u64.wrap ((b.toNat:Int)*2 ^ (8*k))=((b.toNat*256 ^ k:Nat):Int):=by
  rw [IntKind.wrap_u64,pow256]
  have:((b.toNat:Int)*2 ^ (8*k))=((b.toNat*2 ^ (8*k):Nat):Int):=by simp
  rw [this,← pow256]
  omega
 rw [e1,or_u64 _ _ (by omega) hb2]
 congr 1
 rw [Nat.or_comm,Nat.mul_comm,pow256,← Nat.two_pow_add_eq_or_of_lt (by rw [← pow256]; exact h1),Nat.add_comm]
theorem foldl_push (bs:List UInt8):∀ s:ByteArray,(bs.map fun b=>(b.toNat:Int)).foldl (fun r n=>r.push (UInt8.ofNat n.toNat)) s=⟨s.data++bs.toArray⟩:=by
 intro s
 rw [foldl_push_bytes]
 congr 2
 rw [List.map_map]
 congr 1
 conv=>rhs; rw [← List.map_id bs]
 apply List.map_congr_left
 intro b _
 simp [Function.comp]
theorem Zb8 {P:Program} {w:World} {B n c:Nat} {A:Option Addr} {bs:List UInt8} (h:Zaj w B 1 A n (bsV bs)) (src dst e:TypeId) (hs:P.underlying src=some (.slice e)) (he:P.underlying e=some (.int .u8))
  (hd:P.underlying dst=some .string):(convert src dst (.slice A n c)).run P w=.ok (.string ⟨bs.toArray⟩) w:=by
 rw [run_convert_bytes_string w src dst e A n c hs he hd]
 have hlen:bs.length=n:=by have:=h.1; simpa using this
 rcases A with _ | a
 ·have hn:n=0:=by
   rcases Nat.eq_zero_or_pos n with h0 | h0
   · exact h0
   · obtain ⟨ad,e,_⟩:=h.2 h0; cases e
  subst hn
  obtain rfl:bs=[]:=List.eq_nil_of_length_eq_zero hlen
  simp [Conv.bytesToString]
  rfl
 ·have hl:(loadCells a n).run P w=.ok ((bs.map fun b=>(b.toNat:Int)).map (Value.int .u8)).toArray w:=by
   have:=run_loadCells_list (P:=P) w a (bsV bs) (fun j v hj=>by
    have hn:0 < n:=by
     have:=(List.getElem?_eq_some_iff.1 hj).1
     simp at this; omega
    obtain ⟨ad,e,_,hc⟩:=h.2 hn
    injection e with e
    subst e
    exact hc j v hj)
   have e:(bs.map fun b=>(b.toNat:Int)).map (Value.int .u8)=bsV bs:=by simp [bsV,List.map_map,Function.comp]
   rw [e]
   simpa [hlen] using this
  rw [run_bytesToString w a n c _ hl,foldl_push]
  simp [ByteArray.empty,ByteArray.emptyWithCapacity]
  rfl
structure Zcz (S:World→Prop) where
 val:World
 ok:S val
theorem Zfg {P:Program} {id:Nat} {Q:Exit→Act→World→Prop} {a:Act} {w:World} {l:List Oper} (S:World→Prop) (hm:P.follows .mixedOrders=true) (hB:Region.lexB .any l.toArray=true) (hS:S w.drew)
  (h:wpQuiet P l.toArray (fun w'=>∃ x:Zcz S,w'=x.val) (fun a'=>∀ w',(∃ x:Zcz S,w'=x.val)→Q .normal a' w') l a):(Code.region id l.toArray true).wp P Q a w :=
 wp_region_quiet (C:=fun w'=>∃ x:Zcz S,w'=x.val) hm hB ⟨⟨_,hS⟩,rfl⟩ (by simpa using h)
theorem class_call {P:Program} {f:FuncId} {args:Array Value} {S:World→Prop} {x:Zcz S} {v:Value} {B:Nat} (h:Calls P f args x.val fun e w'=>e=.returned v∧Below B x.val w') (hS:∀ w',Below B x.val w'→S w') :
  Calls P f args x.val fun e w''=>e=.returned v∧∃ y:Zcz S,w''=y.val :=
 h.mono fun _ w' ⟨he,hb⟩=>⟨he,⟨w',hS w' hb⟩,rfl⟩
theorem quiet_load_row {P:Program} {o:Oper} {a:Act} {C:World→Prop} {K:Act→Prop} (ty:TypeId) (x:Operand) (ho:o.op=.load ty x)
  (g:Nat) (hx:a.eval x=.pointer (some ⟨g,0,none⟩)) (t:TypeId) (cs:Array Value) (d:TypeDesc) (hg:∀ w,C w→Blk w g t cs)
  (hu:P.underlying ty=some d) (hd:(match d with | .struct _ | .array _ _=>true | _=>false)=true) (hi:(P.info? ty).map (·.size)=some cs.size)
  (h:K (a.put o.dst (.agg cs))):o.quiet P a C K:=by
 refine ⟨.agg cs,fun w hw=>?_,h⟩
 unfold Oper.quietAt execOp
 simp only [ho,hx,Instr.loadAt,Instr.sureAddr,Sem.run_bind,Sem.run_pure,Result.andThen_ok,run_loadVar_row w g t ty cs (0,0) d (hg w hw) hu hd hi]
 exact ⟨rfl,rfl⟩
theorem ZcO {P:Program} (w:World) (d:Nat) {e:TypeId} (he:P.underlying e=some (.int .u8)) (hpl:P.plainKey e=true) (L:List UInt8):∀ is:List Nat,(∀ i∈is,i < L.length) →
  (Op.eqItems (d+1) e 1 (bsV L).toArray (bsV L).toArray is).run P w=.ok true w
 | [],_=>by simp [Op.eqItems]
 |i::is,h=>by
  have hi:=h i (List.mem_cons_self ..)
  have hx:(bsV L).toArray[i*1]?=some (.int .u8 ((L[i]).toNat:Int)):=by
   simp [bsV,hi]
  simp only [Op.eqItems,Sem.run_bind,run_part_plain w hpl hx,run_equalIn_int w d e .u8 .u8 _ _ he,Result.andThen_ok]
  simpa using ZcO w d he hpl L is (fun j hj=>h j (List.mem_cons_of_mem _ hj))
theorem Ze3 {P:Program} (w:World) {t e:TypeId} {n:Nat} {i:TypeInfo} (L:List UInt8) (hL:L.length=n) (ht:P.underlying t=some (.array n e)) (hi:P.info? e=some i) (hc:P.cellsOf e=1) (he:P.underlying e=some (.int .u8)) (hpl:P.plainKey e=true) :
  (binOp .eql t (.agg (bsV L).toArray) (.agg (bsV L).toArray)).run P w=.ok (.bool true) w:=by
 rw [run_eql_struct,run_equalIn_array w 9999 _ _ ht hi,hc,ZcO w 9998 he hpl L (List.range n) (fun i h=>by rw [hL]; exact List.mem_range.1 h)]
 rfl
theorem quiet_bytes_str {P:Program} {o:Oper} {a:Act} {C:World→Prop} {K:Act→Prop} (src dst e:TypeId) (x:Operand) (ho:o.op=.convert src dst x)
  (A:Option Addr) (n c:Nat) (hx:a.eval x=.slice A n c) (B:Nat) (bs:List UInt8) (hg:∀ w,C w→Zaj w B 1 A n (bsV bs))
  (hs:P.underlying src=some (.slice e)) (he:P.underlying e=some (.int .u8)) (hd:P.underlying dst=some .string)
  (h:K (a.put o.dst (.string ⟨bs.toArray⟩))):o.quiet P a C K:=by
 refine ⟨.string ⟨bs.toArray⟩,fun w hw=>?_,h⟩
 unfold Oper.quietAt execOp
 simp only [ho,hx,Sem.run_bind,Sem.run_pure,Result.andThen_ok,Zb8 (c:=c) (hg w hw) src dst e hs he hd]
 exact ⟨rfl,rfl⟩
theorem Ze9 {P:Program} (w:World) {ops:Array Oper} {o:Oper} {a:Act} {K:Act→World→Prop} {Q:Exit→Act→World→Prop} {E:Prop} (hw:Region.wanted o (yielded ops a.tmps)=true) (src dst e:TypeId) (x:Operand) (ho:o.op=.convert src dst x)
  (A:Option Addr) (n c:Nat) (hx:a.eval x=.slice A n c) (B:Nat) (bs:List UInt8) (hr:Zaj w B 1 A n (bsV bs)) (hs:P.underlying src=some (.slice e)) (he:P.underlying e=some (.int .u8)) (hd:P.underlying dst=some .string)
  (h:K (a.put o.dst (.string ⟨bs.toArray⟩)) w):if Region.wanted o (yielded ops a.tmps)=true then Oper.wp P o a w K Q else E:=by
 rw [if_pos hw]
 unfold Oper.wp execOp
 simp only [ho,hx,Sem.run_bind,Sem.run_pure,Result.andThen_ok,Zb8 (c:=c) hr src dst e hs he hd]
 exact h
theorem step_eql_arr {P:Program} (w:World) {ops:Array Oper} {o:Oper} {a:Act} {K:Act→World→Prop} {Q:Exit→Act→World→Prop} {E:Prop} (hw:Region.wanted o (yielded ops a.tmps)=true) (t u e:TypeId) (x y:Operand) (ho:o.op=.binOp .eql t x y u)
  (L:List UInt8) (hx:a.eval x=.agg (bsV L).toArray) (hy:a.eval y=.agg (bsV L).toArray) (hm:P.eqGuardType P.depth t=false) (n:Nat) (i:TypeInfo) (hL:L.length=n) (ht:P.underlying t=some (.array n e)) (hi:P.info? e=some i) (hc:P.cellsOf e=1) (he:P.underlying e=some (.int .u8)) (hpl:P.plainKey e=true)
  (h:K (a.put o.dst (.bool true)) w):if Region.wanted o (yielded ops a.tmps)=true then Oper.wp P o a w K Q else E:=by
 rw [if_pos hw]
 unfold Oper.wp execOp
 simp only [ho,hx,hy,Sem.run_bind,Sem.run_pure,Result.andThen_ok,run_eqGuard_agg w .eql t x y _ _ hm,Ze3 w L hL ht hi hc he hpl]
 exact h
section
variable {P:Program} {md:Region.Mode} {l:List Oper} {Q:Exit→Act→World→Prop} {S:World→Prop} {fuel:Nat} {listed:Array Bool} {a:Act} {w:World} {o:Oper}
theorem ZdA {i:Nat} {oi:Oper} {v:Value} (hi:l[i]?=some oi) (hs:Region.noSelect l.toArray=true) (hf:Region.free md l.toArray listed i=true) (hr:(Region.ready md l.toArray listed).contains i=true)
  (hy:YieldsIf P l.toArray S oi v a) (hS:S w) (h:wpAnyH P md l.toArray (NoPanic Q) S fuel (listed.setIfInBounds i true) (a.put oi.dst v) w):wpAnyH P md l.toArray (NoPanic Q) S (fuel+1) listed a w :=
 wpAnyH_take (by simpa using hi) hs hf hr (fun _ _ _ h=>h) hy hS h
theorem tk (i:Nat) {oi:Oper} {v:Value} (hi:l[i]?=some oi) (hy:YieldsIf P l.toArray S oi v a) (hS:S w) (h:wpAnyH P md l.toArray (NoPanic Q) S fuel (listed.setIfInBounds i true) (a.put oi.dst v) w)
 (hs:Region.noSelect l.toArray=true:=by kernel_rfl) (hf:Region.free md l.toArray listed i=true:=by kernel_rfl) (hr:(Region.ready md l.toArray listed).contains i=true:=by kernel_rfl):wpAnyH P md l.toArray (NoPanic Q) S (fuel+1) listed a w:=ZdA hi hs hf hr hy hS h
theorem tq (i:Nat) {oi:Oper} {v:Value} {a':Act} (hi:l[i]?=some oi) (hS:S w) (h:wpAnyH P md l.toArray (NoPanic Q) S fuel (listed.setIfInBounds i true) a' w)
 (hy:∀ w,S w→(execOp a.eval oi).run P w=.ok (.value v) w:=by (intro _ _; go_simp; with_reducible rfl)) (ha:a.put oi.dst v=a':=by (simp only [Act.put,zA,zB,zC]<;>rfl))
 (hw:Region.wanted oi (yielded l.toArray a.tmps)=true:=by rfl) (hs:Region.noSelect l.toArray=true:=by kernel_rfl) (hf:Region.free md l.toArray listed i=true:=by kernel_rfl) (hr:(Region.ready md l.toArray listed).contains i=true:=by kernel_rfl):wpAnyH P md l.toArray (NoPanic Q) S (fuel+1) listed a w:=ZdA hi hs hf hr (.inl ⟨hw,hy⟩) hS (ha ▸ h)
theorem tJz (i:Nat) {oi:Oper} {v:Value} {a':Act} (hi:l[i]?=some oi) (hy:YieldsIf P l.toArray S oi v a) (hS:S w) (h:wpAnyH P md l.toArray (NoPanic Q) S fuel (listed.setIfInBounds i true) a' w)
 (ha:a.put oi.dst v=a':=by (simp only [Act.put,zA,zB,zC]<;>rfl)) (hs:Region.noSelect l.toArray=true:=by kernel_rfl) (hf:Region.free md l.toArray listed i=true:=by kernel_rfl) (hr:(Region.ready md l.toArray listed).contains i=true:=by kernel_rfl):wpAnyH P md l.toArray (NoPanic Q) S (fuel+1) listed a w:=ZdA hi hs hf hr hy hS (ha ▸ h)
theorem th_one {i:Nat} {oi:Oper} (hi:l[i]?=some oi) (hr:Region.ready md l.toArray listed=[i])
  (h:∀ K':Act→World→Prop,Shut (∀ a w,S w→(S w→wpAnyH P md l.toArray Q S fuel (listed.setIfInBounds i true) a w)→K' a w)→if Region.wanted oi (yielded l.toArray a.tmps)=true then Oper.wp P oi a w K' Q else K' (a.put oi.dst undef) w) :
  wpAnyH P md l.toArray Q S (fuel+1) listed a w :=
 wpAnyH_ready (rs:=[i]) hr (by simp) (AllReadyH.cons (by simpa using hi) h AllReadyH.nil)
theorem tOz (i:Nat) {oi:Oper} (hi:l[i]?=some oi) (h:∀ K':Act→World→Prop,Shut (∀ a w,S w→(S w→wpAnyH P md l.toArray Q S fuel (listed.setIfInBounds i true) a w)→K' a w)→if Region.wanted oi (yielded l.toArray a.tmps)=true then Oper.wp P oi a w K' Q else K' (a.put oi.dst undef) w)
 (hr:Region.ready md l.toArray listed=[i]:=by kernel_rfl):wpAnyH P md l.toArray Q S (fuel+1) listed a w:=th_one hi hr h
theorem tDz (h:Q .normal a w) (hr:Region.ready md l.toArray listed=[]:=by kernel_rfl):wpAnyH P md l.toArray (NoPanic Q) S fuel listed a w:=wpAnyH_done hr (NoPanic.normal h) fuel
theorem tCz (i:Nat) {oi:Oper} (hi:l[i]?=some oi) (h:∀ K':Act→World→Prop,Shut (∀ a w,S w→(S w→wpAnyH P md l.toArray Q S fuel (listed.setIfInBounds i true) a w)→K' a w)→Oper.wp P oi a w K' Q)
 (hw:Region.wanted oi (yielded l.toArray a.tmps)=true:=by rfl) (hr:Region.ready md l.toArray listed=[i]:=by kernel_rfl):wpAnyH P md l.toArray Q S (fuel+1) listed a w:=th_one hi hr (fun K hK=>by rw [if_pos hw]; exact h K hK)
theorem Zbk {i j:Nat} {oi oj:Oper} (hi:l[i]?=some oi) (hj:l[j]?=some oj) (hr:Region.ready md l.toArray listed=[i,j])
  (h:∀ K':Act→World→Prop,Shut (∀ a w,S w→(S w→wpAnyH P md l.toArray Q S fuel (listed.setIfInBounds i true) a w)→K' a w)→if Region.wanted oi (yielded l.toArray a.tmps)=true then Oper.wp P oi a w K' Q else K' (a.put oi.dst undef) w)
  (h':∀ K':Act→World→Prop,Shut (∀ a w,S w→(S w→wpAnyH P md l.toArray Q S fuel (listed.setIfInBounds j true) a w)→K' a w)→if Region.wanted oj (yielded l.toArray a.tmps)=true then Oper.wp P oj a w K' Q else K' (a.put oj.dst undef) w) :
  wpAnyH P md l.toArray Q S (fuel+1) listed a w :=
 wpAnyH_ready (rs:=[i,j]) hr (by simp) (AllReadyH.cons (by simpa using hi) h (AllReadyH.cons (by simpa using hj) h' AllReadyH.nil))
theorem y_move {v:Value} (x:Operand) (hw:Region.wanted o (yielded l.toArray a.tmps)=true) (ho:o.op=.move x) (hv:a.eval x=v):YieldsIf P l.toArray S o v a :=
 .inl ⟨hw,fun w _=>by unfold execOp; simp [ho,hv]⟩
theorem y_assign {v:Value} (x:Operand) (hw:Region.wanted o (yielded l.toArray a.tmps)=true) (ho:o.op=.assign x) (hv:a.eval x=v):YieldsIf P l.toArray S o v a :=
 .inl ⟨hw,fun w _=>by unfold execOp; simp [ho,hv]⟩
theorem Zdp (src dst e:TypeId) (x:Operand) (hw:Region.wanted o (yielded l.toArray a.tmps)=true) (ho:o.op=.convert src dst x)
  (A:Option Addr) (n c:Nat) (hx:a.eval x=.slice A n c) (B:Nat) (bs:List UInt8) (hr:∀ w,S w→Zaj w B 1 A n (bsV bs)) (hs:P.underlying src=some (.slice e)) (he:P.underlying e=some (.int .u8)) (hd:P.underlying dst=some .string) :
  YieldsIf P l.toArray S o (.string ⟨bs.toArray⟩) a :=
 .inl ⟨hw,fun w hS=>by
  unfold execOp
  simp only [ho,hx,Sem.run_bind,Sem.run_pure,Result.andThen_ok,Zb8 (c:=c) (hr w hS) src dst e hs he hd]⟩
theorem y_eqs (t u:TypeId) (x y:Operand) (s:ByteArray) (hw:Region.wanted o (yielded l.toArray a.tmps)=true) (ho:o.op=.binOp .eql t x y u) (hx:a.eval x=.string s) (hy:a.eval y=.string s):YieldsIf P l.toArray S o (.bool true) a :=
 .inl ⟨hw,fun w _=>by
  unfold execOp
  simp [ho,hx,hy,binOp_string_eql,eqGuard]⟩
theorem y_arr (t u e:TypeId) (x y:Operand) (hw:Region.wanted o (yielded l.toArray a.tmps)=true) (ho:o.op=.binOp .eql t x y u)
  (L:List UInt8) (hx:a.eval x=.agg (bsV L).toArray) (hy:a.eval y=.agg (bsV L).toArray) (hm:P.eqGuardType P.depth t=false) (n:Nat) (i:TypeInfo) (hL:L.length=n) (ht:P.underlying t=some (.array n e)) (hi:P.info? e=some i) (hc:P.cellsOf e=1) (he:P.underlying e=some (.int .u8)) (hpl:P.plainKey e=true) :
  YieldsIf P l.toArray S o (.bool true) a :=
 .inl ⟨hw,fun w _=>by
  unfold execOp
  simp only [ho,hx,hy,Sem.run_bind,Sem.run_pure,Result.andThen_ok,run_eqGuard_agg w .eql t x y _ _ hm,Ze3 w L hL ht hi hc he hpl]⟩
theorem y_pick {v:Value} (c x y:Operand) (b:Bool) (hw:Region.wanted o (yielded l.toArray a.tmps)=true) (ho:o.op=.pick c x y) (hc:a.eval c=.bool b) (hv:(if b=true then a.eval x else a.eval y)=v):YieldsIf P l.toArray S o v a :=
 .inl ⟨hw,fun w _=>by
  unfold execOp
  cases b<;>simp_all [asBool]⟩
end
end Go.Proofs.YtfbkkmnkpjgciaaGreat
