/- Joined of SDel SExpire SAcct. No condition. -/
import Derived.Test.YtfbkkmnkpjgciaaGreatPG09
namespace Go.Proofs.YtfbkkmnkpjgciaaGreat
open Go.RowKit
theorem ZeG:(Tryz.prog.info? 50).map (fun i=>(i.zero,i.size,i.bytes))=some (some (.agg Za7.cs.toArray),26,88):=by kernel_rfl
theorem ZcU:(Value.agg Za7.cs.toArray).cells.size=26:=Sess.size zSess_ok
theorem run_slice_s0 (w:World):(Instr.buildSlice 26 0 #[]).run Tryz.prog w=.ok (.slice (some ⟨w.heap.size,0,none⟩) 0 0) (w.alloc (.cells #[] 50)):=by kernel_rfl
set_option maxRecDepth 100000 in
theorem clone_s (w:World) (A:Option Addr) (n c:Nat) (L:List Sess) (h:ZaA w w.heap.size A n L) (hn:n≤1000) :
  Calls Tryz.prog 54 #[.slice A n c] w fun e w'=>∃ v,e=.returned v∧w'.ownsRow w.heap.size 50 26 v n (Zat L)∧Below w.heap.size w w':=by
 obtain ⟨i0,hi,hz0,hz1,hz2⟩:=info_parts ZeG
 have q22:∀ (w:World) (a:Option Addr) (n c n' c':Nat),(binOp .eql 26 (.slice a n c) (.slice none n' c')).run Tryz.prog w=.ok (.bool a.isNone) w:=fun w a n c n' c'=>Lib.run_eql_slice_nil w _ _ a n c n' c' Tryz.underlying26
 cases A with
 |none =>
  have hn0:n=0:=by
   rcases Nat.eq_zero_or_pos n with h0 | h0
   · exact h0
   ·obtain ⟨ad,e,_⟩:=h.reads.2 h0
    cases e
  subst hn0
  have hl:Zat L=[]:=List.eq_nil_of_length_eq_zero (by have:=h.reads.1; omega)
  have HL:=jd hl
  clear hl h hn
  go_enter Tryz.func54,Tryz.ntmps54
  go_wp2_with fail
  go_ret
  exact ⟨_,rfl,by rw [uh HL]; exact World.ownsRow_nil _ _ _ _,Below.refl _ _⟩
 |some ad =>
  have HR:=jd ((h.reads.alloc (Nat.le_refl _) (.cells #[] 50)).more (ZdD w (.cells #[] 50)))
  have HO:Hid ((w.alloc (.cells #[] 50)).ownsRow w.heap.size 50 26 (.slice (some ⟨w.heap.size,0,none⟩) 0 0) 0 []):=jd (World.ownsRow_made w #[] 0 (Nat.le_refl _) (Nat.zero_le _) (by simp))
  clear h
  go_enter Tryz.func54,Tryz.ntmps54
  go_wp2_with (first
   |(at_builtin; refine ZaM (w.alloc (.cells #[] 50)) rfl (.tmp 5) (.tmp 6) 26 rfl w.heap.size 50 i0 (.agg Za7.cs.toArray) 26 88 Tryz.underlying26 hi hz0 hz1 hz2 ZcU (by omega) _ 0 [] rfl (uh HO) _ (some ad) n c (Zat L) rfl (uh HR) (Zdt L) (by unfold maxLen; omega) (by omega) (ZdD _ _) ?_
     intro v8 w8 ho8 hb8 _
     have HO8:=jd ho8
     have HB8:=jd hb8
     clear ho8 hb8)
   | fail)
  go_ret
  exact ⟨_,rfl,by have:=uh HO8; rwa [Nat.zero_add,List.nil_append] at this,((Below.refl _ _).alloc (Nat.le_refl _) _).grown (uh HB8) (ZdD _ _) (fun j e=>by have e1:some w.heap.size=some j:=e; injection e1 with e1; omega)⟩
theorem findG_spec (p:Sess→Bool):∀ (L:List Sess) (k:Nat),(Zbl p L k=-1∧∀ x∈L,p x=false)∨∃ i x,Zbl p L k=((k+i:Nat):Int)∧L[i]?=some x∧p x=true∧∀ y∈L.take i,p y=false
 | [],_=>.inl ⟨rfl,fun x hx=>by cases hx⟩
 |y::r,k=>by
  cases h:p y with
  | true=>exact .inr ⟨0,y,by simp [Zbl,h],rfl,h,fun z hz=>by simp at hz⟩
  |false =>
   rcases findG_spec p r (k+1) with ⟨e,ha⟩ | ⟨i,x,e,hx,hp,ha⟩
   ·refine .inl ⟨by simp [Zbl,h,e],fun x hx=>?_⟩
    rcases List.mem_cons.1 hx with rfl | hx
    · exact h
    · exact ha x hx
   ·refine .inr ⟨i+1,x,by simp only [Zbl,h]; rw [if_neg (by simp),e]; congr 1; omega,by simpa using hx,hp,fun z hz=>?_⟩
    rw [List.take_succ_cons] at hz
    rcases List.mem_cons.1 hz with rfl | hz
    · exact h
    · exact ha z hz
def ZbU (p:Sess→Bool) (L:List Sess):List Sess:=L.filter fun x=>!p x
theorem keepL_all {p:Sess→Bool} {L:List Sess} (h:∀ x∈L,p x=false):ZbU p L=L:=List.filter_eq_self.2 fun x hx=>by rw [h x hx]; rfl
theorem keepL_ok {p:Sess→Bool} {L:List Sess} (h:ZaE L):ZaE (ZbU p L):=fun x hx=>h x (List.mem_filter.1 hx).1
theorem keepL_le (p:Sess→Bool) (L:List Sess):(ZbU p L).length≤L.length:=List.length_filter_le _ _
structure Zdl (p:Sess→Bool) (L M:List Sess) (i j:Nat):Prop where
 len:M.length=L.length
 ok:ZaE M
 lt:i < j
 low:M.take i=ZbU p (L.take j)
 high:M.drop j=L.drop j
theorem Zcu {α : Type} {L:List α} {j:Nat} {x:α} (h:L[j]?=some x):L.take (j+1)=L.take j++[x]:=by rw [List.take_add_one,h]; rfl
theorem Zdl.start {p:Sess→Bool} {L:List Sess} {i:Nat} {x:Sess} (hok:ZaE L) (hx:L[i]?=some x) (hp:p x=true) (h:∀ y∈L.take i,p y=false):Zdl p L L i (i+1) :=
 ⟨rfl,hok,by omega,by rw [Zcu hx,ZbU,List.filter_append]; simp [hp]; exact (keepL_all h).symm,rfl⟩
theorem Zdl.get {p:Sess→Bool} {L M:List Sess} {i j:Nat} (h:Zdl p L M i j):M[j]?=L[j]?:=by
 have:=congrArg (fun l:List Sess=>l[0]?) h.high
 simpa using this
theorem ZeH {α : Type} {L M:List α} {j:Nat} (h:M.drop j=L.drop j):M.drop (j+1)=L.drop (j+1):=by
 rw [← List.drop_drop,← List.drop_drop,h]
theorem Zdl.skip {p:Sess→Bool} {L M:List Sess} {i j:Nat} {x:Sess} (h:Zdl p L M i j) (hx:L[j]?=some x) (hp:p x=true):Zdl p L M i (j+1) :=
 ⟨h.len,h.ok,by have:=h.lt; omega,by rw [Zcu hx,ZbU,List.filter_append,h.low]; simp [ZbU,hp],ZeH h.high⟩
theorem Zdl.keep {p:Sess→Bool} {L M:List Sess} {i j:Nat} {x:Sess} (h:Zdl p L M i j) (hx:L[j]?=some x) (hxo:x.Ok) (hp:p x=false):Zdl p L (M.set i x) (i+1) (j+1):=by
 have hj:=(List.getElem?_eq_some_iff.1 hx).1
 have hl:=h.len
 have hlt:=h.lt
 refine ⟨by simp [hl],fun y hy=>?_,by omega,?_,?_⟩
 ·rcases List.mem_or_eq_of_mem_set hy with hy | rfl
  · exact h.ok y hy
  · exact hxo
 ·rw [Zcu (x:=x) (by rw [List.getElem?_set_self (by omega)]),Zcu hx,ZbU,List.filter_append]
  have e1:(M.set i x).take i=M.take i:=by rw [List.take_set]; exact List.set_eq_of_length_le (by simp; omega)
  rw [e1,h.low]
  simp [ZbU,hp]
 ·rw [List.drop_set,if_pos (by omega)]
  exact ZeH h.high
structure RowM (w:World) (g cap:Nat) (M:List Sess) (cur:Array Value):Prop where
 blk:Blk w g 50 cur
 size:cur.size=cap*26
 le:M.length≤cap
 cap:cap≤maxLen
 take:cur.toList.take (M.length*26)=Zat M
theorem RowM.below {w w':World} {g cap:Nat} {M:List Sess} {cur:Array Value} (h:RowM w g cap M cur) (hb:Below w.heap.size w w'):RowM w' g cap M cur:=⟨h.blk.below hb h.blk.lt,h.size,h.le,h.cap,h.take⟩
theorem RowM.alloc {w:World} {g cap:Nat} {M:List Sess} {cur:Array Value} (h:RowM w g cap M cur) (o:Obj):RowM (w.alloc o) g cap M cur:=⟨h.blk.alloc o,h.size,h.le,h.cap,h.take⟩
theorem RowM.grown {w w':World} {g g' cap:Nat} {M:List Sess} {cur:Array Value} (h:RowM w g cap M cur) (hg:w.grownBy w' (some g')) (hne:g≠g'):RowM w' g cap M cur:=⟨h.blk.grown hg (fun e=>hne (by injection e)),h.size,h.le,h.cap,h.take⟩
theorem RowM.own {w:World} {g cap base:Nat} {M:List Sess} {cur:Array Value} (h:RowM w g cap M cur) (hok:ZaE M) (hb:base≤g) (i:Nat) (hi:i≤M.length):w.ownsRow base 50 26 (.slice (some ⟨g,0,none⟩) i cap) i (Zat (M.take i)):=by
 have hok':ZaE (M.take i):=fun x hx=>hok x (List.mem_of_mem_take hx)
 refine ⟨by rw [ZbT hok']; simp; omega,.inr ⟨g,cap,cur,rfl,hb,h.blk,by have:=h.le; omega,h.cap,h.size,?_⟩⟩
 have e1:cur.toList.take (i*26)=(cur.toList.take (M.length*26)).take (i*26):=by rw [List.take_take]; congr 1; omega
 rw [e1,h.take]
 have e3:Zat M=Zat (M.take i)++Zat (M.drop i):=by
  unfold Zat
  rw [← List.flatMap_append,List.take_append_drop]
 rw [e3]
 exact List.take_left' (by rw [ZbT hok']; simp; omega)
theorem RowM.of_own {w:World} {base n:Nat} {v:Value} {L:List Sess} (h:w.ownsRow base 50 26 v n (Zat L)) (hok:ZaE L) (hn:0 < n) :∃g cap cur,v=.slice (some ⟨g,0,none⟩) n cap∧base≤g∧RowM w g cap L cur∧L.length=n:=by
 have hl:L.length=n:=by have:=h.1; rw [ZbT hok] at this; omega
 rcases h.2 with ⟨_,rfl⟩ | ⟨g,cap,cur,h1,h2,h3,h4,h5,h6,h7⟩
 · omega
 · exact ⟨g,cap,cur,h1,h2,⟨h3,h6,by omega,h5,by rw [hl]; exact h7⟩,hl⟩
theorem RowM.range {w:World} {g cap j:Nat} {M:List Sess} {cur:Array Value} {x:Sess} (h:RowM w g cap M cur) (hok:ZaE M) (hx:M[j]?=some x):w.rangeAt g (j*26) x.cs:=by
 intro k v hv
 have hj:=(List.getElem?_eq_some_iff.1 hx).1
 have hk:=(List.getElem?_eq_some_iff.1 hv).1
 rw [Sess.len (hok x (List.mem_of_getElem? hx))] at hk
 have h1:=Ze5 hok j x hx k v hv
 rw [h.blk.cell,← h1,← h.take,List.getElem?_take_of_lt (by omega)]
 simp
theorem flatS_set {M:List Sess} (hok:ZaE M):∀ (i:Nat) (x:Sess),i < M.length→Zat (M.set i x)=(Zat M).take (i*26)++x.cs++(Zat M).drop (i*26+26):=by
 induction M with
 | nil=>intro i x h; simp at h
 |cons y M ih =>
  obtain ⟨h1,h2⟩:=hok.cons
  have hy:=Sess.len h1
  intro i x hi
  cases i with
  |zero =>
   simp only [List.set_cons_zero,Zat,List.flatMap_cons,Nat.zero_mul,List.take_zero,List.nil_append,Nat.zero_add]
   rw [List.drop_left' hy]
  |succ i =>
   have:=ih h2 i x (by simpa using hi)
   simp only [List.set_cons_succ]
   unfold Zat at this ⊢
   rw [List.flatMap_cons,List.flatMap_cons,this,show (i+1)*26=y.cs.length+i*26 by omega,List.take_length_add_append,
    show y.cs.length+i*26+26=y.cs.length+(i*26+26) by omega,List.drop_length_add_append]
   simp
theorem RowM.set_ {w w':World} {g cap i:Nat} {M:List Sess} {cur:Array Value} {x:Sess} (h:RowM w g cap M cur) (hok:ZaE M) (hx:x.Ok) (hi:i < M.length)
  (hb:Blk w' g 50 (cur.toList.take (i*26)++x.cs++cur.toList.drop (i*26+x.cs.length)).toArray):RowM w' g cap (M.set i x) (cur.toList.take (i*26)++x.cs++cur.toList.drop (i*26+x.cs.length)).toArray:=by
 have hxl:=Sess.len hx
 have hle:=h.le
 have hsz:=h.size
 have hcu:cur.toList.length=cap*26:=by rw [Array.length_toList]; exact hsz
 rw [hxl] at hb ⊢
 refine ⟨hb,?_,by simpa using hle,h.cap,?_⟩
 ·rw [List.size_toArray,List.length_append,List.length_append,List.length_take,List.length_drop,hxl,hcu]
  omega
 ·rw [List.length_set,flatS_set hok i x hi,← h.take]
  simp only [List.take_take]
  have e0:cur.toList=cur.toList.take (M.length*26)++cur.toList.drop (M.length*26):=(List.take_append_drop _ _).symm
  have hcl:(cur.toList.take (M.length*26)).length=M.length*26:=by rw [List.length_take,hcu]; omega
  rw [Nat.min_eq_left (by omega:i*26≤M.length*26)]
  have e1:cur.toList.drop (i*26+26)=(cur.toList.take (M.length*26)).drop (i*26+26)++cur.toList.drop (M.length*26):=by
   conv=>lhs; rw [e0]
   rw [List.drop_append_of_le_length (by rw [hcl]; omega)]
  rw [e1,← List.append_assoc]
  exact List.take_left' (by rw [List.length_append,List.length_append,List.length_take,List.length_drop,hxl,hcl]; omega)
theorem zeroCells_spec (z:Array Value) (n:Nat) (h1:∀ v∈z,v.oneCell'=true):(Builtin.zeroCells z n).toList.length=n*z.size∧∀ v∈(Builtin.zeroCells z n).toList,v.oneCell'=true:=by
 refine ⟨by simp [Builtin.zeroCells],fun v hv=>?_⟩
 simp only [Builtin.zeroCells,Array.toList_map,List.mem_map,Array.mem_toList_iff,Array.mem_range] at hv
 obtain ⟨i,hi,rfl⟩:=hv
 have hz:0 < z.size:=by
  rcases Nat.eq_zero_or_pos z.size with h0 | h0
  · rw [h0] at hi; omega
  · exact h0
 have hm:i % z.size < z.size:=Nat.mod_lt _ hz
 rw [getElem!_pos z _ hm]
 exact h1 _ (Array.getElem_mem hm)
section
variable {P:Program} {ops:Array Oper} {rest:List Oper} {o:Oper} {a:Act} {w:World} {Q:Exit→Act→World→Prop}
theorem Zdi (hgd:o.guard=none) (x:Operand) (t:TypeId) (ho:o.op=.call { callee:=.builtin .clear,args:=#[x],argTypes:=#[t] }) (e:TypeId) (z:Value) (ht:P.underlying t=some (.slice e)) (hz:∀ w,(zeroValue e).run P w=.ok z w)
  (hz1:∀ v∈z.cells,v.oneCell'=true) (g off n c:Nat) (T:TypeId) (cur:Array Value) (hn:0 < n) (hx:a.eval x=.slice (some ⟨g,off,none⟩) n c) (hb:Blk w g T cur) (hfit:off+n*z.cells.size≤cur.size)
  (hk:∀ w' vs,vs.length=n*z.cells.size→Blk w' g T (cur.toList.take off++vs++cur.toList.drop (off+n*z.cells.size)).toArray→w.grownBy w' (some g)→wpList P ops Q rest (a.put o.dst (.tuple #[])) w'):wpList P ops Q (o::rest) a w:=by
 refine wpList_plain hgd fun _ hK=>?_
 obtain ⟨hzl,hzo⟩:=zeroCells_spec z.cells n hz1
 have hst:=Zbs (P:=P) g off T (0,0) (Builtin.zeroCells z.cells n).toList 0 cur w hb (fun j _ hh=>by omega) (by omega) hzo
 simp only [Nat.add_zero] at hst
 have hr:(Builtin.clear_ #[t] o.type #[.slice (some ⟨g,off,none⟩) n c]).run P w=.ok (.tuple #[]) (w.setRow g (cur.toList.take off++(Builtin.zeroCells z.cells n).toList++cur.toList.drop (off+(Builtin.zeroCells z.cells n).toList.length)).toArray):=by
  obtain ⟨m,rfl⟩ :∃m,n=m+1:=⟨n - 1,by omega⟩
  simp [Builtin.clear_,run_underlying ht,hz,hst]
 have hw:o.wp P a w (fun a' w'=>a'=a.put o.dst (.tuple #[])∧w'=w.setRow g (cur.toList.take off++(Builtin.zeroCells z.cells n).toList++cur.toList.drop (off+(Builtin.zeroCells z.cells n).toList.length)).toArray) Q:=by
  unfold Oper.wp execOp
  simp only [ho,resolve,invoke,builtin,Sem.run_bind,Sem.run_pure,Result.andThen_ok,List.map_toArray,List.map_cons,List.map_nil,hx,hr]
  exact ⟨rfl,rfl⟩
 refine Oper.wp_mono (fun a' w' h=>?_) hw
 obtain ⟨rfl,rfl⟩:=h
 have hb2:=Zcx (cs':=(cur.toList.take off++(Builtin.zeroCells z.cells n).toList++cur.toList.drop (off+(Builtin.zeroCells z.cells n).toList.length)).toArray) hb
 rw [hzl] at hb2
 refine hK _ _ ?_
 rw [hzl]
 exact hk _ _ hzl hb2.1 hb2.2
end
theorem ZeL:Tryz.prog.underlying 26=some (.slice (Tryz.prog.elem 26)):=by kernel_rfl
theorem elem_s:Tryz.prog.elem 26=50:=by kernel_rfl
theorem size_s (W:World):(sizeOf 50).run Tryz.prog W=.ok 26 W:=by kernel_rfl
theorem sls_l (W:World) (g n c i:Nat) (hin:i≤n) (hic:i < c) :
  (Instr.sliceAt 26 (.slice (some ⟨g,0,none⟩) n c) (some (.int .i64 (i:Int))) none none).run Tryz.prog W=.ok (.slice (some ⟨g,i*26,none⟩) (n - i) (c - i)) W:=by
 rw [run_sliceAt_slice _ _ _ _ _ _ ZeL,run_slice_l W _ _ _ _ ZeL .i64 _ (by omega) (by omega),elem_s,size_s]
 have hne:¬ c=i:=by omega
 simp [Result.andThen,sliced,hne,ZbM]
theorem sls_h (W:World) (g n c j:Nat) (hjc:j≤c) :
  (Instr.sliceAt 26 (.slice (some ⟨g,0,none⟩) n c) none (some (.int .i64 (j:Int))) none).run Tryz.prog W=.ok (.slice (some ⟨g,0,none⟩) j c) W:=by
 rw [run_sliceAt_slice _ _ _ _ _ _ ZeL,run_slice_h W _ _ _ _ ZeL .i64 _ (by omega) (by omega),elem_s,size_s]
 simp [Result.andThen,sliced,ZbM]
theorem zero_s (w:World):(zeroValue 50).run Tryz.prog w=.ok (.agg Za7.cs.toArray) w:=by kernel_rfl
theorem zs_one:∀ v∈(Value.agg Za7.cs.toArray).cells,v.oneCell'=true:=fun v hv=>Sess.one v (by simpa [Value.cells] using hv)
theorem Zc1 {a w w':World} {g:Nat} {r:Option Nat} (h:a.grownBy w (some g)) (h2:w.grownBy w' r) (hr:∀ j,r=some j→j=g∨a.heap.size≤j):a.grownBy w' (some g) :=
 ⟨h2.os.trans h.os,h2.tape.trans h.tape,h2.output.trans h.output,Nat.le_trans h.size h2.size,fun i hi hne=>(h2.block i (Nat.lt_of_lt_of_le hi h.size) (fun e=>by
  rcases hr i e.symm with e1 | e1
  · exact hne (by rw [e1])
  · omega)).trans (h.block i hi hne)⟩
set_option maxRecDepth 100000 in
set_option maxHeartbeats 8000000 in
theorem delfunc_sx (w:World) (base:Nat) (v0:Value) (n:Nat) (L:List Sess) (hown:w.ownsRow base 50 26 v0 n (Zat L)) (hok:ZaE L) (hn:n≤1000) (b:Nat) (now:Int) (hn0:0≤now) (hn1:now≤17179869184) (hbb:b < base) (hbase:base≤w.heap.size) (hc:w.cell? ⟨b,0,none⟩=some (.int .i64 now)) :
  Calls Tryz.prog 55 #[v0,.func (.func 56) #[] #[.pointer (some ⟨b,0,none⟩)]] w
   fun e w'=>∃ v,e=.returned v∧w'.ownsRow base 50 26 v (ZbU (oldP now) L).length (Zat (ZbU (oldP now) L))∧w.grownBy w' v0.ownBlock:=by
 obtain ⟨A0,c0,hv0,hnc0,hcm0⟩:=Zac hown
 have hsl:ZaA w w.heap.size A0 n L:=ZaA.of_own (hv0 ▸ hown) hok
 have hlen:=hsl.len
 have HCon:=jd (idxold_sx w A0 n c0 L hsl (Nat.le_trans hnc0 hcm0) b now hn0 hn1 (by omega) hc)
 rcases findG_spec (oldP now) L 0 with ⟨e1,hall⟩ | ⟨i0,x0,e1,hx0,hp0,hbef⟩
 ·have ek:=keepL_all hall
  rw [ek,hlen]
  rw [e1] at HCon
  have HO:=jd hown
  clear hown hok hsl hall e1 ek hc
  subst hv0
  go_enter Tryz.func55,Tryz.ntmps55
  go_wp2_with fail
  refine (uh HCon).mono ?_
  rintro e w1 ⟨rfl,hb1⟩
  have O1:=jd (Zam (uh HO) hb1)
  have B1:=jd (Zah hb1 (Value.slice A0 n c0).ownBlock)
  clear hb1
  go_wp2_with fail
  go_ret
  exact ⟨_,rfl,uh O1,uh B1⟩
 ·rw [Nat.zero_add] at e1
  rw [e1] at HCon
  have hi0:=(List.getElem?_eq_some_iff.1 hx0).1
  obtain ⟨g,cap,cur0,hv1,hgb,hrow,_⟩:=RowM.of_own hown hok (by omega)
  have hinv:=Zdl.start hok hx0 hp0 hbef
  have HINV:=jd hinv
  have HROW:=jd hrow
  have HC:=jd hc
  have HOK:=jd hok
  have HLEN:=jd hlen
  have hm1:((i0:Int)==-1)=false:=beq_eq_false_iff_ne.2 (by omega)
  have hglt:=hrow.blk.lt
  have hbw0:b < w.heap.size:=by omega
  rw [hv1] at hv0
  injection hv0 with hv0a _ hv0c
  subst hv1
  subst hv0a hv0c
  clear hown hok hsl hbef hx0 hp0 hinv hrow hc hlen e1
  go_enter Tryz.func55,Tryz.ntmps55
  go_wp2_with fail
  refine (uh HCon).mono ?_
  rintro e w1 ⟨rfl,hb1⟩
  have R1:=jd ((uh HROW).below hb1)
  have B1:=jd (Zah hb1 (some g))
  have hs1:w.heap.size≤w1.heap.size:=hb1.size
  clear hb1 HCon
  go_wp2_with fail
  go_loopw [5,6] (fun s5 s6 wr=>∃ (i j:Nat) (M:List Sess) (cur:Array Value),s5=.int .i64 i∧s6=.int .i64 j∧j≤n∧i < j∧Hid (Zdl (oldP now) L M i j)∧Hid (RowM wr g cap M cur)∧Hid (w.grownBy wr (some g))) (fun _ s6 _=>n - (intOf s6).toNat)
  case atStart=>exact ⟨i0,i0+1,L,cur0,rfl,by go_num,by have:=uh HLEN; omega,by omega,HINV,R1,B1⟩
  case round =>
   obtain ⟨i,j,M,cur,rfl,rfl,hjn,hij,INV,ROW,BEL⟩:=hrel
   have hml:M.length=n:=(uh INV).len.trans (uh HLEN)
   have HML:=jd hml
   clear hml
   by_cases hlt:j < n
   ·obtain ⟨x,hx⟩ :∃x,L[j]?=some x:=⟨L[j]'(by have:=uh HLEN; omega),List.getElem?_eq_getElem _⟩
    have hxm:M[j]?=some x:=(uh INV).get.trans hx
    have hxo:x.Ok:=(uh HOK) x (List.mem_of_getElem? hx)
    have HX:=jd hx
    have HXO:=jd hxo
    have HRG:=jd ((uh ROW).range (uh INV).ok hxm)
    have hgw:=(uh ROW).blk.lt
    have hwb:=(uh BEL).size
    have HN:=jd (Blk.new wr 50 Za7.cs.toArray)
    have HRn:=jd ((uh ROW).alloc (.cells Za7.cs.toArray 50))
    have HBn:=jd (only_alloc (uh BEL) (.cells Za7.cs.toArray 50))
    have hlt2:(j:Int) < (n:Int):=by omega
    clear hx hxm hxo
    go_wp2_with (first
     | (refine wpList_load_mid rfl 50 (.tmp 24) rfl g (j*26) rfl _ _ (uh HRG) Tryz.underlying50 rfl (Zbf (uh HXO)) ?_)
     | (refine Zag rfl 50 rfl _ wr.heap.size rfl (ZbL _) ?_)
     |(refine Zaa rfl 50 (.tmp 7) (.tmp 25) rfl wr.heap.size 50 _ x.cs.toArray rfl rfl (uh HN) (Sess.size_eq (uh HXO)) (Zbb (uh HXO)) (fun v hv=>Sess.one v (by simpa using hv)) ?_
       intro w5 hb5 hg5
       have X5:=jd hb5
       have R5:=jd ((uh HRn).grown hg5 (by omega))
       have B5:=jd (Zc1 (uh HBn) hg5 (fun j e=>by injection e with e; omega))
       clear hb5 hg5)
     | (refine wpList_load_row rfl 50 _ rfl wr.heap.size rfl 50 _ _ _ (uh X5) Tryz.underlying50 rfl (Zbb (uh HXO)) ?_)
     | fail)
    have hcb:w5.cell? ⟨b,0,none⟩=some (.int .i64 now):=(World.cell?_of_block ((uh B5).block b hbw0 (fun e=>by injection e with e; omega))).trans (uh HC)
    have hb5:b < w5.heap.size:=by have:=(uh B5).size; omega
    refine (expire1_sx w5 x (uh HXO) b now hn0 hn1 hb5 hcb).mono ?_
    clear hcb hb5
    obtain ⟨t,ht⟩ :∃t,oldP now x=t:=⟨_,rfl⟩
    rw [ht]
    have HT:=jd ht
    clear ht
    rintro e w6 ⟨rfl,hb6⟩
    have X6:=jd ((uh X5).below hb6 (uh X5).lt)
    have R6:=jd ((uh R5).below hb6)
    have B6:=jd (Zc1 (uh B5) (Zah hb6 none) (fun j e=>by cases e))
    clear hb6
    cases t with
    |true =>
     go_wp2_with fail
     go_roundw
     case rel=>exact ⟨i,j+1,M,cur,rfl,by go_num,by omega,by omega,jd ((uh INV).skip (uh HX) (uh HT)),R6,B6⟩
     case measure=>simp [intOf]; omega
    |false =>
     have hli:i < M.length:=by have:=uh HML; omega
     have hin:(i:Int) < (n:Int):=by omega
     have hfit:i*26+x.cs.length≤cur.size:=by rw [Sess.len (uh HXO),(uh R6).size]; have:=(uh R6).le; omega
     go_wp2_with (first
      | (refine wpList_load_row rfl 50 _ rfl wr.heap.size rfl 50 _ _ _ (uh X6) Tryz.underlying50 rfl (Zbb (uh HXO)) ?_)
      | (refine Zal rfl 50 (.tmp 33) (.tmp 32) rfl g (i*26) 50 _ (.agg x.cs.toArray) x.cs _ rfl rfl (uh R6).blk rfl hfit (Zbf (uh HXO)) Sess.one rfl ?_
         intro w7 hb7 hg7
         have R7:=jd ((uh R6).set_ (uh INV).ok (uh HXO) hli hb7)
         have B7:=jd (Zc1 (uh B6) hg7 (fun j e=>by injection e with e; omega))
         clear hb7 hg7)
      | fail)
     go_roundw
     case rel=>exact ⟨i+1,j+1,M.set i x,_,by go_num,by go_num,by omega,by omega,jd ((uh INV).keep (uh HX) (uh HXO) (uh HT)),R7,B7⟩
     case measure=>simp [intOf]; omega
   ·obtain rfl:j=n:=by omega
    have hcapj:j≤cap:=by have:=(uh ROW).le; have:=uh HML; omega
    have hfit:i*26+(j - i)*(Value.agg Za7.cs.toArray).cells.size≤cur.size:=by rw [ZcU,(uh ROW).size]; omega
    have HSA:=jd (fun W=>sls_l W g j cap i (by omega) (by omega))
    have HSB:=jd (fun W=>sls_h W g j cap i (by omega))
    have SA:=uh HSA
    have SB:=uh HSB
    have hgw:=(uh ROW).blk.lt
    go_wp2_with (first
     |(refine Zdi rfl (.tmp 38) 26 rfl 50 (.agg Za7.cs.toArray) Tryz.underlying26 zero_s zs_one g (i*26) (j - i) (cap - i) 50 cur (by omega) rfl (uh ROW).blk hfit ?_
       intro w7 vs hvs hb7 hg7
       have Z7:=jd hb7
       have VS:=jd hvs
       have B7:=jd (Zc1 (uh BEL) hg7 (fun j e=>by injection e with e; omega))
       clear hb7 hg7 hvs)
     | fail)
    go_ret
    have hi:=uh INV
    have hr:=uh ROW
    have hLl:=uh HLEN
    have hMl:=uh HML
    have ekl:ZbU (oldP now) L=M.take i:=by rw [hi.low,List.take_of_length_le (by omega)]
    have ekn:(ZbU (oldP now) L).length=i:=by rw [ekl,List.length_take]; omega
    refine ⟨_,rfl,?_,uh B7⟩
    have hz:=uh Z7
    have hv:=uh VS
    rw [ZcU] at hz hv
    have hcurl:cur.toList.length=cap*26:=by rw [Array.length_toList]; exact hr.size
    have hokt:ZaE (M.take i):=fun y hy=>hi.ok y (List.mem_of_mem_take hy)
    have h0:=hr.own hi.ok hgb i (by omega)
    rw [ekn,ekl]
    refine ⟨h0.1,.inr ⟨g,cap,_,rfl,hgb,hz,by omega,hr.cap,?_,?_⟩⟩
    ·rw [List.size_toArray,List.length_append,List.length_append,List.length_take,List.length_drop,hv,hcurl]
     omega
    ·rcases h0.2 with ⟨h,_⟩ | ⟨g',cap',cur',h1,_,h3,_,_,_,h7⟩
     · cases h
     ·injection h1 with h1 _ _
      injection h1 with h1
      injection h1 with h1 _ _
      subst h1
      have:cur'=cur:=by
        have hb:=hr.blk
        unfold Blk at hb
        rw [h3] at hb
        injection hb with hb
        injection hb with hb
      subst this
      rw [← h7]
      simp only [List.append_assoc]
      exact List.take_left' (by rw [List.length_take,hcurl]; omega)
def ZcR (now:Int):Bool:=decide (0≤now∧now≤17179869184)
def expF (L:List Sess) (nx:Nat) (now:Int):List Sess:=if (ZaS L nx && ZcR now)=true then ZbU (oldP now) L else L
theorem ZcP {L:List Sess} {nx:Nat} {now:Int} (h:ZaE L):ZaE (expF L nx now):=by
 unfold expF; split
 · exact keepL_ok h
 · exact h
theorem Zd2 (L:List Sess) (nx:Nat) (now:Int):(expF L nx now).length≤L.length:=by
 unfold expF; split
 · exact keepL_le _ _
 · exact Nat.le_refl _
theorem bld_sl (w:World) (A:Option Addr) (n c:Nat) (x:Int):(Instr.build 29 #[(0,.slice A n c),(1,.int .u32 x)]).run Tryz.prog w=.ok (.agg #[.slice A n c,.int .u32 x]) w:=by kernel_rfl
def ExpR (B n:Nat) (L:List Sess) (nx:Nat):Nat→Value→World→Prop
 | 2,v,w=>w.ownsRow B 50 26 v n (Zat L)
 | 5,v,w=>∃ d,v=.agg #[d,.int .u32 (nx:Int)]∧w.ownsRow B 50 26 d n (Zat L)
 | 6,v,w=>∃ g,v=.pointer (some ⟨g,0,none⟩)∧Blk w g 29 #[.slice none 0 0,.int .u32 0]∧B≤g
 | _,_,_=>True
theorem ExpR.keep {B n:Nat} {L:List Sess} {nx:Nat}:∀ (k:Nat) (v:Value) (w w':World),ExpR B n L nx k v w→Below w.heap.size w w'→ExpR B n L nx k v w':=by
 intro k v w w' h hb
 unfold ExpR at *
 split at h
 · exact Zam h hb
 ·obtain ⟨d,h1,h2⟩:=h
  exact ⟨d,h1,Zam h2 hb⟩
 ·obtain ⟨g,h1,h2,h3⟩:=h
  exact ⟨g,h1,h2.below hb h2.lt,h3⟩
 · trivial
def Zcm (w:World) (L:List Sess) (nx:Nat) (e:Ending) (w':World):Prop :=
 ∃ v,e=.returned (.agg #[v,.int .u32 (nx:Int)])∧w'.ownsRow w.heap.size 50 26 v L.length (Zat L)∧Below w.heap.size w w'
set_option maxRecDepth 100000 in
set_option maxHeartbeats 8000000 in
theorem Zea (w:World) (A:Option Addr) (n c:Nat) (L:List Sess) (nx:Nat) (h:ZaA w w.heap.size A n L) (hn:n≤1000) (hnx:nx < 4294967296) (now:Int) :
  Calls Tryz.prog 14 #[.agg #[.slice A n c,.int .u32 (nx:Int)],.int .i64 now] w (Zcm w (expF L nx now) nx):=by
 obtain ⟨W1,hW1⟩ :∃W1,((w.alloc (.cells #[.slice A n c,.int .u32 (nx:Int)] 29)).alloc (.cells #[.int .i64 now] 2)).alloc (.cells #[.slice none 0 0,.int .u32 0] 29)=W1:=⟨_,rfl⟩
 have hsz:W1.heap.size=w.heap.size+3:=by rw [← hW1,Zfn]
 have K0:Hid (Blk W1 w.heap.size 29 #[.slice A n c,.int .u32 (nx:Int)]):=jd (hW1 ▸ (((Blk.new w _ _).alloc _).alloc _))
 have K1:Hid (Blk W1 (w.heap.size+1) 2 #[.int .i64 now]):=jd (hW1 ▸ ((Blk.new' (by simp)).alloc _))
 have K2:Hid (Blk W1 (w.heap.size+2) 29 #[.slice none 0 0,.int .u32 0]):=jd (hW1 ▸ (Blk.new' (by simp)))
 have B1:Hid (Below w.heap.size w W1):=jd (hW1 ▸ (((Below.refl _ _).alloc (Nat.le_refl _) _).alloc (by rw [Zae]; omega) _).alloc (by rw [Zae,Zae]; omega) _)
 have HS:=jd ((h.below (uh B1)).more (uh B1).size)
 have HOK:=jd h.ok
 have HLEN:=jd h.len
 have HW1:=jd hW1
 have EGC':=jd (ZaO Tryz.func54 (by kernel_rfl) rfl)
 have d0:W1.cell? ⟨w.heap.size,0,none⟩=some (.slice A n c):=(uh K0).cell 0
 have d1:W1.cell? ⟨w.heap.size,1,none⟩=some (.int .u32 (nx:Int)):=(uh K0).cell 1
 have D0:=jd (fun W (hW:Below W1.heap.size W1 W)=>(hW.cell (p:=⟨w.heap.size,0,none⟩) (uh K0).lt).trans d0)
 have D1:=jd (fun W (hW:Below W1.heap.size W1 W)=>(hW.cell (p:=⟨w.heap.size,1,none⟩) (uh K0).lt).trans d1)
 clear hW1 h d0 d1
 go_enter Tryz.func14,Tryz.ntmps14
 go_upto_region 1 with fail
 rw [uh HW1]
 have hS0:Below W1.heap.size W1 W1.drew:=(Below.refl _ _).drew
 refine wp_region_noPanic (wp_region_held_drew (S:=fun wz=>Below W1.heap.size W1 wz) (by kernel_rfl) hS0 (fun _=>?_))
 refine tq 0 rfl hS0 ?_
 refine tJz (v:=.slice A n c) 1 rfl (Or.inl ⟨by rfl,fun wz hSw=>?_⟩) hS0 ?_
 ·have hq:=uh D0 wz hSw
  go_simp
 refine tq 3 rfl hS0 ?_
 refine tJz (v:=.int .u32 (nx:Int)) 4 rfl (Or.inl ⟨by rfl,fun wz hSw=>?_⟩) hS0 ?_
 ·have hq:=uh D1 wz hSw
  go_simp
 refine ZbH (ExpR W1.heap.size n L nx) W1 [2,5,6] #[true,true,true,true,true,true,true,false] [(2,some 8),(5,some 11),(6,some 5)] 27 1 (by kernel_rfl) rfl ExpR.keep (fun _ h=>h) hS0 ⟨?_,?_,?_,trivial⟩ ?_ rfl
 ·intro a wa hBa hout hin
  have e:a.eval (.tmp 7)=.slice A n c:=hout 7 (by kernel_rfl)
  refine ZaI [.slice A n c] rfl rfl rfl rfl (uh EGC') ?_ ?_
  ·show [a.eval (.tmp 7)]=_
   rw [e]
  · exact (clone_s wa A n c L (((uh HS).below hBa).more hBa.size) hn).mono fun e w' ⟨v,he,ho,hb⟩=>⟨v,he,hb,Zak ho hBa.size⟩
 ·intro a wa hBa hout hin
  have h2:wa.ownsRow W1.heap.size 50 26 (a.eval (.tmp 8)) n (Zat L):=hin 2 8 (by kernel_rfl)
  have e10:a.eval (.tmp 10)=.int .u32 (nx:Int):=hout 10 (by kernel_rfl)
  obtain ⟨A8,c8,e8,_,_⟩:=Zac h2
  rw [e8] at h2
  refine ZaF rfl rfl (v:=.agg #[.slice A8 n c8,.int .u32 (nx:Int)]) (w':=wa) ?_ ⟨Below.refl _ _,_,rfl,h2⟩
  simp [execOp,e8,e10,bld_sl]
 ·intro a wa hBa hout hin
  refine ZaF rfl rfl (v:=.pointer (some ⟨wa.heap.size,0,none⟩)) (w':=wa.alloc (.cells #[.slice none 0 0,.int .u32 0] 29)) ?_ ⟨(Below.refl _ _).alloc (Nat.le_refl _) _,wa.heap.size,rfl,Blk.new _ _ _,hBa.size⟩
  simp [execOp,ZaB]
 intro vals ww hBw hRw
 simp only [puts,Act.put,zA,zB,zC]
 obtain ⟨d,e5,ho5⟩ :∃d,vals 5=.agg #[d,.int .u32 (nx:Int)]∧ww.ownsRow W1.heap.size 50 26 d n (Zat L):=hRw 5 (by rfl)
 obtain ⟨g5,e6,hb6,hg6⟩ :∃g,vals 6=.pointer (some ⟨g,0,none⟩)∧Blk ww g 29 #[.slice none 0 0,.int .u32 0]∧W1.heap.size≤g:=hRw 6 (by rfl)
 rw [e5,e6]
 clear e5 e6 hRw
 refine tOz 7 rfl fun K hK=>?_
 refine Zaf (by rfl) 29 (.tmp 5) (.tmp 11) rfl g5 29 _ #[d,.int .u32 (nx:Int)] rfl rfl hb6 rfl (by kernel_rfl) (by obtain ⟨_,_,e,_,_⟩:=Zac ho5; subst e; intro v hv; simp at hv; rcases hv with rfl | rfl<;>rfl) ?_
 intro w2 hb2 hg2
 have hS2:Below W1.heap.size W1 w2:=hBw.grown hg2 hBw.size (fun j e=>by injection e with e; omega)
 have ho2:w2.ownsRow W1.heap.size 50 26 d n (Zat L):=World.ownsRow.kept ho5 hg2 (.inr (Zad ho5 hb6 (by decide)))
 refine hK.out _ _ hS2 (fun _=>?_)
 clear hK K
 try simp only [Act.put]
 refine tDz ?_
 have Z2:=jd hb2
 have O2:=jd ho2
 have S2:=jd hS2
 have X2:Hid (Below w.heap.size w w2):=jd ((uh B1).trans (hS2.mono (by omega)))
 have J0:=jd ((uh K0).below hS2 (uh K0).lt)
 have J1:=jd ((uh K1).below hS2 (uh K1).lt)
 have J2:=jd ((uh K2).below hS2 (uh K2).lt)
 have HS2:=jd (((uh HS).below hS2).more hS2.size)
 clear hb2 ho2 hS2 hg2 hb6 ho5 hBw hS0
 obtain ⟨A0,c0,hd,_,_⟩:=Zac (uh O2)
 subst hd
 obtain ⟨r,hr⟩ :∃r,ZaS L nx=r:=⟨_,rfl⟩
 obtain ⟨t,ht⟩ :∃t,ZcR now=t:=⟨_,rfl⟩
 have HR:=jd hr
 have HT:Hid (decide (0≤now∧now≤17179869184)=t):=jd ht
 have HE:Hid (expF L nx now=if (r && t)=true then ZbU (oldP now) L else L):=jd (by unfold expF; rw [hr,ht])
 clear hr ht
 go_wp2_with (first
  | (refine wpList_load_row rfl 29 _ rfl w.heap.size rfl 29 _ _ _ (uh J0) Tryz.underlying29 rfl (by kernel_rfl) ?_)
  | fail)
 refine (Zdb w2 A n c L nx (uh HS2) (by unfold maxLen; omega) hnx r (uh HR)).mono ?_
 rintro e w3 ⟨rfl,hb3⟩
 have Z3:=jd ((uh Z2).below hb3 (uh Z2).lt)
 have O3:=jd (Zam (uh O2) hb3)
 have X3:=jd ((uh X2).trans (hb3.mono (uh X2).size))
 have S3:=jd ((uh S2).trans (hb3.mono (uh S2).size))
 have J13:=jd ((uh J1).below hb3 (uh J1).lt)
 have J23:=jd ((uh J2).below hb3 (uh J2).lt)
 clear hb3
 have dn:w3.cell? ⟨w.heap.size+1,0,none⟩=some (.int .i64 now):=(uh J13).cell 0
 have hne:w.heap.size+2≠g5:=by omega
 cases r with
 |false =>
  have ek:expF L nx now=L:=by rw [uh HE]; simp
  go_wp2_with (first
   | (go_at_call 43; refine (Zbj _ now _ (uh HT)).mono ?_; rintro e w' ⟨rfl,rfl⟩)
   | (refine wpList_load_row rfl 29 _ rfl g5 rfl 29 _ _ _ (uh Z3) Tryz.underlying29 rfl (by kernel_rfl) ?_)
   |(refine Zaa rfl 29 (.tmp 4) (.tmp 20) rfl (w.heap.size+2) 29 _ #[.slice A0 n c0,.int .u32 (nx:Int)] rfl rfl (uh J23) rfl (by kernel_rfl) (oZz rfl rfl) ?_
     intro w9 hb9 hg9
     have Z9:=jd hb9
     have O9:=jd (World.ownsRow.kept (uh O3) hg9 (.inr (Zad (uh O3) (uh J23) (by decide))))
     have E9:=jd (gWz (uh X3) hg9)
     clear hb9 hg9)
   | fail)
  refine bodyPost_ret (v:=.agg #[.slice A0 n c0,.int .u32 (nx:Int)]) (res1 rfl _ (w.heap.size+2) 29 _ _ rfl (uh Z9) Tryz.underlying29 rfl (by kernel_rfl)) rfl ?_
  rw [ek]
  refine (show Zcm w L nx _ _ from ⟨_,rfl,?_,uh E9⟩)
  rw [uh HLEN]
  exact Zak (uh O9) (by omega)
 |true =>
  cases t with
  |false =>
   have ek:expF L nx now=L:=by rw [uh HE]; simp
   go_wp2_with (first
    | (go_at_call 43; refine (Zbj _ now _ (uh HT)).mono ?_; rintro e w' ⟨rfl,rfl⟩)
    | (refine wpList_load_row rfl 29 _ rfl g5 rfl 29 _ _ _ (uh Z3) Tryz.underlying29 rfl (by kernel_rfl) ?_)
    |(refine Zaa rfl 29 (.tmp 4) (.tmp 20) rfl (w.heap.size+2) 29 _ #[.slice A0 n c0,.int .u32 (nx:Int)] rfl rfl (uh J23) rfl (by kernel_rfl) (oZz rfl rfl) ?_
      intro w9 hb9 hg9
      have Z9:=jd hb9
      have O9:=jd (World.ownsRow.kept (uh O3) hg9 (.inr (Zad (uh O3) (uh J23) (by decide))))
      have E9:=jd (gWz (uh X3) hg9)
      clear hb9 hg9)
    | fail)
   refine bodyPost_ret (v:=.agg #[.slice A0 n c0,.int .u32 (nx:Int)]) (res1 rfl _ (w.heap.size+2) 29 _ _ rfl (uh Z9) Tryz.underlying29 rfl (by kernel_rfl)) rfl ?_
   rw [ek]
   refine (show Zcm w L nx _ _ from ⟨_,rfl,?_,uh E9⟩)
   rw [uh HLEN]
   exact Zak (uh O9) (by omega)
  |true =>
   have ek:expF L nx now=ZbU (oldP now) L:=by rw [uh HE]; simp
   have htt:=uh HT
   simp only [decide_eq_true_eq] at htt
   have DN:=jd dn
   have c0f:w3.cell? ⟨g5,0,none⟩=some (.slice A0 n c0):=(uh Z3).cell 0
   go_wp2_with (first
    | (go_at_call 43; refine (Zbj _ now _ (uh HT)).mono ?_; rintro e w' ⟨rfl,rfl⟩)
    | fail)
   refine (delfunc_sx w3 W1.heap.size (.slice A0 n c0) n L (uh O3) (uh HOK) hn (w.heap.size+1) now htt.1 htt.2 (by omega) (uh S3).size (uh DN)).mono ?_
   rintro e w4 ⟨v4,rfl,ho4,hg4⟩
   obtain ⟨A4,c4,hv4,_,_⟩:=Zac ho4
   subst hv4
   obtain ⟨m4,hm4⟩ :∃m,(ZbU (oldP now) L).length=m:=⟨_,rfl⟩
   rw [hm4] at ho4 ⊢
   have O4:=jd ho4
   have Z4:=jd ((uh Z3).grown hg4 (Zad (uh O3) (uh Z3) (by decide)).symm)
   have J24:=jd ((uh J23).grown hg4 (Zad (uh O3) (uh J23) (by decide)).symm)
   have X4:=jd ((uh X3).grown hg4 (uh X3).size (fun j e=>by have:=Zaw (uh O3) j e; omega))
   have HM4:=jd hm4
   clear dn c0f ho4 hg4 hm4
   go_wp2_with (first
    |(refine Zal rfl 26 (.tmp 25) (.tmp 24) rfl g5 0 29 _ (.slice A4 m4 c4) [.slice A4 m4 c4] [.slice A4 m4 c4,.int .u32 (nx:Int)] rfl rfl (uh Z4) rfl (by simp) (by kernel_rfl) (one1 rfl) rfl ?_
      intro w5 hb5 hg5
      have Z5:=jd hb5
      have O5:=jd (World.ownsRow.kept (uh O4) hg5 (.inr (Zad (uh O4) (uh Z4) (by decide))))
      have J25:=jd ((uh J24).gb hg5)
      have X5:=jd (gWz (uh X4) hg5)
      clear hb5 hg5)
    | (refine wpList_load_row rfl 29 _ rfl g5 rfl 29 _ _ _ (uh Z5) Tryz.underlying29 rfl (by kernel_rfl) ?_)
    |(refine Zaa rfl 29 (.tmp 4) (.tmp 26) rfl (w.heap.size+2) 29 _ #[.slice A4 m4 c4,.int .u32 (nx:Int)] rfl rfl (uh J25) rfl (by kernel_rfl) (oZz rfl rfl) ?_
      intro w9 hb9 hg9
      have Z9:=jd hb9
      have O9:=jd (World.ownsRow.kept (uh O5) hg9 (.inr (Zad (uh O5) (uh J25) (by decide))))
      have E9:=jd (gWz (uh X5) hg9)
      clear hb9 hg9)
    | fail)
   refine bodyPost_ret (v:=.agg #[.slice A4 m4 c4,.int .u32 (nx:Int)]) (res1 rfl _ (w.heap.size+2) 29 _ _ rfl (uh Z9) Tryz.underlying29 rfl (by kernel_rfl)) rfl ?_
   rw [ek]
   refine (show Zcm w (ZbU (oldP now) L) nx _ _ from ⟨_,rfl,?_,uh E9⟩)
   rw [uh HM4]
   exact Zak (uh O9) (by omega)
section
variable {α : Type} (cs:α→List Value) (m:Nat)
theorem Zd6 {L:List α} (h:∀ x∈L,(cs x).length=m):(L.flatMap cs).length=L.length*m:=by
 induction L with
 | nil=>simp
 |cons x L ih =>
  rw [List.flatMap_cons,List.length_append,h x List.mem_cons_self,ih (fun y hy=>h y (List.mem_cons_of_mem _ hy)),List.length_cons,Nat.add_mul,Nat.one_mul,Nat.add_comm]
theorem flatR_get {L:List α} (h:∀ x∈L,(cs x).length=m):∀ (k:Nat) (x:α),L[k]?=some x→∀ (j:Nat) (v:Value),(cs x)[j]?=some v→(L.flatMap cs)[k*m+j]?=some v:=by
 induction L with
 | nil=>intro k x hk; simp at hk
 |cons y L ih =>
  have h1:=h y List.mem_cons_self
  have h2:=fun z hz=>h z (List.mem_cons_of_mem y hz)
  intro k x hk j v hv
  rw [List.flatMap_cons]
  cases k with
  |zero =>
   obtain rfl:y=x:=by simpa using hk
   rw [Nat.zero_mul,Nat.zero_add,List.getElem?_append_left (List.getElem?_eq_some_iff.1 hv).1]
   exact hv
  |succ k =>
   have e:(k+1)*m+j=m+(k*m+j):=by rw [Nat.add_mul,Nat.one_mul]; omega
   rw [e,List.getElem?_append_right (by omega),h1,Nat.add_sub_cancel_left]
   exact ih h2 k x (by simpa using hk) j v hv
structure RecL (P:α→Prop) (w:World) (B:Nat) (A:Option Addr) (n:Nat) (L:List α):Prop where
 reads:Zaj w B m A n (L.flatMap cs)
 ok:∀ x∈L,P x
 lens:∀ x∈L,(cs x).length=m
variable {cs} {m} {P:α→Prop} {w w':World} {B B' n:Nat} {A:Option Addr} {L:List α}
theorem RecL.len (h:RecL cs m P w B A n L) (hm:0 < m):L.length=n:=by
 have h1:=h.reads.1
 rw [Zd6 cs m h.lens] at h1
 exact Nat.eq_of_mul_eq_mul_right hm h1
theorem RecL.below (h:RecL cs m P w B A n L) (hb:Below B w w'):RecL cs m P w' B A n L:=⟨h.reads.below hb,h.ok,h.lens⟩
theorem RecL.more (h:RecL cs m P w B A n L) (hb:B≤B'):RecL cs m P w B' A n L:=⟨h.reads.more hb,h.ok,h.lens⟩
theorem RecL.of_own {base:Nat} {e:TypeId} {c:Nat} (h:w.ownsRow base e m (.slice A n c) n (L.flatMap cs)) (ok:∀ x∈L,P x) (ln:∀ x∈L,(cs x).length=m):RecL cs m P w w.heap.size A n L:=⟨Zaj.of_own h,ok,ln⟩
theorem RecL.at_ {k:Nat} (h:RecL cs m P w B A n L) (hm:0 < m) (hk:k < n) :∃g o x,A=some ⟨g,o,none⟩∧g < B∧L[k]?=some x∧P x∧(cs x).length=m∧w.rangeAt g (o+k*m) (cs x):=by
 obtain ⟨g,o,rfl,hg,hc⟩:=spot_any h.reads (by omega) hm
 have hl:=h.len hm
 have hx:L[k]?=some (L[k]'(by omega)):=List.getElem?_eq_getElem _
 refine ⟨g,o,L[k]'(by omega),rfl,hg,hx,h.ok _ (List.getElem_mem _),h.lens _ (List.getElem_mem _),fun j v hv=>?_⟩
 have:=hc (k*m+j) v (flatR_get cs m h.lens k _ hx j v hv)
 rwa [← Nat.add_assoc] at this
end
structure Usr where
 name:List UInt8
 key:List UInt8
 on:Bool
 limit:Int
def Usr.cs (x:Usr):List Value:=.string ⟨x.name.toArray⟩::(bsV x.key++[.bool x.on,.int .i64 x.limit])
structure Usr.Ok (x:Usr):Prop where
 name:x.name.length≤maxLen
 key:x.key.length=16
theorem Usr.len {x:Usr} (h:x.Ok):x.cs.length=19:=by simp [Usr.cs,h.key]
theorem Usr.one {x:Usr}:∀ v∈x.cs,v.oneCell'=true:=by
 intro v hv
 simp only [Usr.cs,List.mem_cons,List.mem_append,List.not_mem_nil,or_false] at hv
 rcases hv with rfl | h | rfl | rfl
 · rfl
 · exact ZaL _ v h
 · rfl
 · rfl
structure Usr.At (x:Usr) (f:Nat→Option Value):Prop where
 name:f 0=some (.string ⟨x.name.toArray⟩)
 on:f 17=some (.bool x.on)
 limit:f 18=some (.int .i64 x.limit)
 key:∀ j v,(bsV x.key)[j]?=some v→f (1+j)=some v
theorem Usr.at_ {x:Usr} (h:x.Ok):x.At (fun j=>x.cs[j]?):=by
 obtain ⟨a0,a1,a2,a3,a4,a5,a6,a7,a8,a9,a10,a11,a12,a13,a14,a15,e1⟩:=ZdM x.key h.key
 obtain ⟨name,key,on,limit⟩:=x
 dsimp only at e1
 subst e1
 refine ⟨rfl,rfl,rfl,fun j v hv=>?_⟩
 have hj:j < 16:=by have:=(List.getElem?_eq_some_iff.1 hv).1; simpa [bsV] using this
 have:j=0∨j=1∨j=2∨j=3∨j=4∨j=5∨j=6∨j=7∨j=8∨j=9∨j=10∨j=11∨j=12∨j=13∨j=14∨j=15:=by omega
 rcases this with rfl | rfl | rfl | rfl | rfl | rfl | rfl | rfl | rfl | rfl | rfl | rfl | rfl | rfl | rfl | rfl<;>exact hv
theorem Usr.At.of {x:Usr} {f g:Nat→Option Value} (h:x.At f) (e:∀ j v,f j=some v→g j=some v):x.At g :=
 ⟨e _ _ h.name,e _ _ h.on,e _ _ h.limit,fun j v hv=>e _ _ (h.key j v hv)⟩
theorem Usr.blk {x:Usr} (h:x.Ok) {w:World} {g:Nat} {t:TypeId} (hb:Blk w g t x.cs.toArray):x.At (fun j=>w.cell? ⟨g,j,none⟩) :=
 (x.at_ h).of fun j v hv=>(hb.cell j).trans (by simpa using hv)
theorem Usr.range {x:Usr} (h:x.Ok) {w:World} {g o:Nat} (hr:w.rangeAt g o x.cs):x.At (fun j=>w.cell? ⟨g,o+j,none⟩):=(x.at_ h).of fun j v hv=>hr j v hv
theorem usr_info {x:Usr} (h:x.Ok):(Tryz.prog.info? 52).map (·.size)=some x.cs.length:=by
 rw [x.len h]; kernel_rfl
theorem usr_infoA {x:Usr} (h:x.Ok):(Tryz.prog.info? 52).map (·.size)=some x.cs.toArray.size:=by
 rw [List.size_toArray,x.len h]; kernel_rfl
def zUsr:Usr:=⟨[],z16,false,0⟩
theorem zUsr_ok:zUsr.Ok:=⟨by simp [zUsr],rfl⟩
theorem Usr.size_eq {x:Usr} (h:x.Ok):x.cs.toArray.size=zUsr.cs.toArray.size:=by rw [List.size_toArray,List.size_toArray,x.len h,zUsr.len zUsr_ok]
theorem alloc_usr (w:World):(Instr.alloc 52 true (.tuple #[])).run Tryz.prog w=.ok (.pointer (some ⟨w.heap.size,0,none⟩)) (w.alloc (.cells zUsr.cs.toArray 52)):=by kernel_rfl
structure Chn where
 number:Int
 limit:Int
def Chn.cs (x:Chn):List Value:=[.int .i64 x.number,.int .i64 x.limit]
abbrev UsrL:=RecL Usr.cs 19 Usr.Ok
abbrev ChnL:=RecL Chn.cs 2 (fun _=>True)
def Zbz (f:Nat→Int):Nat→Nat→Int
 | 0,_=>0
 | m+1,k=>if f k=0 then Zbz f m (k+1) else f k
theorem Zdf (f:Nat→Int) {n k:Nat} (h:k < n):Zbz f (n - k) k=if f k=0 then Zbz f (n - (k+1)) (k+1) else f k:=by
 rw [show n - k=(n - (k+1))+1 by omega]; rfl
def leqL (a b:List UInt8):Bool:=Op.bytesLess a b || (a==b)
def lvl0 (x:Int):Bool:=decide (0≤x∧x≤3)
def errU (L:List Usr) (k:Nat):Int :=
 match L[k]? with
 | none=>0
 |some x=>if ZbC x.name=false then 1 else if lvl0 x.limit=false then 2 else
  match k with
  | 0=>0
  | m+1=>if ((L[m]?).map (fun p=>leqL x.name p.name)).getD false=true then 7 else 0
def errC (L:List Chn) (k:Nat):Int :=
 match L[k]? with
 | none=>0
 |some x=>if x.number < 0∨4≤x.number∨lvl0 x.limit=false then 2 else
  match k with
  | 0=>0
  | m+1=>if ((L[m]?).map (fun p=>decide (x.number≤p.number))).getD false=true then 7 else 0
def accV (U:List Usr) (C:List Chn):Int :=
 if 8 < U.length∨4 < C.length then 3 else if Zbz (errU U) U.length 0=0 then Zbz (errC C) C.length 0 else Zbz (errU U) U.length 0
set_option maxRecDepth 100000 in
theorem Zeb (w:World) (n:Int) (r:Bool) (hr:lvl0 n=r):Calls Tryz.prog 108 #[.int .i64 n] w fun e w'=>e=.returned (.bool r)∧w=w':=by
 unfold lvl0 at hr
 by_cases h1:0≤n
 ·by_cases h2:n≤3
  ·obtain rfl:true=r:=by rw [← hr]; simp; omega
   clear hr
   go_enter Tryz.func108,Tryz.ntmps108
   go_wp2_with fail
   go_ret
   exact ⟨rfl,rfl⟩
  ·obtain rfl:false=r:=by rw [← hr]; simp; omega
   clear hr
   go_enter Tryz.func108,Tryz.ntmps108
   go_wp2_with fail
   go_ret
   exact ⟨rfl,rfl⟩
 ·obtain rfl:false=r:=by rw [← hr]; simp; omega
  clear hr
  go_enter Tryz.func108,Tryz.ntmps108
  go_wp2_with fail
  go_ret
  exact ⟨rfl,rfl⟩
end Go.Proofs.YtfbkkmnkpjgciaaGreat
