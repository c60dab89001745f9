/- Joined of GBar. No condition. -/
import Derived.Test.YtfbkkmnkpjgciaaGreatPG01
import Derived.OrdersHeld
namespace Go.Proofs.YtfbkkmnkpjgciaaGreat
open Go.RowKit
def ZeU (md:Region.Mode) (ops:Array Oper) (b i:Nat):Bool :=
 match ops[b]? with
 | some o=>o.after.toList.any fun e=>Region.binds md e && e.on==i
 | none=>false
section
variable {P:Program} {md:Region.Mode} {ops:Array Oper} {Q:Exit→Act→World→Prop} {b:Nat} {S:World→Prop}
def Bars (P:Program) (md:Region.Mode) (ops:Array Oper) (Q:Exit→Act→World→Prop) (b:Nat) (S:World→Prop):Nat→Array Bool→Act→World→Prop
 | 0,done,a,w=>Region.ready md ops done=[]∧Q .normal a w
 | k+1,done,a,w=>(Region.ready md ops done=[]→Q .normal a w) ∧
  ∀ j∈Region.ready md ops done,wpOp P ops Q j (fun a' w'=>((done.setIfInBounds j true).getD b true=false→S w')∧Bars P md ops Q b S k (done.setIfInBounds j true) a' w') a w
theorem Bars.any:∀ (k:Nat) (done:Array Bool) (a:Act) (w:World),Bars P md ops Q b S k done a w→wpAny P md ops Q k done a w
 | 0,_,_,_,h=>h
 | k+1,_,_,_,h=>⟨h.1,fun j hj=>wpOp_mono (fun a' w' h'=>Bars.any k _ a' w' h'.2) (h.2 j hj)⟩
theorem Bars.region {id:Nat} {a:Act} {w:World} (hm:P.follows .mixedOrders=true) (h:Bars P .any ops Q b S ops.size (Array.replicate ops.size false) a w.drew):(Code.region id ops true).wp P Q a w :=
 wp_region_any hm (Bars.any _ _ _ _ h)
theorem Bars.load {i:Nat} {oi:Oper} {v:Value} (hi:ops[i]?=some oi) (hsel:Region.noSelect ops=true) (hb:ZeU md ops b i=true)
  (hQ:∀ c a w,Q (.panic c) (a.put oi.dst v) w→Q (.panic c) a w) :
  ∀ (k:Nat) (done:Array Bool) (a:Act) (w:World),done.getD b true=false→(∀ j oj,ops[j]?=some oj→j≠i→done.getD j true=false→(∀ e∈oj.after,Region.binds md e=true→e.on≠i)→oi.apart ops oj=true) →
   i∈Region.ready md ops done→YieldsIf P ops S oi v a→S w→Bars P md ops Q b S k (done.setIfInBounds i true) (a.put oi.dst v) w→Bars P md ops Q b S (k+1) done a w:=by
 intro k
 induction k with
 |zero =>
  intro done a w _ _ hr hy hS H
  refine And.intro (fun h=>by rw [h] at hr; cases hr) fun j hj=>?_
  by_cases hji:j=i
  ·subst hji
   exact hy.wpOp hi hS ⟨fun _=>hS,H⟩
  ·have hjr:=ready_mono hj hji
   rw [H.1] at hjr
   cases hjr
 |succ k ih =>
  intro done a w hbz hfree hr hy hS H
  refine And.intro (fun h=>by rw [h] at hr; cases hr) fun j hj=>?_
  by_cases hji:j=i
  ·subst hji
   exact hy.wpOp hi hS ⟨fun _=>hS,H⟩
  ·have hjr:=ready_mono hj hji
   obtain ⟨hun,oj,hoj,hall⟩:=mem_ready.1 hj
   have hi0:=(mem_ready.1 hr).1
   have hno:∀ e∈oj.after,Region.binds md e=true→e.on≠i:=fun e he hbd heq=>by
    have h1:=hall e he hbd
    rw [heq] at h1
    rcases Nat.lt_or_ge i done.size with hlt | hge
    ·simp [hlt] at hi0 h1
     rw [hi0] at h1
     cases h1
    · simp [Array.getElem?_eq_none hge] at h1
   have hjb:j≠b:=fun e=>by
    subst e
    unfold ZeU at hb
    rw [hoj] at hb
    dsimp only at hb
    rw [List.any_eq_true] at hb
    obtain ⟨e,he,h1⟩:=hb
    simp only [Bool.and_eq_true,beq_iff_eq] at h1
    exact hno e (Array.mem_toList_iff.1 he) h1.1 h1.2
   have hstep:=wpOp_putIf hoj (hfree j oj hoj hji hun hno) (fun cs d=>Region.noSelect_spec hsel i oi cs d hi) (fun cs d=>Region.noSelect_spec hsel j oj cs d hoj) hQ hy (H.2 j hjr)
   refine wpOp_mono (fun a' w' h3=>?_) hstep
   obtain ⟨hy',hS',hB⟩:=h3
   have hbj:(done.setIfInBounds j true).getD b true=false:=by rw [getD_set_ne true hjb]; exact hbz
   by_cases hbi:b=i
   ·subst hbi
    unfold ZeU at hb
    rw [hi] at hb
    dsimp only at hb
    rw [List.any_eq_true] at hb
    obtain ⟨e,he,h1⟩:=hb
    simp only [Bool.and_eq_true,beq_iff_eq] at h1
    have h2:=(mem_ready.1 hr).2
    obtain ⟨o2,ho2,hall2⟩:=h2
    obtain rfl:oi=o2:=Option.some.inj (hi.symm.trans ho2)
    have h3:=hall2 e (Array.mem_toList_iff.1 he) h1.1
    rw [h1.2] at h3
    rcases Nat.lt_or_ge b done.size with hlt | hge
    ·simp [hlt] at hi0 h3
     rw [hi0] at h3
     cases h3
    · simp [Array.getElem?_eq_none hge] at h3
   ·have hSw:S w':=hS' (by rw [getD_set_ne true hjb,getD_set_ne true (Ne.symm hbi)]; exact hbz)
    refine ⟨fun _=>hSw,ih _ a' w' hbj (fun l ol hl hli hln hlo=>?_) (ready_mono hr (Ne.symm hji)) hy' hSw ?_⟩
    ·refine hfree l ol hl hli ?_ hlo
     by_cases hjl:j=l
     · subst hjl; exact hun
     · rw [getD_set_ne true hjl] at hln; exact hln
    ·rw [Array.setIfInBounds_comm _ _ hji]
     exact hB
theorem Bars.pure {i:Nat} {oi:Oper} {v:Value} (hi:ops[i]?=some oi) (hsel:Region.noSelect ops=true) (hbi:b≠i)
  (hQ:∀ c a w,Q (.panic c) (a.put oi.dst v) w→Q (.panic c) a w) :
  ∀ (k:Nat) (done:Array Bool) (a:Act) (w:World),(∀ j oj,ops[j]?=some oj→j≠i→done.getD j true=false→(∀ e∈oj.after,Region.binds md e=true→e.on≠i)→oi.apart ops oj=true) →
   i∈Region.ready md ops done→YieldsIf P ops (fun _=>True) oi v a→(done.getD b true=false→S w)→Bars P md ops Q b S k (done.setIfInBounds i true) (a.put oi.dst v) w→Bars P md ops Q b S (k+1) done a w:=by
 intro k
 induction k with
 |zero =>
  intro done a w _ hr hy hS H
  refine And.intro (fun h=>by rw [h] at hr; cases hr) fun j hj=>?_
  by_cases hji:j=i
  ·subst hji
   exact hy.wpOp hi trivial ⟨fun hz=>hS (by rwa [getD_set_ne true (Ne.symm hbi)] at hz),H⟩
  ·have hjr:=ready_mono hj hji
   rw [H.1] at hjr
   cases hjr
 |succ k ih =>
  intro done a w hfree hr hy hS H
  refine And.intro (fun h=>by rw [h] at hr; cases hr) fun j hj=>?_
  by_cases hji:j=i
  ·subst hji
   exact hy.wpOp hi trivial ⟨fun hz=>hS (by rwa [getD_set_ne true (Ne.symm hbi)] at hz),H⟩
  ·have hjr:=ready_mono hj hji
   obtain ⟨hun,oj,hoj,hall⟩:=mem_ready.1 hj
   have hi0:=(mem_ready.1 hr).1
   have hno:∀ e∈oj.after,Region.binds md e=true→e.on≠i:=fun e he hbd heq=>by
    have h1:=hall e he hbd
    rw [heq] at h1
    rcases Nat.lt_or_ge i done.size with hlt | hge
    ·simp [hlt] at hi0 h1
     rw [hi0] at h1
     cases h1
    · simp [Array.getElem?_eq_none hge] at h1
   have hstep:=wpOp_putIf hoj (hfree j oj hoj hji hun hno) (fun cs d=>Region.noSelect_spec hsel i oi cs d hi) (fun cs d=>Region.noSelect_spec hsel j oj cs d hoj) hQ hy (H.2 j hjr)
   refine wpOp_mono (fun a' w' h3=>?_) hstep
   obtain ⟨hy',hS',hB⟩:=h3
   have hS2:(done.setIfInBounds j true).getD b true=false→S w':=fun hz=>hS' (by
    rw [Array.setIfInBounds_comm _ _ (Ne.symm hji),getD_set_ne true (Ne.symm hbi)]
    exact hz)
   refine ⟨hS2,ih _ a' w' (fun l ol hl hli hln hlo=>?_) (ready_mono hr (Ne.symm hji)) hy' hS2 ?_⟩
   ·refine hfree l ol hl hli ?_ hlo
    by_cases hjl:j=l
    · subst hjl; exact hun
    · rw [getD_set_ne true hjl] at hln; exact hln
   ·rw [Array.setIfInBounds_comm _ _ hji]
    exact hB
theorem ZaP {l:List Oper} {i:Nat} {oi:Oper} {v:Value} {k:Nat} {done:Array Bool} {a:Act} {w:World} (hi:l[i]?=some oi) (hs:Region.noSelect l.toArray=true) (hf:Region.free md l.toArray done i=true) (hr:(Region.ready md l.toArray done).contains i=true)
  (hb:ZeU md l.toArray b i=true) (hz:done.getD b true=false) (hy:YieldsIf P l.toArray S oi v a) (hS:S w) (h:Bars P md l.toArray (NoPanic Q) b S k (done.setIfInBounds i true) (a.put oi.dst v) w):Bars P md l.toArray (NoPanic Q) b S (k+1) done a w :=
 Bars.load (by simpa using hi) hs hb (fun _ _ _ h=>h) k done a w hz (Region.free_spec (by simpa using hi) hf) (by simpa using hr) hy hS h
theorem Zej {l:List Oper} {i:Nat} {oi:Oper} {v:Value} {k:Nat} {done:Array Bool} {a:Act} {w:World} (hi:l[i]?=some oi) (hs:Region.noSelect l.toArray=true) (hf:Region.free md l.toArray done i=true) (hr:(Region.ready md l.toArray done).contains i=true)
  (hb:b≠i) (hy:YieldsIf P l.toArray (fun _=>True) oi v a) (hS:done.getD b true=false→S w) (h:Bars P md l.toArray (NoPanic Q) b S k (done.setIfInBounds i true) (a.put oi.dst v) w):Bars P md l.toArray (NoPanic Q) b S (k+1) done a w :=
 Bars.pure (by simpa using hi) hs hb (fun _ _ _ h=>h) k done a w (Region.free_spec (by simpa using hi) hf) (by simpa using hr) hy hS h
theorem ZdX {l:List Oper} {i:Nat} {oi:Oper} {k:Nat} {done:Array Bool} {a:Act} {w:World} (hi:l[i]?=some oi) (hr:Region.ready md l.toArray done=[i])
  (h:∀ K':Act→World→Prop,Shut (∀ a w,((done.setIfInBounds i true).getD b true=false→S w)→Bars P md l.toArray Q b S k (done.setIfInBounds i true) a w→K' a w)→if Region.wanted oi (yielded l.toArray a.tmps)=true then Oper.wp P oi a w K' Q else K' (a.put oi.dst undef) w) :
  Bars P md l.toArray Q b S (k+1) done a w:=by
 refine And.intro (fun h0=>by rw [h0] at hr; cases hr) fun j hj=>?_
 rw [hr] at hj
 obtain rfl:j=i:=by simpa using hj
 exact wpOp_step (by simpa using hi) fun K' hK=>h K' fun a w h1 h2=>hK a w ⟨h1,h2⟩
theorem bar_done {done:Array Bool} {a:Act} {w:World} (hr:Region.ready md ops done=[]) (h:Q .normal a w):∀ k,Bars P md ops Q b S k done a w
 | 0=>⟨hr,h⟩
 | _+1=>⟨fun _=>h,by rw [hr]; simp⟩
end
theorem Zc8 {P:Program} {o:Oper} {a:Act} {w:World} {K:Act→World→Prop} {Q:Exit→Act→World→Prop} (t:TypeId) (len:Nat) (parts:Array (Nat × Operand)) (ho:o.op=.buildSlice t len parts) (pl:List (Nat × Value)) (hp:(parts.toList.map fun p=>(p.1,a.eval p.2))=pl) (v:Value) (w':World)
  (hr:(Instr.buildSlice t len pl.toArray).run P w=.ok v w') (h:K (a.put o.dst v) w'):Oper.wp P o a w K Q:=by
 have hq:(parts.map fun p=>(p.1,a.eval p.2))=pl.toArray:=by rw [← hp]; apply Array.ext'; simp
 unfold Oper.wp execOp
 simp only [ho,Sem.run_bind]
 rw [hq,hr]
 exact h
end Go.Proofs.YtfbkkmnkpjgciaaGreat
