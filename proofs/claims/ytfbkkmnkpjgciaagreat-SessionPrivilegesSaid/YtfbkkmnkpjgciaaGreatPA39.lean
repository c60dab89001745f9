/- Joined of TPrivP. No condition. -/
import Derived.Test.YtfbkkmnkpjgciaaGreatPA33
import Derived.Test.YtfbkkmnkpjgciaaGreatPA31
namespace Go.Proofs.YtfbkkmnkpjgciaaGreat
open Go.RowKit
def limU (user:List UInt8) (U:List Usr):Int:=U.foldl (fun l u=>if (nameP user u && u.on)=true then u.limit else l) (-1)
def limC (l:Int) (C:List Chn):Int:=C.foldl (fun l c=>if c.number=1 then min l c.limit else l) l
def limA (U:List Usr) (C:List Chn) (user:List UInt8):Int:=limC (limU user U) C
def PrivOk (U:List Usr) (C:List Chn) (L:List Sess):Prop:=∀ x∈L,x.level≤limA U C x.user
theorem PrivOk.exp {U:List Usr} {C:List Chn} {L:List Sess} {nx:Nat} {now:Int} (h:PrivOk U C L):PrivOk U C (expF L nx now):=by
 intro x hx
 unfold expF at hx
 split at hx
 · exact h x (List.mem_filter.1 hx).1
 · exact h x hx
theorem PrivOk.set_ {U:List Usr} {C:List Chn} {L:List Sess} {i:Nat} {x x':Sess} (h:PrivOk U C L) (hi:L[i]?=some x) (hu:x'.user=x.user) (hl:x'.level=x.level):PrivOk U C (L.set i x'):=by
 intro y hy
 rcases List.mem_or_eq_of_mem_set hy with hy | rfl
 · exact h y hy
 · rw [hu,hl]; exact h x (List.mem_of_getElem? hi)
theorem PrivOk.proof {U:List Usr} {C:List Chn} {L:List Sess} {nx:Nat} {b:List UInt8} {now:Int} (h:PrivOk U C L) (ht:TabOk L nx) {r:SRes} (hr:proofS L nx b now=r) (h0:r.code=0):PrivOk U C r.L:=by
 obtain ⟨_,_,_,_,i,x,hi,he⟩:=ht.proof hr h0
 rw [he]
 exact h.exp.set_ hi rfl rfl
theorem firstE_all {f:Nat→Int}:∀ {m k:Nat},firstE f m k=0→∀ j,k≤j→j < k+m→f j=0
 | 0,_,_,j,h1,h2=>by omega
 |m+1,k,h,j,h1,h2=>by
  unfold firstE at h
  split at h
  ·rename_i h0
   by_cases e:j=k
   · subst e; exact h0
   · exact firstE_all h j (by omega) (by omega)
  · rename_i h0; exact absurd h h0
theorem accV_zero {U:List Usr} {C:List Chn} (h:accV U C=0):(∀ j,j < U.length→errU U j=0)∧∀ j,j < C.length→errC C j=0:=by
 unfold accV at h
 split at h
 · exact absurd h (by decide)
 split at h
 ·rename_i h1
  exact ⟨fun j hj=>firstE_all h1 j (by omega) (by omega),fun j hj=>firstE_all h j (by omega) (by omega)⟩
 · rename_i h1; exact absurd h h1
theorem less_trans:∀ a b c:List UInt8,Op.bytesLess a b=true→Op.bytesLess b c=true→Op.bytesLess a c=true
 | [],[],_,h,_=>by simp [Op.bytesLess] at h
 | _::_,[],_,h,_=>by simp [Op.bytesLess] at h
 | [],_::_,[],_,h=>by simp [Op.bytesLess] at h
 | _::_,_::_,[],_,h=>by simp [Op.bytesLess] at h
 | [],_::_,_::_,_,_=>by simp [Op.bytesLess]
 |a::x,b::y,c::z,h1,h2=>by
  simp only [Op.bytesLess,Bool.or_eq_true,Bool.and_eq_true,decide_eq_true_eq,beq_iff_eq,UInt8.lt_iff_toNat_lt] at h1 h2 ⊢
  rcases h1 with h1 | ⟨rfl,h1⟩
  ·rcases h2 with h2 | ⟨rfl,_⟩
   · exact .inl (by omega)
   · exact .inl h1
  ·rcases h2 with h2 | ⟨rfl,h2⟩
   · exact .inl h2
   · exact .inr ⟨rfl,less_trans x y z h1 h2⟩
theorem less_ne {a b:List UInt8} (h:Op.bytesLess a b=true):a≠b:=by
 rintro rfl
 have:=less_total a a
 rw [h] at this
 simp [leqL] at this
theorem less_of {a b:List UInt8} (h:leqL b a=false):Op.bytesLess a b=true:=by
 rw [← less_total] at h
 simpa using h
theorem chain_pair {α : Type} {R:α→α→Prop} (htr:∀ a b c,R a b→R b c→R a c) {L:List α} (h:∀ (k:Nat) (a b:α),L[k]?=some a→L[k+1]?=some b→R a b):L.Pairwise R:=by
 rw [List.pairwise_iff_getElem]
 intro i j hi hj hij
 induction j with
 | zero=>omega
 |succ j ih =>
  have hs:=h j L[j] L[j+1] (List.getElem?_eq_getElem (by omega)) (List.getElem?_eq_getElem hj)
  by_cases e:i=j
  · subst e; exact hs
  · exact htr _ _ _ (ih (by omega) (by omega)) hs
theorem users_apart {U:List Usr} (h:∀ j,j < U.length→errU U j=0):U.Pairwise fun a b=>a.name≠b.name:=by
 have h1:U.Pairwise fun a b=>Op.bytesLess a.name b.name=true:=chain_pair (R:=fun a b:Usr=>Op.bytesLess a.name b.name=true) (fun a b c=>less_trans a.name b.name c.name) fun k a b ha hb=>by
  have hk:=(List.getElem?_eq_some_iff.1 hb).1
  have:=h (k+1) hk
  unfold errU at this
  rw [hb] at this
  dsimp only at this
  split at this
  · exact absurd this (by decide)
  split at this
  · exact absurd this (by decide)
  rw [ha] at this
  split at this
  · exact absurd this (by decide)
  ·rename_i h5
   exact less_of (by simpa using h5)
 exact h1.imp (fun h=>less_ne h)
theorem chans_apart {C:List Chn} (h:∀ j,j < C.length→errC C j=0):C.Pairwise fun a b=>a.number≠b.number:=by
 have h1:C.Pairwise fun a b=>a.number < b.number:=chain_pair (fun a b c h1 h2=>by omega) fun k a b ha hb=>by
  have hk:=(List.getElem?_eq_some_iff.1 hb).1
  have:=h (k+1) hk
  unfold errC at this
  rw [hb] at this
  dsimp only at this
  split at this
  · exact absurd this (by decide)
  rw [ha] at this
  split at this
  · exact absurd this (by decide)
  ·rename_i h5
   simp at h5
   omega
 exact h1.imp (fun h=>by omega)
theorem foldU_none {s:List UInt8}:∀ {U:List Usr} (l:Int),(∀ x∈U,nameP s x=false)→U.foldl (fun l u=>if (nameP s u && u.on)=true then u.limit else l) l=l
 | [],_,_=>rfl
 |y::r,l,h=>by
  rw [List.foldl_cons,h y List.mem_cons_self,Bool.false_and,if_neg (by simp)]
  exact foldU_none l fun x hx=>h x (List.mem_cons_of_mem _ hx)
theorem foldU_one {s:List UInt8} {u:Usr} (hon:u.on=true):∀ {U:List Usr} (l:Int),(U.Pairwise fun a b=>a.name≠b.name)→U.find? (nameP s)=some u→U.foldl (fun l u=>if (nameP s u && u.on)=true then u.limit else l) l=u.limit
 | [],_,_,h=>by simp at h
 |y::r,l,hp,h=>by
  obtain ⟨h1,h2⟩:=List.pairwise_cons.1 hp
  rw [List.foldl_cons]
  cases hy:nameP s y with
  |true =>
   rw [List.find?_cons_of_pos hy] at h
   injection h with h
   subst h
   rw [hon,Bool.true_and,if_pos rfl]
   refine foldU_none _ fun x hx=>?_
   have hne:=h1 x hx
   unfold nameP at hy ⊢
   have hys:y.name=s:=by simpa using hy
   rw [← hys]
   simpa using fun e=>hne e.symm
  |false =>
   rw [List.find?_cons_of_neg (by rw [hy]; simp)] at h
   rw [Bool.false_and,if_neg (by simp)]
   exact foldU_one hon l h2 h
theorem foldC_none:∀ {C:List Chn} (l:Int),(∀ x∈C,x.number≠1)→C.foldl (fun l c=>if c.number=1 then min l c.limit else l) l=l
 | [],_,_=>rfl
 |y::r,l,h=>by
  rw [List.foldl_cons,if_neg (h y List.mem_cons_self)]
  exact foldC_none l fun x hx=>h x (List.mem_cons_of_mem _ hx)
theorem foldC_one {c:Chn}:∀ {C:List Chn} (l:Int),(C.Pairwise fun a b=>a.number≠b.number)→C.find? (chanP 1)=some c→C.foldl (fun l c=>if c.number=1 then min l c.limit else l) l=min l c.limit
 | [],_,_,h=>by simp at h
 |y::r,l,hp,h=>by
  obtain ⟨h1,h2⟩:=List.pairwise_cons.1 hp
  rw [List.foldl_cons]
  cases hy:chanP 1 y with
  |true =>
   rw [List.find?_cons_of_pos hy] at h
   injection h with h
   subst h
   have hn:y.number=1:=by simpa [chanP] using hy
   rw [if_pos hn]
   exact foldC_none _ fun x hx=>by rw [← hn]; exact fun e=>h1 x hx e.symm
  |false =>
   rw [List.find?_cons_of_neg (by rw [hy]; simp)] at h
   have hn:y.number≠1:=by simpa [chanP] using hy
   rw [if_neg hn]
   exact foldC_one l h2 h
theorem limF_le {U:List Usr} {C:List Chn} {s:List UInt8} (h:(limF U C s 1).2=0):(limF U C s 1).1=limA U C s:=by
 unfold limF at h ⊢
 by_cases h0:accV U C≠0
 · rw [if_pos h0] at h; exact absurd h h0
 rw [if_neg h0] at h ⊢
 obtain ⟨hu,hc⟩:=accV_zero (by simpa using h0)
 cases e1:U.find? (nameP s) with
 | none=>rw [e1] at h; exact absurd h (by simp)
 |some u =>
  cases e2:C.find? (chanP 1) with
  | none=>rw [e1,e2] at h; exact absurd h (by simp)
  |some c =>
   rw [e1,e2] at h
   dsimp only at h ⊢
   by_cases ho:u.on=false
   · rw [if_pos ho] at h; exact absurd h (by simp)
   rw [if_neg ho]
   unfold limA limC limU
   rw [foldU_one (by simpa using ho) _ (users_apart hu) e1,foldC_one _ (chans_apart hc) e2]
theorem PrivOk.hello {U:List Usr} {C:List Chn} {L:List Sess} {nx:Nat} {b:List UInt8} {nonce:Nat} {now:Int} (h:PrivOk U C L) (ht:TabOk L nx) (hU:∀ u∈U,u.Ok) (hno:nonce < 18446744073709551616) {r:SRes} (hr:helloS L nx U C 1 b nonce now=r) (h0:r.code=0):PrivOk U C r.L:=by
 obtain ⟨_,_,he,_,h1,h2,_⟩:=ht.hello hU hno hr h0
 rw [he]
 intro x hx
 rcases List.mem_append.1 hx with hx | hx
 · exact h.exp x hx
 ·simp at hx
  subst hx
  show ((b.getD 9 0).toNat:Int)≤limA U C (b.drop 10)
  rw [← limF_le h1]
  exact h2
end Go.Proofs.YtfbkkmnkpjgciaaGreat
