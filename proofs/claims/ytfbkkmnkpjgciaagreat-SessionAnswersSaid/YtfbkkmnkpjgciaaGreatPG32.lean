/- Joined of SPackL TValid TWd TAdd TPick TAnyb. No condition. -/
import Derived.Test.YtfbkkmnkpjgciaaGreatPG06
import Derived.Test.YtfbkkmnkpjgciaaGreatPG09
import Derived.Test.YtfbkkmnkpjgciaaGreatPG30
import Derived.Test.YtfbkkmnkpjgciaaGreatPG31
import Derived.Test.YtfbkkmnkpjgciaaGreatPG19
namespace Go.Proofs.YtfbkkmnkpjgciaaGreat
open Go.RowKit
theorem Zeu (f:UInt8) (ks:List UInt8) (id n:Nat) (kb:UInt8) (data:List UInt8) :∃T:List UInt8,T.length=8∧T=leB (sumF ks (Zdc f id n kb data)) 8 ∧
  Zb0 f ks id n kb data=f::ZaG (id:Int) 0::ZaG (id:Int) 1::ZaG (id:Int) 2::ZaG (id:Int) 3::ZaG (n:Int) 0::ZaG (n:Int) 1::ZaG (n:Int) 2::ZaG (n:Int) 3::kb::(data++T):=by
 refine ⟨_,Zbr _ _,rfl,?_⟩
 unfold Zb0
 generalize leB (sumF ks (Zdc f id n kb data)) 8=T
 unfold Zdc Zbh
 show f::(([leB (id:Int) 4,leB (n:Int) 4,[kb],data].flatten)++T)=_
 simp [leB,List.range_succ]
theorem parts_pack (f:UInt8) (ks:List UInt8) (id n:Nat) (kb:UInt8) (data:List UInt8) (hi:id < 4294967296) (hn:n < 4294967296):Zay (Zb0 f ks id n kb data)=⟨id,n,kb,data⟩:=by
 obtain ⟨T,hT,_,e⟩:=Zeu f ks id n kb data
 rw [e]
 have h1:leW [ZaG (id:Int) 0,ZaG (id:Int) 1,ZaG (id:Int) 2,ZaG (id:Int) 3]=id:=by
  have:=Zda id 4
  rw [Nat.mod_eq_of_lt (by simpa using hi)] at this
  exact this
 have h2:leW [ZaG (n:Int) 0,ZaG (n:Int) 1,ZaG (n:Int) 2,ZaG (n:Int) 3]=n:=by
  have:=Zda n 4
  rw [Nat.mod_eq_of_lt (by simpa using hn)] at this
  exact this
 unfold Zay
 have h3:(data++T).take ((f::ZaG (id:Int) 0::ZaG (id:Int) 1::ZaG (id:Int) 2::ZaG (id:Int) 3::ZaG (n:Int) 0::ZaG (n:Int) 1::ZaG (n:Int) 2::ZaG (n:Int) 3::kb::(data++T)).length - 18)=data:=by
  rw [show (f::ZaG (id:Int) 0::ZaG (id:Int) 1::ZaG (id:Int) 2::ZaG (id:Int) 3::ZaG (n:Int) 0::ZaG (n:Int) 1::ZaG (n:Int) 2::ZaG (n:Int) 3::kb::(data++T)).length - 18=data.length by simp [hT]]
  exact List.take_left' rfl
 show (⟨leW [ZaG (id:Int) 0,ZaG (id:Int) 1,ZaG (id:Int) 2,ZaG (id:Int) 3],leW [ZaG (n:Int) 0,ZaG (n:Int) 1,ZaG (n:Int) 2,ZaG (n:Int) 3],kb,_⟩:Prt)=_
 rw [h1,h2]
 show (⟨id,n,kb,(data++T).take _⟩:Prt)=_
 rw [h3]
theorem Zet (f:UInt8) (ks:List UInt8) (id n:Nat) (kb:UInt8) (data:List UInt8):(Zb0 f ks id n kb data).length=18+data.length:=by
 obtain ⟨T,hT,_,e⟩:=Zeu f ks id n kb data
 rw [e]
 simp [hT]
 omega
theorem form_pack (f:UInt8) (ks:List UInt8) (id n:Nat) (kb:UInt8) (data:List UInt8) (hd:data.length≤256):Zcv f (Zb0 f ks id n kb data)=true:=by
 have hl:=Zet f ks id n kb data
 obtain ⟨T,hT,_,e⟩:=Zeu f ks id n kb data
 unfold Zcv
 rw [hl,e]
 simp
 omega
theorem gen_pack (f:UInt8) (ks:List UInt8) (id n:Nat) (kb:UInt8) (data:List UInt8):genF ks (Zb0 f ks id n kb data)=true:=by
 unfold genF
 have hl:(Zb0 f ks id n kb data).length - 8=(Zdc f id n kb data).length:=by rw [Zet,Zfj]; omega
 rw [hl]
 unfold Zb0
 rw [List.drop_left' rfl,List.take_left' rfl]
 simp
def okE (x:Sess) (nx:Nat):Bool:=decide (x.id < nx) && (ZbC x.user && (decide (1≤x.level∧x.level≤3) && (decide (0≤x.last∧x.last≤17179869184) && (x.opn || (x.hi==0 && (x.se==0 && x.out==0))))))
theorem okX_eq (x:Sess) (nx b:Nat):okX x nx b=(decide (b < x.id) && okE x nx):=rfl
theorem validG_lower {nx:Nat}:∀ {L:List Sess} {b b':Nat},Zbu L nx b=true→b'≤b→Zbu L nx b'=true
 | [],_,_,_,_=>rfl
 |x::r,b,b',h,hb=>by
  unfold Zbu at h ⊢
  rw [okX_eq] at h ⊢
  simp only [Bool.and_eq_true,decide_eq_true_eq] at h ⊢
  exact ⟨⟨by omega,h.1.2⟩,h.2⟩
theorem Zbw {x:Sess} {r:List Sess} {nx b:Nat}:Zbu (x::r) nx b=true↔b < x.id∧okE x nx=true∧Zbu r nx x.id=true:=by
 rw [Zbu,okX_eq]
 simp only [Bool.and_eq_true,decide_eq_true_eq]
 exact ⟨fun h=>⟨h.1.1,h.1.2,h.2⟩,fun h=>⟨⟨h.1,h.2.1⟩,h.2.2⟩⟩
theorem validG_mem {nx:Nat}:∀ {L:List Sess} {b:Nat},Zbu L nx b=true→∀ x∈L,b < x.id∧okE x nx=true
 | [],_,_,x,hx=>by cases hx
 |y::r,b,h,x,hx=>by
  obtain ⟨h1,h2,h3⟩:=Zbw.1 h
  rcases List.mem_cons.1 hx with rfl | hx
  · exact ⟨h1,h2⟩
  ·obtain ⟨h4,h5⟩:=validG_mem h3 x hx
   exact ⟨by omega,h5⟩
theorem Zdg {nx:Nat} (p:Sess→Bool):∀ {L:List Sess} {b:Nat},Zbu L nx b=true→Zbu (L.filter p) nx b=true
 | [],_,_=>rfl
 |y::r,b,h=>by
  obtain ⟨h1,h2,h3⟩:=Zbw.1 h
  rw [List.filter_cons]
  split
  · exact Zbw.2 ⟨h1,h2,Zdg p h3⟩
  · exact validG_lower (Zdg p h3) (by omega)
theorem validG_set {nx:Nat} {x x':Sess} (hid:x'.id=x.id) (hok:okE x' nx=true):∀ {L:List Sess} {b i:Nat},Zbu L nx b=true→L[i]?=some x→Zbu (L.set i x') nx b=true
 | [],_,_,_,hi=>by simp at hi
 |y::r,b,i,h,hi=>by
  obtain ⟨h1,h2,h3⟩:=Zbw.1 h
  cases i with
  |zero =>
   obtain rfl:y=x:=by simpa using hi
   rw [List.set_cons_zero]
   exact Zbw.2 ⟨by omega,hok,by rw [hid]; exact h3⟩
  |succ i =>
   rw [List.set_cons_succ]
   exact Zbw.2 ⟨h1,h2,validG_set hid hok h3 (by simpa using hi)⟩
theorem okE_more {x:Sess} {nx nx':Nat} (h:okE x nx=true) (hn:nx≤nx'):okE x nx'=true:=by
 unfold okE at h ⊢
 simp only [Bool.and_eq_true,decide_eq_true_eq] at h ⊢
 exact ⟨by omega,h.2⟩
theorem Zfp {nx nx':Nat} {x:Sess} (hn:nx≤nx') (hid:nx≤x.id) (hok:okE x nx'=true):∀ {L:List Sess} {b:Nat},b < nx→Zbu L nx b=true→Zbu (L++[x]) nx' b=true
 | [],b,hb,_=>Zbw.2 ⟨by omega,hok,rfl⟩
 |y::r,b,hb,h=>by
  obtain ⟨h1,h2,h3⟩:=Zbw.1 h
  have h4:y.id < nx:=by
   unfold okE at h2
   simp only [Bool.and_eq_true,decide_eq_true_eq] at h2
   exact h2.1
  exact Zbw.2 ⟨h1,okE_more h2 hn,Zfp hn hid hok h4 h3⟩
theorem ZaZ {L:List Sess} {nx:Nat}:ZaS L nx=true↔L.length≤4∧1≤nx∧Zbu L nx 0=true:=by
 unfold ZaS
 simp only [Bool.and_eq_true,decide_eq_true_eq]
theorem validF_exp {L:List Sess} {nx:Nat} {now:Int} (h:ZaS L nx=true):ZaS (expF L nx now) nx=true:=by
 unfold expF
 split
 ·obtain ⟨h1,h2,h3⟩:=ZaZ.1 h
  exact ZaZ.2 ⟨Nat.le_trans (List.length_filter_le _ _) h1,h2,Zdg _ h3⟩
 · exact h
theorem validF_set {L:List Sess} {nx i:Nat} {x x':Sess} (h:ZaS L nx=true) (hi:L[i]?=some x) (hid:x'.id=x.id) (hok:okE x' nx=true):ZaS (L.set i x') nx=true:=by
 obtain ⟨h1,h2,h3⟩:=ZaZ.1 h
 exact ZaZ.2 ⟨by rw [List.length_set]; exact h1,h2,validG_set hid hok h3 hi⟩
theorem Ze6 {L:List Sess} {nx:Nat} {x:Sess} (h:ZaS L nx=true) (hx:x∈L):okE x nx=true:=(validG_mem (ZaZ.1 h).2.2 x hx).2
theorem okE_open {x x':Sess} {nx:Nat} (h:okE x nx=true) (h1:x'.id=x.id) (h2:x'.user=x.user) (h3:x'.level=x.level) (h4:0≤x'.last∧x'.last≤17179869184) (h5:x'.opn=true):okE x' nx=true:=by
 unfold okE at h ⊢
 rw [h1,h2,h3,h5]
 simp only [Bool.and_eq_true,decide_eq_true_eq,Bool.true_or] at h ⊢
 exact ⟨h.1,h.2.1,h.2.2.1,h4,trivial⟩
theorem Ze2 {now:Int}:ZcR now=true↔0≤now∧now≤17179869184:=by unfold ZcR; simp
theorem keyOf_len {U:List Usr} (hU:∀ u∈U,u.Ok) (s:List UInt8):(Zdh U s).length=16:=by
 unfold Zdh
 cases h:U.find? (ZbR s) with
 | none=>rfl
 | some u=>exact (hU u (List.mem_of_find?_eq_some h)).key
structure ZbQ (L:List Sess) (nx:Nat):Prop where
 ok:ZaE L
 val:ZaS L nx=true
 nx:nx < 4294967296
theorem ZbQ.exp {L:List Sess} {nx:Nat} {now:Int} (h:ZbQ L nx):ZbQ (expF L nx now) nx:=⟨ZcP h.ok,validF_exp h.val,h.nx⟩
theorem ZbQ.set_ {L:List Sess} {nx i:Nat} {x x':Sess} (h:ZbQ L nx) (hi:L[i]?=some x) (hid:x'.id=x.id) (hok:okE x' nx=true) (hx:x'.Ok):ZbQ (L.set i x') nx :=
 ⟨fun y hy=>by
  rcases List.mem_or_eq_of_mem_set hy with hy | rfl
  · exact h.ok y hy
  · exact hx,validF_set h.val hi hid hok,h.nx⟩
theorem ZbQ.hello {L:List Sess} {nx:Nat} {U:List Usr} {C:List Chn} {ch:Int} {b:List UInt8} {nonce:Nat} {now:Int} (h:ZbQ L nx) (hU:∀ u∈U,u.Ok) (hno:nonce < 18446744073709551616) {r:SRes} (hr:ZbI L nx U C ch b nonce now=r) (h0:r.code=0) :
  ZbQ r.L r.nx∧r.bs=ZdZ nx nonce∧r.L=expF L nx now++[newS U b nonce nx now]∧r.nx=nx+1∧(limF U C (b.drop 10) ch).2=0∧((b.getD 9 0).toNat:Int)≤(limF U C (b.drop 10) ch).1∧ZcW b=true:=by
 subst hr
 unfold ZbI at h0 ⊢
 rw [h.val] at h0 ⊢
 rw [if_neg (by simp)] at h0 ⊢
 by_cases ht:ZcR now=false
 · rw [if_pos ht] at h0; exact absurd h0 (by decide)
 rw [if_neg ht] at h0 ⊢
 by_cases hf:ZcW b=false
 · rw [if_pos hf] at h0; exact absurd h0 (by decide)
 rw [if_neg hf] at h0 ⊢
 by_cases hl:(limF U C (b.drop 10) ch).2≠0
 · rw [if_pos hl] at h0; exact absurd h0 hl
 rw [if_neg hl] at h0 ⊢
 by_cases hp:(limF U C (b.drop 10) ch).1 < ((b.getD 9 0).toNat:Int)
 · rw [if_pos hp] at h0; exact absurd h0 (by decide)
 rw [if_neg hp] at h0 ⊢
 by_cases hc:4≤(expF L nx now).length∨nx=4294967295
 · rw [if_pos hc] at h0; exact absurd h0 (by decide)
 rw [if_neg hc]
 simp only [Bool.not_eq_false] at ht hf
 have hnx:=h.nx
 have hfl:=Zcy hf
 obtain ⟨t0,t1⟩:=Ze2.1 ht
 obtain ⟨v1,v2,v3⟩:=ZaZ.1 (validF_exp (now:=now) h.val)
 have hff:=hf
 unfold ZcW at hff
 simp only [Bool.and_eq_true,decide_eq_true_eq] at hff
 refine ⟨⟨own_snoc_ok (ZcP h.ok) ⟨hnx,by show (b.drop 10).length≤maxLen; unfold maxLen; rw [List.length_drop]; omega,Zez _ (by simp; omega),hno,keyOf_len hU _,by show 0 < 4294967296; omega,by show 0 < 4294967296; omega,by show 0 < 4294967296; omega⟩,?_,by show nx+1 < 4294967296; omega⟩,rfl,rfl,rfl,by simpa using hl,by omega,hf⟩
 refine ZaZ.2 ⟨by rw [List.length_append]; show _+1≤4; omega,by show 1≤nx+1; omega,Zfp (Nat.le_succ nx) (Nat.le_refl _) ?_ (Nat.lt_of_lt_of_le Nat.zero_lt_one v2) v3⟩
 show okE (newS U b nonce nx now) (nx+1)=true
 unfold okE newS
 simp only [Bool.and_eq_true,decide_eq_true_eq]
 exact ⟨by omega,hff.2.2.2,hff.2.2.1,⟨t0,t1⟩,by simp⟩
theorem Zd1 {p:Sess→Bool} {L:List Sess} {i:Nat} {x:Sess} (h:Zcs p L 0=some (i,x)):L[i]?=some x∧p x=true:=by
 rcases Za8 p L 0 with ⟨_,e⟩ | ⟨j,y,_,e,h1,h2⟩
 · rw [e] at h; cases h
 ·rw [e,Nat.zero_add] at h
  injection h with h
  injection h with h3 h4
  subst h3 h4
  exact ⟨h1,h2⟩
theorem okE_parts {x:Sess} {nx:Nat} (h:okE x nx=true):x.id < nx∧ZbC x.user=true∧(1≤x.level∧x.level≤3)∧(0≤x.last∧x.last≤17179869184):=by
 unfold okE at h
 simp only [Bool.and_eq_true,decide_eq_true_eq] at h
 exact ⟨h.1,h.2.1,h.2.2.1,h.2.2.2.1⟩
theorem ZbQ.proof {L:List Sess} {nx:Nat} {b:List UInt8} {now:Int} (h:ZbQ L nx) {r:SRes} (hr:ZbN L nx b now=r) (h0:r.code=0) :
  ZbQ r.L r.nx∧r.bs.length=13∧r.nx=nx∧ZcR now=true∧∃ i x,(expF L nx now)[i]?=some x∧r.L=(expF L nx now).set i (ZeI x now):=by
 subst hr
 unfold ZbN at h0 ⊢
 rw [h.val] at h0 ⊢
 rw [if_neg (by simp)] at h0 ⊢
 by_cases ht:ZcR now=false
 · rw [if_pos ht] at h0; exact absurd h0 (by decide)
 rw [if_neg ht] at h0 ⊢
 by_cases hf:¬ (b.length=13∧b[0]?=some 3)
 · rw [if_pos hf] at h0; exact absurd h0 (by decide)
 rw [if_neg hf] at h0 ⊢
 simp only [Bool.not_eq_false] at ht
 obtain ⟨t0,t1⟩:=Ze2.1 ht
 cases he:Zcs (idP (leW ((b.drop 1).take 4))) (expF L nx now) 0 with
 | none=>rw [he] at h0; dsimp only at h0; exact absurd h0 (by decide)
 |some q =>
  obtain ⟨i,x⟩:=q
  rw [he] at h0
  dsimp only at h0 ⊢
  by_cases ho:x.opn=true
  · rw [if_pos ho] at h0; exact absurd h0 (by decide)
  rw [if_neg ho] at h0 ⊢
  by_cases hd:decide (b=ZbB 3 x.key x.id x.client x.server (levB x.level))=false
  · rw [if_pos hd] at h0; exact absurd h0 (by decide)
  rw [if_neg hd]
  obtain ⟨hi,_⟩:=Zd1 he
  have hx:=h.exp (now:=now)
  have hm:=List.mem_of_getElem? hi
  have hxo:=hx.ok x hm
  exact ⟨hx.set_ hi rfl (okE_open (Ze6 hx.val hm) rfl rfl rfl ⟨t0,t1⟩ rfl) ⟨hxo.id,hxo.user,hxo.client,hxo.server,ZbK _ _ _ _,hxo.hi,hxo.se,hxo.out⟩,ZbY _ _ _ _ _ _,rfl,ht,i,x,hi,rfl⟩
theorem ZbQ.recv {L:List Sess} {nx:Nat} {b:List UInt8} {now:Int} (h:ZbQ L nx) {r:RRes} (hr:Zcj L nx b now=r) (h0:r.e=0):ZbQ r.L r.nx:=by
 subst hr
 unfold Zcj at h0 ⊢
 rw [h.val] at h0 ⊢
 rw [if_neg (by simp)] at h0 ⊢
 by_cases ht:ZcR now=false
 · rw [if_pos ht] at h0; exact absurd h0 (by decide)
 rw [if_neg ht] at h0 ⊢
 by_cases hf:Zcv 5 b=false
 · rw [if_pos hf] at h0; exact absurd h0 (by decide)
 rw [if_neg hf] at h0 ⊢
 by_cases hk:Zb6 (Zay b).kb=false
 · rw [if_pos hk] at h0; exact absurd h0 (by decide)
 rw [if_neg hk] at h0 ⊢
 simp only [Bool.not_eq_false] at ht
 obtain ⟨t0,t1⟩:=Ze2.1 ht
 cases he:Zcs (idP (Zay b).id) (expF L nx now) 0 with
 | none=>rw [he] at h0; dsimp only at h0; exact absurd h0 (by decide)
 |some q =>
  obtain ⟨i,x⟩:=q
  rw [he] at h0
  dsimp only at h0 ⊢
  by_cases ho:x.opn=false
  · rw [if_pos ho] at h0; exact absurd h0 (by decide)
  rw [if_neg ho] at h0 ⊢
  by_cases hd:genF x.key b=false
  · rw [if_pos hd] at h0; exact absurd h0 (by decide)
  rw [if_neg hd] at h0 ⊢
  by_cases hs:(ZbS x.hi x.se (Zay b).n).2.2≠0
  · rw [if_pos hs] at h0; exact absurd h0 hs
  rw [if_neg hs]
  obtain ⟨hi,_⟩:=Zd1 he
  have hx:=h.exp (now:=now)
  have hm:=List.mem_of_getElem? hi
  have hxo:=hx.ok x hm
  obtain ⟨s1,s2⟩:=Zdr _ _ _ hxo.hi hxo.se (leW4 b 5)
  exact hx.set_ hi rfl (okE_open (Ze6 hx.val hm) rfl rfl rfl ⟨t0,t1⟩ (by show x.opn=true; simpa using ho)) ⟨hxo.id,hxo.user,hxo.client,hxo.server,hxo.key,s1,s2,hxo.out⟩
theorem ZbQ.send {L:List Sess} {nx id:Nat} {kb:UInt8} {data:List UInt8} (h:ZbQ L nx) {r:SRes} (hr:Zc5 L nx id kb data=r) (h0:r.code=0):ZbQ r.L r.nx∧r.bs.length=data.length+18:=by
 subst hr
 unfold Zc5 at h0 ⊢
 rw [h.val] at h0 ⊢
 rw [if_neg (by simp)] at h0 ⊢
 cases he:Zcs (idP id) L 0 with
 | none=>rw [he] at h0; dsimp only at h0; exact absurd h0 (by decide)
 |some q =>
  obtain ⟨i,x⟩:=q
  rw [he] at h0
  dsimp only at h0 ⊢
  by_cases ho:x.opn=false
  · rw [if_pos ho] at h0; exact absurd h0 (by decide)
  rw [if_neg ho] at h0 ⊢
  by_cases hd:Zb6 kb=false
  · rw [if_pos hd] at h0; exact absurd h0 (by decide)
  rw [if_neg hd] at h0 ⊢
  by_cases hs:256 < data.length∨x.out=4294967295
  · rw [if_pos hs] at h0; exact absurd h0 (by decide)
  rw [if_neg hs]
  obtain ⟨hi,_⟩:=Zd1 he
  have hm:=List.mem_of_getElem? hi
  have hxo:=h.ok x hm
  have:=hxo.out
  have hv:=Ze6 h.val hm
  exact ⟨h.set_ hi rfl (okE_open hv rfl rfl rfl (okE_parts hv).2.2.2 (by show x.opn=true; simpa using ho)) ⟨hxo.id,hxo.user,hxo.client,hxo.server,hxo.key,hxo.hi,hxo.se,by show x.out+1 < 4294967296; omega⟩,by show (Zb0 6 x.key id (x.out+1) kb data).length=_; rw [Zet]; omega⟩
structure Wd where
 L:List Sess
 nx:Nat
 U:List Usr
 C:List Chn
 X:List Cli
 P:List (List UInt8)
 now:Int
structure WdOk (d:Wd) (kx kp kn:Nat):Prop where
 tab:ZbQ d.L d.nx
 uok:∀ u∈d.U,u.Ok∧u.name.length≤17
 ulen:d.U.length≤8
 upos:0 < d.U.length
 clen:d.C.length≤5
 xok:∀ x∈d.X,x.Ok∧x.user.length≤17
 xlen:d.X.length≤kx
 pok:∀ p∈d.P,0 < p.length∧p.length≤300
 plen:d.P.length≤kp
 now0:0≤d.now
 now1:d.now≤200*(kn:Int)
def WdRow (t:TypeId):Bool:=t==50 || (t==52 || (t==54 || (t==65 || (t==22 || t==5))))
structure WdM (w:World) (base:Nat) (d:Wd) (vs vu vc vx vp:Value) (V:List Value):Prop where
 s:w.ownsRow base 50 26 vs d.L.length (Zat d.L)
 u:w.ownsRow base 52 19 vu d.U.length (d.U.flatMap Usr.cs)
 c:w.ownsRow base 54 2 vc d.C.length (d.C.flatMap Chn.cs)
 x:w.ownsRow base 65 41 vx d.X.length (d.X.flatMap Cli.cs)
 p:w.ownsRow base 22 1 vp d.P.length V
 q:Zc4 w base V d.P
def ZaQ (d:Wd) (vs vu vc vx vp:Value):Array Value:=#[vs,.int .u32 (d.nx:Int),vu,vc,vx,vp,.int .i64 d.now]
structure WdAt (w:World) (base gw:Nat) (d:Wd) (vs vu vc vx vp:Value) (V:List Value):Prop where
 blk:Blk w gw 37 (ZaQ d vs vu vc vx vp)
 m:WdM w base d vs vu vc vx vp V
section
variable {w w':World} {base B g gw:Nat} {d:Wd} {vs vu vc vx vp:Value} {V:List Value}
theorem WdM.below (h:WdM w base d vs vu vc vx vp V) (hb:Below w.heap.size w w'):WdM w' base d vs vu vc vx vp V :=
 ⟨Zam h.s hb,Zam h.u hb,Zam h.c hb,Zam h.x hb,Zam h.p hb,h.q.below hb⟩
theorem Zc4.kept_ {row:Option Nat} {L:List (List UInt8)} (h:Zc4 w base V L) (hg:w.grownBy w' row) (hne:∀ v n xs,w.ownsRow base 5 1 v n xs→v.ownBlock=none∨v.ownBlock≠row):Zc4 w' base V L :=
 ⟨h.1,fun k l hl=>by
  obtain ⟨v,h3,h4⟩:=h.2 k l hl
  exact ⟨v,h3,h4.kept hg (hne _ _ _ h4)⟩⟩
theorem WdM.stored {q:Nat} {t:TypeId} {cs:Array Value} (h:WdM w base d vs vu vc vx vp V) (hq:Blk w q t cs) (hb:w.grownBy w' (some q)) (ht:WdRow t=false):WdM w' base d vs vu vc vx vp V:=by
 unfold WdRow at ht
 simp only [Bool.or_eq_false_iff,beq_eq_false_iff_ne] at ht
 obtain ⟨t1,t2,t3,t4,t5,t6⟩:=ht
 exact ⟨Zap h.s hb (Zad h.s hq t1.symm),Zap h.u hb (Zad h.u hq t2.symm),Zap h.c hb (Zad h.c hq t3.symm),Zap h.x hb (Zad h.x hq t4.symm),Zap h.p hb (Zad h.p hq t5.symm),
  h.q.kept_ hb fun v n xs ho=>.inr (Zad ho hq t6.symm)⟩
theorem Zaq.blk_ (h:Zaq w B g) :∃cs,Blk w g 87 cs:=by
 obtain ⟨A,m,c,bs,at_,h⟩:=h
 exact ⟨_,h.1⟩
theorem WdM.cj (h:WdM w base d vs vu vc vx vp V) (hc:Zaq w B g) (hb:w.grownBy w' (some g)):WdM w' base d vs vu vc vx vp V:=by
 obtain ⟨cs,hq⟩:=hc.blk_
 exact h.stored hq hb (by decide)
theorem WdAt.cj (h:WdAt w base gw d vs vu vc vx vp V) (hc:Zaq w B g) (hb:w.grownBy w' (some g)):WdAt w' base gw d vs vu vc vx vp V :=
 ⟨h.blk.grown hb (fun e=>ZbG hc h.blk (by decide) (by injection e)),h.m.cj hc hb⟩
theorem WdAt.below (h:WdAt w base gw d vs vu vc vx vp V) (hb:Below w.heap.size w w'):WdAt w' base gw d vs vu vc vx vp V:=⟨h.blk.below hb h.blk.lt,h.m.below hb⟩
theorem WdAt.stored {q:Nat} {t:TypeId} {cs:Array Value} (h:WdAt w base gw d vs vu vc vx vp V) (hq:Blk w q t cs) (hb:w.grownBy w' (some q)) (ht:WdRow t=false) (hne:t≠37):WdAt w' base gw d vs vu vc vx vp V :=
 ⟨h.blk.grown hb (fun e=>h.blk.ne_ hq hne.symm (by injection e)),h.m.stored hq hb ht⟩
theorem WdAt.put {vs' vu' vc' vx' vp':Value} {d':Wd} {V':List Value} (h:WdAt w base gw d vs vu vc vx vp V) (hb:Blk w' gw 37 (ZaQ d' vs' vu' vc' vx' vp')) (hg:w.grownBy w' (some gw)) (hm:WdM w base d' vs' vu' vc' vx' vp' V'):WdAt w' base gw d' vs' vu' vc' vx' vp' V' :=
 ⟨hb,hm.stored h.blk hg (by decide)⟩
theorem WdM.putX {vx':Value} {X':List Cli} (h:WdM w base d vs vu vc vx vp V) (hg:w.grownBy w' vx.ownBlock) (hx:w'.ownsRow base 65 41 vx' X'.length (X'.flatMap Cli.cs)):WdM w' base { d with X:=X' } vs vu vc vx' vp V :=
 ⟨h.s.kept hg (Za9 h.s h.x (by decide)),h.u.kept hg (Za9 h.u h.x (by decide)),h.c.kept hg (Za9 h.c h.x (by decide)),hx,h.p.kept hg (Za9 h.p h.x (by decide)),h.q.kept hg h.x (by decide)⟩
theorem WdM.pushP {vp' v:Value} {bs:List UInt8} (h:WdM w base d vs vu vc vx vp V) (hg:w.grownBy w' vp.ownBlock) (hp:w'.ownsRow base 22 1 vp' (d.P.length+1) (V++[v])) (hv:w.ownsRow base 5 1 v bs.length (bsV bs)):WdM w' base { d with P:=d.P++[bs] } vs vu vc vx vp' (V++[v]) :=
 ⟨h.s.kept hg (Za9 h.s h.p (by decide)),h.u.kept hg (Za9 h.u h.p (by decide)),h.c.kept hg (Za9 h.c h.p (by decide)),h.x.kept hg (Za9 h.x h.p (by decide)),by show w'.ownsRow base _ 1 vp' (d.P++[bs]).length _; rw [List.length_append]; exact hp,(h.q.kept hg h.p (by decide)).push (hv.kept hg (Za9 hv h.p (by decide)))⟩
theorem WdAt.gt (h:WdAt w base gw d vs vu vc vx vp V):gw < w.heap.size:=h.blk.lt
end
theorem WdM.setS {w:World} {base:Nat} {d:Wd} {vs vu vc vx vp vs':Value} {V:List Value} {L':List Sess} {nx':Nat} (h:WdM w base d vs vu vc vx vp V) (hs:w.ownsRow base 50 26 vs' L'.length (Zat L')):WdM w base { d with L:=L',nx:=nx' } vs' vu vc vx vp V:=⟨hs,h.u,h.c,h.x,h.p,h.q⟩
theorem WdM.setT {w:World} {base:Nat} {d:Wd} {vs vu vc vx vp:Value} {V:List Value} {t:Int} (h:WdM w base d vs vu vc vx vp V):WdM w base { d with now:=t } vs vu vc vx vp V:=⟨h.s,h.u,h.c,h.x,h.p,h.q⟩
def KB (w w':World) (gw:Nat):Prop:=∀ j t cs,Blk w j t cs→j≠gw→t≠22→Blk w' j t cs
theorem info_p:(Tryz.prog.info? 22).map (fun i=>(i.zero,i.size,i.bytes))=some (some (.slice none 0 0),1,24):=by kernel_rfl
theorem run_slice_p (w:World) (A:Option Addr) (n c:Nat):(Instr.buildSlice 35 1 #[(0,.slice A n c)]).run Tryz.prog w=.ok (.slice (some ⟨w.heap.size,0,none⟩) 1 1) (w.alloc (.cells #[.slice A n c] 22)):=by kernel_rfl
def AddP (w:World) (base gw:Nat) (d:Wd) (vs vu vc vx:Value) (bs:List UInt8) (e:Ending) (w':World):Prop :=
 e=.returned (.tuple #[])∧∃ vp' V',WdAt w' base gw { d with P:=d.P++[bs] } vs vu vc vx vp' V'∧Below base w w'∧KB w w' gw
set_option maxRecDepth 100000 in
set_option maxHeartbeats 1000000 in
theorem add_cx (w:World) (base gw:Nat) (d:Wd) (vs vu vc vx vp:Value) (V:List Value) (h:WdAt w base gw d vs vu vc vx vp V) (hbw:base≤gw) (hP:d.P.length≤1000) (v:Value) (bs:List UInt8) (hv:w.ownsRow base 5 1 v bs.length (bsV bs)) :
  Calls Tryz.prog 91 #[.pointer (some ⟨gw,0,none⟩),v] w (AddP w base gw d vs vu vc vx bs):=by
 obtain ⟨A,c,hve,_,_⟩:=Zac hv
 subst hve
 have hgw:=h.gt
 have c5:w.cell? ⟨gw,5,none⟩=some vp:=h.blk.cell 5
 obtain ⟨W,hW⟩ :∃W,w.alloc (.cells #[.slice A bs.length c] 22)=W:=⟨_,rfl⟩
 have hbl:Below w.heap.size w W:=hW ▸ (Below.refl _ _).alloc (Nat.le_refl _) _
 have hQ:Blk W w.heap.size 22 [Value.slice A bs.length c].toArray:=hW ▸ Blk.new w _ _
 have HA:=jd (h.below hbl)
 have HV:=jd (Zam hv hbl)
 have hp1:Below base w W:=hbl.mono (by omega)
 have HR:=jd (Zaj.of_new hQ rfl)
 have hsz:=hbl.size
 have HKB:Hid (KB w W gw):=jd (fun j t cs hj _ _=>hj.below hbl hj.lt)
 have HBW:=jd hp1
 obtain ⟨i0,hi,hz0,hz1,hz2⟩:=info_parts info_p
 clear h hv hbl hQ hp1
 go_enter Tryz.func91,Tryz.ntmps91
 go_wp2_with (first
  | (refine ZaD rfl 35 1 _ rfl [(0,.slice A bs.length c)] rfl _ _ (run_slice_p w A bs.length c) ?_; rw [hW]; clear hW)
  |(at_builtin; refine ZaM W rfl (.tmp 8) (.tmp 10) 35 rfl base 22 i0 _ 1 24 Tryz.underlying35 hi hz0 hz1 hz2 rfl (by omega) vp d.P.length V rfl (uh HA).m.p _ (some ⟨w.heap.size,0,none⟩) 1 1 [.slice A bs.length c] rfl (uh HR) (one1 rfl) (by unfold maxLen; omega) (by omega) (by omega) ?_
    intro v1 w1 ho1 hg1 _
    obtain ⟨A1,c1,hv1,_,_⟩:=Zac ho1
    subst hv1
    have hne:some gw≠vp.ownBlock:=(Zad (uh HA).m.p (uh HA).blk (by decide)).symm
    have HM:=jd ((uh HA).m.pushP hg1 ho1 (uh HV))
    have HB:=jd ((uh HA).blk.grown hg1 hne)
    have HBW1:=jd ((uh HBW).grown hg1 (by omega) (fun j hj=>Zaw (uh HA).m.p j hj))
    have HKB1:Hid (KB w w1 gw):=jd (fun j t cs hj hjg ht=>by
     have hj2:=(uh HKB) j t cs hj hjg ht
     exact hj2.grown hg1 (Zad (uh HA).m.p hj2 ht.symm).symm)
    have hs1:W.heap.size≤w1.heap.size:=hg1.size
    clear ho1 hg1 hne)
  |(refine Zal rfl 35 (.tmp 13) (.tmp 11) rfl gw 5 37 _ (.slice A1 (d.P.length+1) c1) [.slice A1 (d.P.length+1) c1] [vs,.int .u32 (d.nx:Int),vu,vc,vx,.slice A1 (d.P.length+1) c1,.int .i64 d.now] rfl rfl (uh HB) rfl (by simp [ZaQ]) (by kernel_rfl) (one1 rfl) rfl ?_
    intro w2 hb2 hg2
    have HF:Hid (WdAt w2 base gw { d with P:=d.P++[bs] } vs vu vc vx (.slice A1 (d.P.length+1) c1) _):=jd ⟨hb2,(uh HM).stored (uh HB) hg2 (by decide)⟩
    have HBW2:=jd ((uh HBW1).grown hg2 (by omega) (fun j hj=>by injection hj with hj; omega))
    have HKB2:Hid (KB w w2 gw):=jd (fun j t cs hj hjg ht=>((uh HKB1) j t cs hj hjg ht).grown hg2 (fun e=>hjg (by injection e)))
    clear hb2 hg2)
  | fail)
 go_end0
 exact ⟨rfl,_,_,uh HF,uh HBW2,uh HKB2⟩
theorem own_set {w:World} {base n:Nat} {g c:Nat} {bs:List UInt8} (h:w.ownsRow base 5 1 (.slice (some ⟨g,0,none⟩) n c) n (bsV bs)) (k:Nat) (b:UInt8):(w.setCell ⟨g,k,none⟩ (.int .u8 (b.toNat:Int))).ownsRow base 5 1 (.slice (some ⟨g,0,none⟩) n c) n (bsV (bs.set k b)):=by
 refine ⟨by simpa [bsV] using h.1,?_⟩
 rcases h.2 with ⟨h0,_⟩ | ⟨g',cap,cur,hv,hb,hh,hn,hm,hs,hx⟩
 · simp at h0
 ·injection hv with h1 _ h2
  injection h1 with h1
  injection h1 with h1
  subst h1 h2
  refine .inr ⟨g,c,cur.setIfInBounds k (.int .u8 (b.toNat:Int)),rfl,hb,?_,hn,hm,by simpa using hs,?_⟩
  · simp [World.setCell,Array.getElem?_modify,hh]
  ·rw [Array.toList_setIfInBounds,List.take_set,hx]
   simp [bsV,List.map_set]
theorem own_at {w:World} {base n:Nat} {e:TypeId} {v:Value} {xs:List Value} (h:w.ownsRow base e 1 v n xs) (hn:0 < n) :∃g c cs,v=.slice (some ⟨g,0,none⟩) n c∧base≤g∧Blk w g e cs∧∀ (k:Nat) (x:Value),xs[k]?=some x→cs[k]?=some x:=by
 rcases h.2 with ⟨_,h0⟩ | ⟨g,cap,cur,hv,hb,hh,hc,hm,hs,hx⟩
 · omega
 ·refine ⟨g,cap,cur,hv,hb,hh,fun k x hk=>?_⟩
  rw [← hx,List.getElem?_take] at hk
  split at hk
  · simpa using hk
  · cases hk
def PickP (w:World) (B g:Nat) (e:Ending) (w':World):Prop :=
 ∃ v bs,e=.returned v∧0 < bs.length∧bs.length≤300∧w'.ownsRow w.heap.size 5 1 v bs.length (bsV bs)∧CJ w B g w'
theorem own_new1 (w:World) (base:Nat) (b:UInt8) (hb:base≤w.heap.size):(w.alloc (.cells #[.int .u8 (b.toNat:Int)] 5)).ownsRow base 5 1 (.slice (some ⟨w.heap.size,0,none⟩) 1 1) 1 (bsV [b]) :=
 ⟨rfl,.inr ⟨w.heap.size,1,_,rfl,hb,heap_alloc_new w _,by omega,by unfold maxLen; omega,rfl,rfl⟩⟩
set_option maxRecDepth 100000 in
set_option maxHeartbeats 4000000 in
theorem ZdV (w:World) (B g base gw:Nat) (d:Wd) (vs vu vc vx vp:Value) (V:List Value) (hc:Zaq w B g) (h:WdAt w base gw d vs vu vc vx vp V) (hpok:∀ p∈d.P,0 < p.length∧p.length≤300) (hpl:d.P.length≤1000) :
  Calls Tryz.prog 22 #[.pointer (some ⟨gw,0,none⟩),.pointer (some ⟨g,0,none⟩)] w (PickP w B g):=by
 have hgl:=hc.lt
 have hgw:=h.gt
 have hpv:=h.m.p
 obtain ⟨A,c,hve,_,_⟩:=Zac hpv
 subst hve
 clear hpv
 have HH:=jd h
 have HC:=jd hc
 have HPOK:=jd hpok
 have hCELL:∀ wz,CJ w B g wz→wz.cell? ⟨gw,5,none⟩=some (.slice A d.P.length c):=fun wz hz=>(hz.blk (uh HH).blk (ZbG (uh HC) (uh HH).blk (by decide))).cell 5
 have HCELL:=jd hCELL
 have c5:=hCELL w (CJ.start (uh HC))
 obtain ⟨i0,hi,hz0,hz1,hz2⟩:=info_parts ZcF
 clear h hc hpok hCELL
 by_cases h0:d.P.length=0
 ·have e0:((d.P.length:Int)==0)=true:=by simp [h0]
  have HJ:=jd (CJ.start (uh HC):CJ w B g w)
  clear h0
  go_enter Tryz.func22,Tryz.ntmps22
  go_upto_region 2 with fail
  clear c5 e0
  go_wp2_with fail
  refine (Zav w B g 8 (uh HJ).2 (by decide) (by decide)).mono ?_
  rintro e w2 ⟨r2,rfl,hr20,hr21,hc2,hg2⟩
  have HJ2:=jd ((uh HJ).next hc2 hg2)
  obtain ⟨b,rfl⟩:=Zdv hr20 (show r2 < 256 by omega)
  have hb255:(b.toNat:Int) < 256:=by have:=b.toNat_lt; omega
  have hwb:IntKind.u8.wrap (b.toNat:Int)=(b.toNat:Int):=by rw [IntKind.wrap_u8]; omega
  obtain ⟨W3,hW3⟩ :∃W3,w2.alloc (.cells #[.int .u8 (b.toNat:Int)] 5)=W3:=⟨_,rfl⟩
  have hbl:Below w2.heap.size w2 W3:=hW3 ▸ (Below.refl _ _).alloc (Nat.le_refl _) _
  have HJ3:=jd ((uh HJ2).later hgl (hbl.mono (uh HJ2).size))
  have HO3:=jd (hW3 ▸ own_new1 w2 w.heap.size b (uh HJ2).size)
  have hs3:=(uh HJ3).size
  clear hc2 hg2 hr21 hbl
  go_wp2_with (first
   |(refine ZaD rfl 22 1 _ rfl [(0,.int .u8 (b.toNat:Int))] rfl _ _ (Za0 w2 b) ?_
     rw [hW3]
     clear hW3)
   | fail)
  refine (ZcH W3 B g 20 (uh HJ3).2 (by decide)).mono ?_
  rintro e w4 ⟨v4,bs,rfl,hbn,ho4,hj4⟩
  obtain ⟨A4,c4,hv4,_,_⟩:=Zac ho4
  subst hv4
  have HO4:=jd (Zap (uh HO3) hj4.1 (Zbi (uh HJ3).2 (uh HO3) (by decide)))
  have HJ4:=jd ((uh HJ3).next hj4.2 hj4.1)
  have HR4:=jd (Zaj.of_own ho4)
  have hs4:w.heap.size≤w4.heap.size:=(uh HJ4).size
  clear ho4 hj4
  go_wp2_with (first
   |(at_builtin; refine ZaM w4 rfl (.tmp 20) (.tmp 22) 22 rfl w.heap.size 5 i0 _ 1 1 Tryz.underlying22 hi hz0 hz1 hz2 rfl (by omega) _ 1 (bsV [b]) rfl (uh HO4) _ A4 bs.length c4 (bsV bs) rfl (uh HR4) (ZaL bs) (by unfold maxLen; omega) (by omega) hs4 ?_
     intro v5 w5 ho5 hg5 _
     have HO5:=jd ho5
     have HJ5:=jd ((uh HJ4).later hgl ((Below.refl _ _).grown hg5 hs4 (fun j hj=>Zaw (uh HO4) j hj)))
     clear ho5 hg5)
   | fail)
  go_ret
  exact ⟨_,b::bs,rfl,by simp,by simp; omega,by have h:=uh HO5; rw [Nat.add_comm 1] at h; simpa [bsV] using h,uh HJ5⟩
 ·have e0:((d.P.length:Int)==0)=false:=by simp [h0]
  have hpos:0 < d.P.length:=by omega
  have HJ:=jd (CJ.start (uh HC):CJ w B g w)
  clear h0
  go_enter Tryz.func22,Tryz.ntmps22
  go_wp2_with fail
  refine (Zav w B g 8 (uh HJ).2 (by decide) (by decide)).mono ?_
  rintro e w1 ⟨r,rfl,hr0,hr1,hc1,hg1⟩
  have HJ1:=jd ((uh HJ).next hc1 hg1)
  clear hc1 hg1 HJ
  by_cases h7:r=7
  ·have e7:(r==7)=true:=by simp [h7]
   clear h7 hr1
   go_upto_region 2 with fail
   clear c5 e0 e7
   go_wp2_with fail
   refine (Zav w1 B g 8 (uh HJ1).2 (by decide) (by decide)).mono ?_
   rintro e w2 ⟨r2,rfl,hr20,hr21,hc2,hg2⟩
   have HJ2:=jd ((uh HJ1).next hc2 hg2)
   obtain ⟨b,rfl⟩:=Zdv hr20 (show r2 < 256 by omega)
   have hb255:(b.toNat:Int) < 256:=by have:=b.toNat_lt; omega
   have hwb:IntKind.u8.wrap (b.toNat:Int)=(b.toNat:Int):=by rw [IntKind.wrap_u8]; omega
   obtain ⟨W3,hW3⟩ :∃W3,w2.alloc (.cells #[.int .u8 (b.toNat:Int)] 5)=W3:=⟨_,rfl⟩
   have hbl:Below w2.heap.size w2 W3:=hW3 ▸ (Below.refl _ _).alloc (Nat.le_refl _) _
   have HJ3:=jd ((uh HJ2).later hgl (hbl.mono (uh HJ2).size))
   have HO3:=jd (hW3 ▸ own_new1 w2 w.heap.size b (uh HJ2).size)
   have hs3:=(uh HJ3).size
   clear hc2 hg2 hr21 hbl
   go_wp2_with (first
    |(refine ZaD rfl 22 1 _ rfl [(0,.int .u8 (b.toNat:Int))] rfl _ _ (Za0 w2 b) ?_
      rw [hW3]
      clear hW3)
    | fail)
   refine (ZcH W3 B g 20 (uh HJ3).2 (by decide)).mono ?_
   rintro e w4 ⟨v4,bs,rfl,hbn,ho4,hj4⟩
   obtain ⟨A4,c4,hv4,_,_⟩:=Zac ho4
   subst hv4
   have HO4:=jd (Zap (uh HO3) hj4.1 (Zbi (uh HJ3).2 (uh HO3) (by decide)))
   have HJ4:=jd ((uh HJ3).next hj4.2 hj4.1)
   have HR4:=jd (Zaj.of_own ho4)
   have hs4:w.heap.size≤w4.heap.size:=(uh HJ4).size
   clear ho4 hj4
   go_wp2_with (first
    |(at_builtin; refine ZaM w4 rfl (.tmp 20) (.tmp 22) 22 rfl w.heap.size 5 i0 _ 1 1 Tryz.underlying22 hi hz0 hz1 hz2 rfl (by omega) _ 1 (bsV [b]) rfl (uh HO4) _ A4 bs.length c4 (bsV bs) rfl (uh HR4) (ZaL bs) (by unfold maxLen; omega) (by omega) hs4 ?_
      intro v5 w5 ho5 hg5 _
      have HO5:=jd ho5
      have HJ5:=jd ((uh HJ4).later hgl ((Below.refl _ _).grown hg5 hs4 (fun j hj=>Zaw (uh HO4) j hj)))
      clear ho5 hg5)
    | fail)
   go_ret
   exact ⟨_,b::bs,rfl,by simp,by simp; omega,by have h:=uh HO5; rw [Nat.add_comm 1] at h; simpa [bsV] using h,uh HJ5⟩
  ·have e7:(r==7)=false:=by simp [h7]
   clear h7 hr1
   go_upto_region 3 with fail
   clear c5 e0 e7
   obtain ⟨gp,cp,csp,hvp,hgp,hbp,hcp⟩:=own_at (uh HH).m.p hpos
   injection hvp with hA _ hcc
   subst hA hcc
   have HBP:=jd hbp
   have HCP:=jd hcp
   have hneg:gp≠g:=ZbG (uh HC) hbp (by decide)
   have HJW:=jd ((CJ.start (uh HJ1).2:CJ w1 B g w1).drew)
   have HCELL1:Hid (∀ wz,CJ w1 B g wz→wz.cell? ⟨gw,5,none⟩=some (.slice (some ⟨gp,0,none⟩) d.P.length c)):=jd (fun wz hz=>(uh HCELL) wz ((uh HJ1).next hz.2 hz.1))
   have EGN:=jd (ZaO Tryz.func18 (by kernel_rfl) rfl)
   have hl1:(1:Int)≤(d.P.length:Int):=by omega
   have hl2:(d.P.length:Int)≤1000:=by omega
   obtain ⟨m6,hm6⟩ :∃m6:Int,m6=if (6:Int) < (d.P.length:Int) then 6 else (d.P.length:Int):=⟨_,rfl⟩
   have hm6b:m6≤(d.P.length:Int)∧1≤m6∧m6≤6:=by rw [hm6]; split<;>omega
   have HM6:=jd hm6
   have hs1:=(uh HJ1).size
   clear hbp hcp hgp hm6
   have hmin:(if (6:Int) < (d.P.length:Int) then 6 else (d.P.length:Int))=m6:=(uh HM6).symm
   have hS0:CJ w1 B g w1.drew:=uh HJW
   refine wp_region_noPanic (wp_region_held_drew (S:=fun wz=>CJ w1 B g wz) (by kernel_rfl) hS0 (fun _=>?_))
   refine tq 0 rfl hS0 ?_
   refine tq 1 rfl hS0 ?_
   refine tq 2 rfl hS0 ?_
   refine tJz (v:=.slice (some ⟨gp,0,none⟩) d.P.length c) 3 rfl (Or.inl ⟨by rfl,fun wz hSw=>?_⟩) hS0 ?_
   ·have hq:=uh HCELL1 wz hSw
    go_simp
   refine tq 4 rfl hS0 ?_
   refine tq 5 rfl hS0 ?_
   refine tq 6 rfl hS0 ?_
   refine tJz (v:=.slice (some ⟨gp,0,none⟩) d.P.length c) 7 rfl (Or.inl ⟨by rfl,fun wz hSw=>?_⟩) hS0 ?_
   ·have hq:=uh HCELL1 wz hSw
    go_simp
   refine tq 8 rfl hS0 ?_
   refine tq 9 rfl hS0 ?_
   refine tq 10 rfl hS0 ?_
   refine tq 11 rfl hS0 ?_
   refine tq 12 rfl hS0 ?_
   refine tq 13 rfl hS0 ?_
   refine tJz (v:=.slice (some ⟨gp,0,none⟩) d.P.length c) 14 rfl (Or.inl ⟨by rfl,fun wz hSw=>?_⟩) hS0 ?_
   ·have hq:=uh HCELL1 wz hSw
    go_simp
   refine tq 15 rfl hS0 ?_
   refine tq 16 rfl hS0 ?_
   refine tCz 17 rfl fun K hK=>?_
   go_simp
   refine (Zav w1.drew B g m6 (uh HJW).2 (by omega) (by omega)).mono ?_
   rintro e w2 ⟨r2,rfl,hr20,hr21,hc2,hg2⟩
   obtain ⟨k,hk⟩ :∃k:Nat,(d.P.length:Int) - 1 - r2=(k:Int):=⟨((d.P.length:Int) - 1 - r2).toNat,by omega⟩
   have hkl:k < d.P.length:=by omega
   have hS2:CJ w1 B g w2:=(uh HJW).next hc2 hg2
   refine hK.out _ _ hS2 (fun _=>?_)
   clear hK K hmin
   try simp only [Act.put,zA,zB,zC]
   obtain ⟨bs,hbs⟩ :∃bs,d.P[k]?=some bs:=⟨_,List.getElem?_eq_getElem hkl⟩
   obtain ⟨v44,hv44,ho44⟩:=(uh HH).m.q.2 k bs hbs
   obtain ⟨A44,c44,he44,_,_⟩:=Zac ho44
   subst he44
   obtain ⟨hbp1,hbp2⟩:=uh HPOK bs (List.mem_of_getElem? hbs)
   have HX:Hid (∀ wz,CJ w1 B g wz→wz.cell? ⟨gp,k,none⟩=some (.slice A44 bs.length c44)):=jd (fun wz hz=>by
    rw [(((uh HJ1).next hz.2 hz.1).blk (uh HBP) hneg).cell]
    exact uh HCP k _ hv44)
   have HO2:=jd (Zap (Zap ho44 (uh HJ1).1 (Zbi (uh HC) ho44 (by decide))) hS2.1 (Zbi (uh HJ1).2 (Zap ho44 (uh HJ1).1 (Zbi (uh HC) ho44 (by decide))) (by decide)))
   have hk2:(k:Int) < (d.P.length:Int):=by omega
   have hw3:IntKind.i64.wrap (k:Int)=(k:Int):=IntWalk.i64_in _ (by omega)
   have hw0:IntKind.i64.wrap ((d.P.length:Int) - 1)=(d.P.length:Int) - 1:=IntWalk.i64_in _ (by omega)
   have hsz2:w.heap.size≤w2.heap.size:=Nat.le_trans (uh HJ1).size hS2.size
   have HR2:=jd (Zaj.of_own (uh HO2))
   clear hc2 hg2 hr21 hbs hv44 ho44
   refine tJz (v:=.int .i64 (k:Int)) 18 rfl (Or.inl ⟨by rfl,fun wz hSw=>?_⟩) hS2 ?_
   ·skip
    go_simp
   clear hk hw3 hw0
   refine tq 19 rfl hS2 ?_
   refine tJz (v:=.slice A44 bs.length c44) 20 rfl (Or.inl ⟨by rfl,fun wz hSw=>?_⟩) hS2 ?_
   ·have hq:=uh HX wz hSw
    go_simp
   refine tOz 21 rfl fun K hK=>?_
   refine ZaJ w2 rfl (.const (.slice none 0 0)) (.tmp 44) 22 rfl w.heap.size 5 i0 _ 1 1 Tryz.underlying22 hi hz0 hz1 hz2 rfl (by omega) (.slice none 0 0) 0 [] rfl (World.ownsRow_nil _ _ _ _) _ A44 bs.length c44 (bsV bs) rfl (uh HR2) (ZaL bs) (by unfold maxLen; omega) (by omega) hsz2 ?_
   intro v3 w3 ho3 hg3 _
   have hS3:CJ w1 B g w3:=hS2.later (by omega) ((Below.refl _ _).grown hg3 hS2.size (fun j hj=>by cases hj))
   have HO3:=jd ho3
   have HJ3:=jd ((uh HJ1).next hS3.2 hS3.1)
   clear ho3 hg3
   refine hK.out _ _ hS3 (fun _=>?_)
   clear hK K
   try simp only [Act.put,zA,zB,zC]
   refine tq 22 rfl hS3 ?_
   refine tDz ?_
   simp only [Nat.zero_add,List.nil_append] at HO3
   obtain ⟨g3,c3,cs3,hv3,hg3,_,_⟩:=own_at (uh HO3) hbp1
   subst hv3
   clear hS3 hS2 hS0 HX HO2 HR2 HM6 hm6b hsz2
   go_wp2_with fail
   refine (Zav w3 B g 8 (uh HJ3).2 (by decide) (by decide)).mono ?_
   rintro e w4 ⟨r4,rfl,hr40,hr41,hc4,hg4⟩
   have HO4:=jd (Zap (uh HO3) hg4 (Zbi (uh HJ3).2 (uh HO3) (by decide)))
   have HJ4:=jd ((uh HJ3).next hc4 hg4)
   clear hc4 hg4
   by_cases h8:r4=7
   ·have e8:(r4==7)=true:=by simp [h8]
    clear h8 hr41
    go_wp2_with fail
    clear e8
    refine (Zav w4 B g (bs.length:Int) (uh HJ4).2 (by omega) (by omega)).mono ?_
    rintro e w5 ⟨r5,rfl,hr50,hr51,hc5,hg5⟩
    obtain ⟨j,rfl⟩ :∃j:Nat,r5=(j:Int):=⟨r5.toNat,by omega⟩
    have hj:j < bs.length:=by omega
    have hj2:(j:Int) < (bs.length:Int):=by omega
    have HO5:=jd (Zap (uh HO4) hg5 (Zbi (uh HJ4).2 (uh HO4) (by decide)))
    have HJ5:=jd ((uh HJ4).next hc5 hg5)
    obtain ⟨g5,c5',cs5,hv5,hg5',hb5,hc5'⟩:=own_at (uh HO5) hbp1
    injection hv5 with hx hy hz
    injection hx with hx
    injection hx with hx _ _
    subst hx
    subst hz
    obtain ⟨b,hb⟩ :∃b,bs[j]?=some b:=⟨_,List.getElem?_eq_getElem hj⟩
    have hcell:w5.cell? ⟨g3,j,none⟩=some (.int .u8 (b.toNat:Int)):=by rw [hb5.cell]; exact hc5' j _ (by simp [bsV,hb])
    have hfro:=hb5.frozen j
    obtain ⟨b',hb'⟩ :∃b':UInt8,IntKind.u8.wrap ((b.toNat:Int)+1)=(b'.toNat:Int):=Zdv (by rw [IntKind.wrap_u8]; omega) (by rw [IntKind.wrap_u8]; omega)
    have HSET:=jd (own_set (uh HO5) j b')
    have HJ6:=jd ((uh HJ5).later hgl ((Below.refl w.heap.size w5).setCell (p:=⟨g3,j,none⟩) hg3 (.int .u8 (b'.toNat:Int))))
    have hb255:(b.toNat:Int) < 256:=by have:=b.toNat_lt; omega
    clear hc5 hg5 hr51 hb hb5 hc5'
    go_wp2_with fail
    go_ret
    exact ⟨_,bs.set j b',rfl,by simp; omega,by simp; omega,by rw [List.length_set]; exact uh HSET,uh HJ6⟩
   ·have e8:(r4==7)=false:=by simp [h8]
    clear h8 hr41
    go_wp2_with fail
    go_ret
    exact ⟨_,bs,rfl,hbp1,hbp2,uh HO4,uh HJ4⟩
section
variable {P:Program} {md:Region.Mode} {l:List Oper} {Q:Exit→Act→World→Prop} {S:World→Prop} {a0:Act} {listed0:Array Bool}
def VStep (P:Program) (md:Region.Mode) (l:List Oper) (Q:Exit→Act→World→Prop) (a0:Act) (listed0:Array Bool) (idxs:List Nat) (J:World→Prop) (T:World→World→Prop) (R:Nat→(Nat→Value)→World→Prop) (i:Nat):Prop :=
 ∀ (a:Act) (vals:Nat→Value) (w:World),J w→(∀ t,outB l idxs t=true→a.eval (.tmp t)=a0.eval (.tmp t))→(∀ k t,inB md l listed0 i k t=true→a.eval (.tmp t)=vals k∧R k vals w) →
  wpOp P l.toArray Q i (fun a' w'=>∃ v,a'=a.put ((l[i]?).bind (·.dst)) v∧J w'∧T w w'∧R i (upd vals i v) w') a w
def VSteps (P:Program) (md:Region.Mode) (l:List Oper) (Q:Exit→Act→World→Prop) (a0:Act) (listed0:Array Bool) (idxs:List Nat) (J:World→Prop) (T:World→World→Prop) (R:Nat→(Nat→Value)→World→Prop):List Nat→Prop
 | []=>True
 | i::r=>VStep P md l Q a0 listed0 idxs J T R i∧VSteps P md l Q a0 listed0 idxs J T R r
def depB (md:Region.Mode) (l:List Oper) (listed0:Array Bool) (idxs:List Nat) (D:Nat→List Nat):Bool:=idxs.all fun k=>(D k).all fun j=>(Zdk md l listed0 k).contains j
theorem any_vals (J:World→Prop) (T:World→World→Prop) (R:Nat→(Nat→Value)→World→Prop) (D:Nat→List Nat) (idxs:List Nat) (listed1:Array Bool) (ds:List (Nat × Option Tmp)) (n:Nat) {w0:World} (fuel1:Nat)
  (hplan:planB md l listed0 listed1 idxs n ds=true) (hn:a0.tmps.size=n) (hD:depB md l listed0 idxs D=true)
  (hR:∀ k v w w',R k v w→T w w'→R k v w') (hL:∀ k v v' w,(∀ j,j∈k::D k→v j=v' j)→R k v w→R k v' w) (hS:∀ w,J w→S w) (hw:J w0)
  (hst:VSteps P md l Q a0 listed0 idxs J T R idxs)
  (hend:∀ vals w,J w→(∀ k,idxs.contains k=true→R k vals w)→wpAnyH P md l.toArray Q S fuel1 listed1 (puts ds vals a0) w)
  {fuel:Nat} (hf:fuel1+idxs.length=fuel):wpAnyH P md l.toArray Q S fuel listed0 a0 w0:=by
 subst hn
 have hplan':=hplan
 unfold planB at hplan'
 simp only [Bool.and_eq_true,decide_eq_true_eq,beq_iff_eq,List.all_eq_true,Bool.not_eq_true'] at hplan'
 obtain ⟨_,hun,_,_,hnn,_,_,_,_,hsz⟩:=hplan'
 have hn:=Zce hnn
 refine Zfb (fun done vals w=>J w∧(∀ k,done k=true→R k vals w)∧∀ k,done k=true→∀ j,j∈D k→done j=true) idxs listed1 ds fuel1 hplan (fun _ _ w h=>hS w h.1) (fun vals=>⟨hw,fun k hk=>(by cases hk),fun k hk=>by cases hk⟩) ?_ (fun vals w h=>hend vals w h.1 h.2.1) hf
 have all:∀ r:List Nat,(∀ i,i∈r→i∈idxs)→VSteps P md l Q a0 listed0 idxs J T R r→ZdT P md l Q a0 listed0 idxs (fun done vals w=>J w∧(∀ k,done k=true→R k vals w)∧∀ k,done k=true→∀ j,j∈D k→done j=true) r:=by
  intro r
  induction r with
  | nil=>intro _ _; trivial
  |cons i r ih =>
   intro hir h
   refine ⟨fun done vals w hd hsub hdep hI=>?_,ih (fun j hj=>hir j (List.mem_cons_of_mem _ hj)) h.2⟩
   have hDi:∀ j,j∈D i→done j=true:=fun j hj=>by
    have h1:=List.all_eq_true.1 (List.all_eq_true.1 hD i (hir i List.mem_cons_self)) j hj
    exact hdep j h1
   refine wpOp_mono (fun a' w' hx=>?_) (h.1 (mix l 0 done vals a0) vals w hI.1 (fun t ht=>?_) (fun k t hk=>?_))
   ·obtain ⟨v,e,hb,ht,hr⟩:=hx
    refine ⟨v,e,hb,fun k hk=>?_,fun k hk j hj=>?_⟩
    ·by_cases e:k=i
     · subst e; exact hr
     ·rw [Zb5 _ _ e] at hk
      refine hL k vals _ _ (fun j hj=>?_) (hR k _ _ _ (hI.2.1 k hk) ht)
      have hdj:done j=true:=by
       rcases List.mem_cons.1 hj with rfl | hj
       · exact hk
       · exact hI.2.2 k hk j hj
      rw [Zb5 _ _ (fun e=>by rw [e,hd] at hdj; cases hdj)]
    ·have hdj:done j=true:=by
      by_cases e:k=i
      · subst e; exact hDi j hj
      · rw [Zb5 _ _ e] at hk; exact hI.2.2 k hk j hj
     by_cases e:j=i
     · subst e; exact ZaU _ _ _
     · rw [Zb5 _ _ e]; exact hdj
   ·refine ZcL _ _ _ _ _ _ (fun j o ho hdj=>?_)
    rw [Nat.zero_add] at hdj
    have:=List.all_eq_true.1 ht j (by simpa using hsub j hdj)
    rw [ho] at this
    simpa using this
   ·unfold inB at hk
    simp only [Bool.and_eq_true,beq_iff_eq] at hk
    have hdk:=hdep k hk.1
    have hki:=(hun k (by simpa using hsub k hdk)).1
    have ho:l[k]?=some l[k]:=List.getElem?_eq_getElem hki
    have hdst:l[k].dst=some t:=by have:=hk.2; rw [ho] at this; exact this
    have:=ZdU l 0 done vals a0 k l[k] t ho hdst (by simpa using hdk) hn (hsz t (ZeS ho hdst))
    rw [Nat.zero_add] at this
    exact ⟨this,hI.2.1 k hdk⟩
 exact all idxs (fun _ h=>h) hst
end
theorem fst3 {t v a b c:Value} (h :∃x y z,t=.tuple #[x,y,z]∧v=x) (ht:t=.tuple #[a,b,c]):v=a:=by
 obtain ⟨x,y,z,e,rfl⟩:=h
 rw [ht] at e
 simp at e
 exact e.1.symm
theorem snd3 {t v a b c:Value} (h :∃x y z,t=.tuple #[x,y,z]∧v=y) (ht:t=.tuple #[a,b,c]):v=b:=by
 obtain ⟨x,y,z,e,rfl⟩:=h
 rw [ht] at e
 simp at e
 exact e.2.1.symm
theorem trd3 {t v a b c:Value} (h :∃x y z,t=.tuple #[x,y,z]∧v=z) (ht:t=.tuple #[a,b,c]):v=c:=by
 obtain ⟨x,y,z,e,rfl⟩:=h
 rw [ht] at e
 simp at e
 exact e.2.2.symm
end Go.Proofs.YtfbkkmnkpjgciaaGreat
