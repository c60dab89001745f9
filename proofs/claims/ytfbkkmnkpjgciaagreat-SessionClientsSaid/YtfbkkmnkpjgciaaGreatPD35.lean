/- Joined of TStepD. No condition. -/
import Derived.Test.YtfbkkmnkpjgciaaGreatPD34
namespace Go.Proofs.YtfbkkmnkpjgciaaGreat
open Go.RowKit
def ST (w wi:World) (base B g gw:Nat) (U:List Usr) (C:List Chn) (kx kp kn:Nat) (d:Wd):Prop :=
 ∃ vs vu vc vx vp V,SI w wi base B g gw d vs vu vc vx vp V∧WdOk d kx kp kn∧d.U=U∧d.C=C
theorem ST.open_ {w wi:World} {base B g gw:Nat} {U:List Usr} {C:List Chn} {kx kp kn:Nat} {d:Wd} (h:ST w wi base B g gw U C kx kp kn d) :
  ∃ As cs Au cu Ac cc Ax cx Ap cp V,SI w wi base B g gw d (.slice As d.L.length cs) (.slice Au d.U.length cu) (.slice Ac d.C.length cc) (.slice Ax d.X.length cx) (.slice Ap d.P.length cp) V∧WdOk d kx kp kn∧d.U=U∧d.C=C:=by
 obtain ⟨vs,vu,vc,vx,vp,V,si,ok,h1,h2⟩:=h
 obtain ⟨As,cs,e1,_,_⟩:=slice_of_own si.wd.m.s
 obtain ⟨Au,cu,e2,_,_⟩:=slice_of_own si.wd.m.u
 obtain ⟨Ac,cc,e3,_,_⟩:=slice_of_own si.wd.m.c
 obtain ⟨Ax,cx,e4,_,_⟩:=slice_of_own si.wd.m.x
 obtain ⟨Ap,cp,e5,_,_⟩:=slice_of_own si.wd.m.p
 subst e1 e2 e3 e4 e5
 exact ⟨As,cs,Au,cu,Ac,cc,Ax,cx,Ap,cp,V,si,ok,h1,h2⟩
theorem world_part0 {w:World} {gw:Nat} {a b c d e f h:Value} (hb:Blk w gw 37 #[a,b,c,d,e,f,h]):w.rangeAt gw 0 [a,b]:=fun j v hv=>by
 rw [Nat.zero_add,hb.cell]
 match j,hv with
 | 0,hv=>exact hv
 | 1,hv=>exact hv
 | n+2,hv=>simp at hv
theorem world_part2 {w:World} {gw:Nat} {a b c d e f h:Value} (hb:Blk w gw 37 #[a,b,c,d,e,f,h]):w.rangeAt gw 2 [c,d]:=fun j v hv=>by
 rw [hb.cell]
 match j,hv with
 | 0,hv=>exact hv
 | 1,hv=>exact hv
 | n+2,hv=>simp at hv
theorem sessL_of {w:World} {base n c:Nat} {A:Option Addr} {L:List Sess} (h:w.ownsRow base 50 26 (.slice A n c) n (flatS L)) (hok:AllOk L):SessL w w.heap.size A n L:=SessL.of_own h hok
theorem usrL_of {w:World} {base n c:Nat} {A:Option Addr} {L:List Usr} (h:w.ownsRow base 52 19 (.slice A n c) n (L.flatMap Usr.cs)) (hok:∀ x∈L,x.Ok):UsrL w w.heap.size A n L:=RecL.of_own h hok (fun x hx=>Usr.len (hok x hx))
theorem chnL_of {w:World} {base n c:Nat} {A:Option Addr} {L:List Chn} (h:w.ownsRow base 54 2 (.slice A n c) n (L.flatMap Chn.cs)):ChnL w w.heap.size A n L:=RecL.of_own h (fun _ _=>trivial) (fun _ _=>rfl)
theorem ST.codes {w wi:World} {base B g gw:Nat} {U:List Usr} {C:List Chn} {kx kp kn:Nat} {d:Wd} (h:ST w wi base B g gw U C kx kp kn d):CodesAt wi B g:=by
 obtain ⟨vs,vu,vc,vx,vp,V,si,_⟩:=h
 exact si.c
theorem ST.more2 {w wi:World} {base B g gw:Nat} {U:List Usr} {C:List Chn} {kx kp kn:Nat} {d:Wd} (h:ST w wi base B g gw U C kx (kp+1) kn d):ST w wi base B g gw U C kx (kp+3) kn d:=by
 obtain ⟨vs,vu,vc,vx,vp,V,si,ok,h1,h2⟩:=h
 exact ⟨vs,vu,vc,vx,vp,V,si,ok.more (Nat.le_refl _) (by omega) (Nat.le_refl _),h1,h2⟩
theorem step_load_mid {P:Program} {l:List Oper} {o:Oper} {a:Act} {w:World} {K:Act→World→Prop} {Q:Exit→Act→World→Prop} {E:Prop} (hw:Region.wanted o (yielded l.toArray a.tmps)=true) (t:TypeId) (x:Operand) (ho:o.op=.load t x) (b off:Nat) (hx:a.eval x=.pointer (some ⟨b,off,none⟩)) (cs:List Value) (d:TypeDesc) (hc:w.rangeAt b off cs)
  (hu:P.underlying t=some d) (hd:d.isRow=true) (hi:(P.info? t).map (·.size)=some cs.length) (h:K (a.put o.dst (.agg cs.toArray)) w):if Region.wanted o (yielded l.toArray a.tmps)=true then Oper.wp P o a w K Q else E:=by
 rw [if_pos hw]
 exact wp_load_mid t x ho b off hx cs d hc hu hd hi h
theorem ST.le {w wi:World} {base B g gw:Nat} {U:List Usr} {C:List Chn} {kx kp kn kx' kp' kn':Nat} {d:Wd} (h:ST w wi base B g gw U C kx kp kn d) (h1:kx≤kx') (h2:kp≤kp') (h3:kn≤kn'):ST w wi base B g gw U C kx' kp' kn' d:=by
 obtain ⟨vs,vu,vc,vx,vp,V,si,ok,h4,h5⟩:=h
 exact ⟨vs,vu,vc,vx,vp,V,si,ok.more h1 h2 h3,h4,h5⟩
def PFine (r:SRes):Prop:=SBad r∧(r.code=0→TabOk r.L r.nx∧0 < r.bs.length∧r.bs.length≤300)
def QFine (r:CRes):Prop:=r.c.Ok∧(r.code=0→r.c.user.length≤17∧0 < r.b.length∧r.b.length≤300)
theorem own_idx {w:World} {base n c:Nat} {A:Option Addr} {L:List Cli} {k:Nat} {x:Cli} (h:w.ownsRow base 65 41 (.slice A n c) n (L.flatMap Cli.cs)) (hl:∀ x∈L,(Cli.cs x).length=41) (hk:L[k]?=some x) :∃gx cur,A=some ⟨gx,0,none⟩∧base≤gx∧Blk w gx 65 cur∧cur.size=c*41∧n≤c∧c≤maxLen∧L.length=n∧cur.toList.take (n*41)=L.flatMap Cli.cs∧(k*41+41≤cur.size)∧w.rangeAt gx (k*41) x.cs:=by
 obtain ⟨g,c',cur,hv,h1,h2,h3,h4,h5,h6,h7,h8,h9⟩:=own_rec h (by decide) hl hk
 injection hv with e1 _ e2
 subst e1 e2
 exact ⟨g,cur,rfl,h1,h2,h3,h4,h5,h6,h7,h8,fun j v hv=>by rw [h2.cell]; exact h9 j v hv⟩
theorem ST.cj {w wi wj:World} {base B g gw:Nat} {U:List Usr} {C:List Chn} {kx kp kn:Nat} {d:Wd} (h:ST w wi base B g gw U C kx kp kn d) (hj:CJ wi B g wj):ST w wj base B g gw U C kx kp kn d:=by
 obtain ⟨vs,vu,vc,vx,vp,V,si,ok,h1,h2⟩:=h
 exact ⟨vs,vu,vc,vx,vp,V,si.cj hj,ok,h1,h2⟩
def STq (w wi:World) (base B g gw:Nat) (U:List Usr) (C:List Chn) (kx kp kn:Nat) (d:Wd) (q:Nat):Prop :=
 ∃ vs vu vc vx vp V,SI w wi base B g gw d vs vu vc vx vp V∧WdOk d kx kp kn∧d.U=U∧d.C=C∧vx.ownBlock≠some q
theorem STq.st {w wi:World} {base B g gw:Nat} {U:List Usr} {C:List Chn} {kx kp kn q:Nat} {d:Wd} (h:STq w wi base B g gw U C kx kp kn d q):ST w wi base B g gw U C kx kp kn d:=by
 obtain ⟨vs,vu,vc,vx,vp,V,si,ok,h1,h2,_⟩:=h
 exact ⟨vs,vu,vc,vx,vp,V,si,ok,h1,h2⟩
theorem STq.open_ {w wi:World} {base B g gw:Nat} {U:List Usr} {C:List Chn} {kx kp kn q:Nat} {d:Wd} (h:STq w wi base B g gw U C kx kp kn d q) :
  ∃ As cs Au cu Ac cc Ax cx Ap cp V,SI w wi base B g gw d (.slice As d.L.length cs) (.slice Au d.U.length cu) (.slice Ac d.C.length cc) (.slice Ax d.X.length cx) (.slice Ap d.P.length cp) V∧WdOk d kx kp kn∧d.U=U∧d.C=C∧(Value.slice Ax d.X.length cx).ownBlock≠some q:=by
 obtain ⟨vs,vu,vc,vx,vp,V,si,ok,h1,h2,h3⟩:=h
 obtain ⟨As,cs,e1,_,_⟩:=slice_of_own si.wd.m.s
 obtain ⟨Au,cu,e2,_,_⟩:=slice_of_own si.wd.m.u
 obtain ⟨Ac,cc,e3,_,_⟩:=slice_of_own si.wd.m.c
 obtain ⟨Ax,cx,e4,_,_⟩:=slice_of_own si.wd.m.x
 obtain ⟨Ap,cp,e5,_,_⟩:=slice_of_own si.wd.m.p
 subst e1 e2 e3 e4 e5
 exact ⟨As,cs,Au,cu,Ac,cc,Ax,cx,Ap,cp,V,si,ok,h1,h2,h3⟩
def TFine (r:TRes):Prop:=r.c.Ok∧(r.e=0→r.c.user.length≤17)
theorem acpt_bad (c:Cli) (b:List UInt8) (h:(acptC c b).1≠0):(acptC c b).2=zCli:=by
 unfold acptC at h ⊢
 by_cases h1:cliF c=false
 · rw [if_pos h1]
 rw [if_neg h1] at h ⊢
 by_cases h2:c.opn=true∨c.id=0
 · rw [if_pos h2]
 rw [if_neg h2] at h ⊢
 by_cases h3:¬ (b.length=13∧b[0]?=some 4∧leW ((b.drop 1).take 4)=c.id)
 · rw [if_pos h3]
 rw [if_neg h3] at h ⊢
 by_cases h4:decide (b=provF 4 c.key c.id c.nonce c.server (levB c.level))=false
 · rw [if_pos h4]
 rw [if_neg h4] at h
 exact absurd rfl h
theorem AddP.keep {w w':World} {base gw q:Nat} {d:Wd} {vs vu vc vx:Value} {bs:List UInt8} {e:Ending} {t:TypeId} {cs:Array Value} (ha:AddP w base gw d vs vu vc vx bs e w') (hb:Blk w q t cs) (hq:q≠gw) (ht:t≠22):Blk w' q t cs:=by
 obtain ⟨_,vp',V',_,_,hk⟩:=ha
 exact hk q t cs hb hq ht
theorem drew_left {w w':World} {row:Option Nat} (h:w.drew.grownBy w' row):w.grownBy w' row:=⟨h.os,h.tape,h.output,h.size,h.block⟩
theorem ST.more {w wi:World} {base B g gw:Nat} {U:List Usr} {C:List Chn} {kx kp kn:Nat} {d:Wd} (h:ST w wi base B g gw U C kx kp kn d):ST w wi base B g gw U C (kx+1) (kp+1) kn d:=by
 obtain ⟨vs,vu,vc,vx,vp,V,si,ok,h1,h2⟩:=h
 exact ⟨vs,vu,vc,vx,vp,V,si,ok.more (by omega) (by omega) (Nat.le_refl _),h1,h2⟩
theorem own_kept_add {w w':World} {base gw n:Nat} {d:Wd} {vs vu vc vx v:Value} {bs:List UInt8} {e:Ending} {xs:List Value} (h:w.ownsRow base 5 1 v n xs) (ha:AddP w base gw d vs vu vc vx bs e w') (hw :∃cs,Blk w gw 37 cs):w'.ownsRow base 5 1 v n xs:=by
 obtain ⟨_,vp',V',_,_,hk⟩:=ha
 obtain ⟨cs,hw⟩:=hw
 refine ⟨h.1,?_⟩
 rcases h.2 with h0 | ⟨g,cap,cur,hv,hb,hh,hc⟩
 · exact .inl h0
 · exact .inr ⟨g,cap,cur,hv,hb,hk g 5 cur hh ((show Blk w g 5 cur from hh).ne_ hw (by decide)) (by decide),hc⟩
def SFine (b:List UInt8) (r:SRes):Prop:=SBad r∧(r.code=0→TabOk r.L r.nx∧0 < r.bs.length∧r.bs.length≤300∧(∃ nx nonce,r.bs=chalF nx nonce)∧11≤b.length)
def StepP (w:World) (base B g gw:Nat) (U:List Usr) (C:List Chn) (kx kp kn:Nat) (e:Ending) (w':World):Prop:=e=.returned (.tuple #[])∧∃ d,ST w w' base B g gw U C (kx+1) (kp+3) (kn+1) d
def StaR (now:Int):Nat→(Nat→Value)→World→Prop
 | 3,vals,_=>(vals 3)=.int .i64 now
 | 5,vals,_=>NumIn 5 (vals 5)
 | 7,vals,_=>NumIn 40 (vals 7)
 | 8,vals,_=>∃ r:Int,(vals 8)=.int .i64 r∧0≤r∧r≤156
 | 9,vals,_=>∃ r:Int,(vals 9)=.int .i64 (now+r)∧0≤r∧r≤156
 | _,_,_=>True
def StaR.D:Nat→List Nat
 | _=>[]
theorem StaR.keep {now:Int} {g:Nat}:∀ (k:Nat) (v:Nat→Value) (w w':World),StaR now k v w→CT g w w'→StaR now k v w':=by
 intro k v w w' h hct
 unfold StaR at *
 split at h
 · exact h
 · exact h
 · exact h
 · exact h
 · exact h
 · trivial
theorem StaR.loc {now:Int}:∀ (k:Nat) (v v':Nat→Value) (w:World),(∀ j,j∈k::StaR.D k→v j=v' j)→StaR now k v w→StaR now k v' w:=by
 intro k v v' w hv h
 unfold StaR at *
 split at h
 · have e3:=hv 3 (by simp [StaR.D]); rw [e3] at h; exact h
 · have e5:=hv 5 (by simp [StaR.D]); rw [e5] at h; exact h
 · have e7:=hv 7 (by simp [StaR.D]); rw [e7] at h; exact h
 · have e8:=hv 8 (by simp [StaR.D]); rw [e8] at h; exact h
 · have e9:=hv 9 (by simp [StaR.D]); rw [e9] at h; exact h
 · trivial
def StbR (q0 gu:Nat) (U:List Usr):Nat→(Nat→Value)→World→Prop
 | 12,vals,_=>∃ k:Nat,(vals 12)=.int .i64 (k:Int)∧k < U.length
 | 13,vals,_=>∃ k:Nat,(vals 13)=.pointer (some ⟨gu,k*19,none⟩)∧k < U.length
 | 14,vals,_=>∃ u:Usr,u∈U∧(vals 14)=.agg u.cs.toArray
 | 15,vals,w=>∃ q:Nat,(vals 15)=.pointer (some ⟨q,0,none⟩)∧Blk w q 52 zUsr.cs.toArray∧q0≤q
 | _,_,_=>True
def StbR.D:Nat→List Nat
 | _=>[]
theorem StbR.keep {q0 gu:Nat} {U:List Usr} {g:Nat} (hg:g < q0):∀ (k:Nat) (v:Nat→Value) (w w':World),StbR q0 gu U k v w→CT g w w'→StbR q0 gu U k v w':=by
 intro k v w w' h hct
 unfold StbR at *
 split at h
 · exact h
 · exact h
 · exact h
 · obtain ⟨q,h1,h2,h3⟩:=h; exact ⟨q,h1,hct.blk h2 (by omega),h3⟩
 · trivial
theorem StbR.loc {q0 gu:Nat} {U:List Usr}:∀ (k:Nat) (v v':Nat→Value) (w:World),(∀ j,j∈k::StbR.D k→v j=v' j)→StbR q0 gu U k v w→StbR q0 gu U k v' w:=by
 intro k v v' w hv h
 unfold StbR at *
 split at h
 · have e12:=hv 12 (by simp [StbR.D]); rw [e12] at h; exact h
 · have e13:=hv 13 (by simp [StbR.D]); rw [e13] at h; exact h
 · have e14:=hv 14 (by simp [StbR.D]); rw [e14] at h; exact h
 · have e15:=hv 15 (by simp [StbR.D]); rw [e15] at h; exact h
 · trivial
def SteR (q0:Nat) (vx:Value) (c:Cli):Nat→(Nat→Value)→World→Prop
 | 4,vals,_=>(vals 4)=vx
 | 5,vals,_=>(vals 5)=.agg c.cs.toArray
 | 6,vals,w=>∃ q:Nat,(vals 6)=.slice (some ⟨q,0,none⟩) 1 1∧Blk w q 65 c.cs.toArray∧q0≤q
 | _,_,_=>True
def SteR.D:Nat→List Nat
 | _=>[]
theorem SteR.keep {q0:Nat} {vx:Value} {c:Cli} {g:Nat} (hg:g < q0):∀ (k:Nat) (v:Nat→Value) (w w':World),SteR q0 vx c k v w→CT g w w'→SteR q0 vx c k v w':=by
 intro k v w w' h hct
 unfold SteR at *
 split at h
 · exact h
 · exact h
 · obtain ⟨q,h1,h2,h3⟩:=h; exact ⟨q,h1,hct.blk h2 (by omega),h3⟩
 · trivial
theorem SteR.loc {q0:Nat} {vx:Value} {c:Cli}:∀ (k:Nat) (v v':Nat→Value) (w:World),(∀ j,j∈k::SteR.D k→v j=v' j)→SteR q0 vx c k v w→SteR q0 vx c k v' w:=by
 intro k v v' w hv h
 unfold SteR at *
 split at h
 · have e4:=hv 4 (by simp [SteR.D]); rw [e4] at h; exact h
 · have e5:=hv 5 (by simp [SteR.D]); rw [e5] at h; exact h
 · have e6:=hv 6 (by simp [SteR.D]); rw [e6] at h; exact h
 · trivial
end Go.Proofs.YtfbkkmnkpjgciaaGreat
