/- Joined of SRecv. No condition. -/
import Derived.Test.YtfbkkmnkpjgciaaGreatPG17
import Derived.Test.YtfbkkmnkpjgciaaGreatPG06
import Derived.Test.YtfbkkmnkpjgciaaGreatPG25
namespace Go.Proofs.YtfbkkmnkpjgciaaGreat
open Go.RowKit
structure RRes where
 e:Int
 L:List Sess
 nx:Nat
 id:Nat
 kind:Nat
 d:List UInt8
def badR (c:Int):RRes:=⟨c,[],0,0,0,[]⟩
def ZbP (w:World) (r:RRes) (e:Ending) (w':World):Prop :=
 if r.e=0 then∃vS vD,e=.returned (.tuple #[.agg #[vS,.int .u32 (r.nx:Int)],.int .u32 (r.id:Int),.int .i64 (r.kind:Int),vD,.int .i64 0])∧w'.ownsRow w.heap.size 50 26 vS r.L.length (Zat r.L)∧w'.ownsRow w.heap.size 5 1 vD r.d.length (bsV r.d)∧Below w.heap.size w w'
 else e=.returned (.tuple #[.agg #[.slice none 0 0,.int .u32 0],.int .u32 0,.int .i64 0,.slice none 0 0,.int .i64 r.e])∧Below w.heap.size w w'
theorem ZbP.bad {w w':World} {c:Int} {e:Ending} (hc:c≠0) (he:e=.returned (.tuple #[.agg #[.slice none 0 0,.int .u32 0],.int .u32 0,.int .i64 0,.slice none 0 0,.int .i64 c])) (hb:Below w.heap.size w w'):ZbP w (badR c) e w':=by
 unfold ZbP badR
 dsimp only
 rw [if_neg hc]
 exact ⟨he,hb⟩
theorem rRz {w w9:World} {fn:Func} {p u x y z:Tmp} {a:Act} {g:Nat} {c:Int} (h:fn.results=#[.cell p 29,.tmp u,.tmp x,.tmp y,.tmp z]) (hp:a.tmps.getD p undef=.pointer (some ⟨g,0,none⟩)) (hu:a.tmps.getD u undef=.int .u32 0) (hx:a.tmps.getD x undef=.int .i64 0) (hy:a.tmps.getD y undef=.slice none 0 0) (hz:a.tmps.getD z undef=.int .i64 c) (hZ:Blk w9 g 29 #[.slice none 0 0,.int .u32 0]) (hE:Below w.heap.size w w9) (hd:a.defers=[]:=by rfl) (hc:c≠0:=by omega):bodyPost Tryz.prog fn (ZbP w (badR c)) .ret a w9 :=
 bodyPost_ret (v:=.tuple #[.agg #[.slice none 0 0,.int .u32 0],.int .u32 0,.int .i64 0,.slice none 0 0,.int .i64 c]) (Zb7 h _ g 29 _ _ _ _ _ _ hp hu hx hy hz hZ Tryz.underlying29 rfl (by kernel_rfl)) hd (ZbP.bad hc rfl hE)
def took (x:Sess) (n:Nat) (now:Int):Sess:={ x with hi:=(ZbS x.hi x.se n).1,se:=(ZbS x.hi x.se n).2.1,last:=now }
def Zcj (L:List Sess) (nx:Nat) (b:List UInt8) (now:Int):RRes :=
 if ZaS L nx=false then badR 1 else if ZcR now=false then badR 2 else if Zcv 5 b=false then badR 6 else if Zb6 (Zay b).kb=false then badR 6 else
 match Zcs (idP (Zay b).id) (expF L nx now) 0 with
 | none=>badR 44
 |some (i,x)=>if x.opn=false then badR 44 else if genF x.key b=false then badR 50 else
  if (ZbS x.hi x.se (Zay b).n).2.2≠0 then badR (ZbS x.hi x.se (Zay b).n).2.2 else
  ⟨0,(expF L nx now).set i (took x (Zay b).n now),nx,(Zay b).id,(Zay b).kb.toNat,(Zay b).data⟩
theorem Zch (w:World):(Instr.alloc 48 true (.tuple #[])).run Tryz.prog w=.ok (.pointer (some ⟨w.heap.size,0,none⟩)) (w.alloc (.cells #[.int .u32 0,.int .u32 0] 48)):=by kernel_rfl
theorem Zfm :∃d,Tryz.prog.underlying 48=some d∧d.isRow=true:=⟨_,Tryz.underlying48,rfl⟩
theorem Sess.At.win {x:Sess} {f:Nat→Option Value} (h:x.At f):∀ (j:Nat) (v:Value),[Value.int .u32 (x.hi:Int),.int .u32 (x.se:Int)][j]?=some v→f (22+j)=some v:=by
 intro j v hv
 match j with
 | 0=>rw [← hv]; exact h.hi
 | 1=>rw [← hv]; exact h.se
 | k+2=>simp at hv
theorem ZaT {P:Program} {o:Oper} {a:Act} {w:World} {K:Act→World→Prop} {Q:Exit→Act→World→Prop} (t:TypeId) (ho:o.op=.alloc t) {cells:Array Value} (hr:(Instr.alloc t true (.tuple #[])).run P w=.ok (.pointer (some ⟨w.heap.size,0,none⟩)) (w.alloc (.cells cells t)))
  (hk:K (a.put o.dst (.pointer (some ⟨w.heap.size,0,none⟩))) (w.alloc (.cells cells t))):Oper.wp P o a w K Q:=by
 unfold Oper.wp execOp
 simp only [ho,Sem.run_bind,Sem.run_pure,Result.andThen_ok,hr]
 exact hk
def ShfR (B:Nat) (wh wl:Nat) (we:Int):Nat→Value→World→Prop
 | 6,v,_=>v=.tuple #[.agg #[.int .u32 (wh:Int),.int .u32 (wl:Int)],.int .i64 we]
 | 7,v,_=>v=.tuple #[.agg #[.int .u32 (wh:Int),.int .u32 (wl:Int)],.int .i64 we]
 | 8,v,_=>v=.agg #[.int .u32 (wh:Int),.int .u32 (wl:Int)]
 | 9,v,_=>v=.int .i64 we
 | 10,v,w=>∃ g,v=.pointer (some ⟨g,0,none⟩)∧Blk w g 48 #[.int .u32 0,.int .u32 0]∧B≤g
 | _,_,_=>True
theorem ShfR.keep {B wh wl:Nat} {we:Int}:∀ (k:Nat) (v:Value) (w w':World),ShfR B wh wl we k v w→Below w.heap.size w w'→ShfR B wh wl we k v w':=by
 intro k v w w' h hb
 unfold ShfR at *
 split at h
 · exact h
 · exact h
 · exact h
 · exact h
 ·obtain ⟨g,h1,h2,h3⟩:=h
  exact ⟨g,h1,h2.below hb h2.lt,h3⟩
 · trivial
set_option maxRecDepth 100000 in
set_option maxHeartbeats 16000000 in
theorem recv_sx (w:World) (A:Option Addr) (n c:Nat) (L:List Sess) (nx:Nat) (hS:ZaA w w.heap.size A n L) (hn:n≤1000) (hnx:nx < 4294967296)
  (Ab:Option Addr) (nb cb:Nat) (b:List UInt8) (hb:Zaj w w.heap.size 1 Ab nb (bsV b)) (hbc:nb≤cb) (hbm:cb≤maxLen) (now:Int) (r:RRes) (hr:Zcj L nx b now=r) :
  Calls Tryz.prog 31 #[.agg #[.slice A n c,.int .u32 (nx:Int)],.slice Ab nb cb,.int .i64 now] w (ZbP w r):=by
 obtain ⟨W1,hW1⟩ :∃W1,(w.alloc (.cells #[.slice A n c,.int .u32 (nx:Int)] 29)).alloc (.cells #[.slice none 0 0,.int .u32 0] 29)=W1:=⟨_,rfl⟩
 have hsz:W1.heap.size=w.heap.size+2:=by rw [← hW1,Zb2]
 have K0:Hid (Blk W1 w.heap.size 29 #[.slice A n c,.int .u32 (nx:Int)]):=jd (hW1 ▸ ((Blk.new w _ _).alloc _))
 have K2:Hid (Blk W1 (w.heap.size+1) 29 #[.slice none 0 0,.int .u32 0]):=jd (hW1 ▸ (Blk.new' (by simp)))
 have B1:Hid (Below w.heap.size w W1):=jd (hW1 ▸ ((Below.refl _ _).alloc (Nat.le_refl _) _).alloc (by rw [Zae]; omega) _)
 have HS:=jd hS
 have HBB:=jd hb
 have HR:=jd hr
 have HW1:=jd hW1
 have hlb:b.length=nb:=by have:=hb.1; simpa [bsV] using this
 have HLB:=jd hlb
 have HBC:=jd hbc
 have HBM:=jd hbm
 have hnb:(nb:Int)≤9223372036854775807:=by unfold maxLen at hbm; omega
 have S1:=jd ((hS.below (uh B1)).more (uh B1).size)
 obtain ⟨t1,ht1⟩ :∃t,ZaS L nx=t:=⟨_,rfl⟩
 have HT1:=jd ht1
 clear hW1 hS hb hr hlb hbc hbm ht1
 go_enter Tryz.func31,Tryz.ntmps31
 go_upto_region 1 with fail
 rw [uh HW1]
 go_wp2_with (first
  | (refine wpList_load_row rfl 29 _ rfl w.heap.size rfl 29 _ _ _ (uh K0) Tryz.underlying29 rfl (by kernel_rfl) ?_)
  | fail)
 refine (Zdb W1 A n c L nx (uh S1) (by unfold maxLen; omega) hnx t1 (uh HT1)).mono ?_
 rintro e w2 ⟨rfl,hb2⟩
 have J0:=jd ((uh K0).below hb2 (uh K0).lt)
 have J2:=jd ((uh K2).below hb2 (uh K2).lt)
 have X2:=jd ((uh B1).trans (hb2.mono (uh B1).size))
 have hs2:w.heap.size+2≤w2.heap.size:=by have:=hb2.size; omega
 clear hb2
 cases t1
 case false =>
  have hrr:=uh HR
  unfold Zcj at hrr
  rw [if_pos (uh HT1)] at hrr
  subst hrr
  clear HR
  go_wp2_with (first
   | (refine Zab rfl 29 _ rfl [] rfl _ Zan ?_)
   | (refine Zaa rfl 29 (.tmp 6) (.tmp 20) rfl (w.heap.size+1) 29 _ #[.slice none 0 0,.int .u32 0] rfl rfl (uh J2) rfl (by kernel_rfl) (oZz rfl rfl) ?_
      intro w9 hb9 hg9
      have Z9:=jd hb9
      have E9:=jd (gWz (uh X2) hg9)
      clear hb9 hg9)
   | fail)
  exact rRz rfl rfl rfl rfl rfl rfl (uh Z9) (uh E9)
 obtain ⟨t2,ht2⟩ :∃t,ZcR now=t:=⟨_,rfl⟩
 have HT2:=jd ht2
 have HT2':Hid (decide (0≤now∧now≤17179869184)=t2):=jd ht2
 clear ht2
 cases t2
 case false =>
  have hrr:=uh HR
  unfold Zcj at hrr
  rw [if_neg (by rw [uh HT1]; simp),if_pos (uh HT2)] at hrr
  subst hrr
  clear HR
  go_wp2_with (first
   | (refine Zab rfl 29 _ rfl [] rfl _ Zan ?_)
   | (refine Zaa rfl 29 (.tmp 6) (.tmp 24) rfl (w.heap.size+1) 29 _ #[.slice none 0 0,.int .u32 0] rfl rfl (uh J2) rfl (by kernel_rfl) (oZz rfl rfl) ?_
      intro w9 hb9 hg9
      have Z9:=jd hb9
      have E9:=jd (gWz (uh X2) hg9)
      clear hb9 hg9)
   | (go_at_call 43; refine (Zbj _ now _ (uh HT2')).mono ?_; rintro e w' ⟨rfl,rfl⟩)
   | fail)
  exact rRz rfl rfl rfl rfl rfl rfl (uh Z9) (uh E9)
 have hrr:=uh HR
 unfold Zcj at hrr
 rw [if_neg (by rw [uh HT1]; simp),if_neg (by rw [uh HT2]; simp)] at hrr
 have HR2:=jd hrr
 clear hrr HR
 go_wp2_with (first
  | (go_at_call 43; refine (Zbj _ now _ (uh HT2')).mono ?_; rintro e w' ⟨rfl,rfl⟩)
  | fail)
 obtain ⟨t3,ht3⟩ :∃t,Zcv 5 b=t:=⟨_,rfl⟩
 have HT3:=jd ht3
 clear ht3
 have R2:=jd (((uh HBB).below (uh X2)).more (uh X2).size)
 cases t3
 case false =>
  have hrr:=uh HR2
  rw [if_pos (uh HT3)] at hrr
  subst hrr
  clear HR2
  refine (split_bad w2 5 Ab nb cb b (uh R2) (Nat.le_trans (uh HBC) (uh HBM)) (uh HT3)).mono ?_
  rintro e w3 ⟨rfl,hb3⟩
  have U2:=jd (((uh J2).below hb3 (uh J2).lt).alloc (.cells #[.int .u32 0,.int .u32 0,.int .i64 0,.slice none 0 0] 123))
  have U3:=jd (Blk.new w3 123 #[.int .u32 0,.int .u32 0,.int .i64 0,.slice none 0 0])
  have UX:=jd (((uh X2).trans (hb3.mono (uh X2).size)).alloc (by have:=hb3.size; have:=(uh X2).size; omega) (.cells #[.int .u32 0,.int .u32 0,.int .i64 0,.slice none 0 0] 123))
  have hs3:w2.heap.size≤w3.heap.size:=hb3.size
  clear hb3
  go_upto_region 6 with (first
   | (refine Zag rfl 123 rfl _ w3.heap.size rfl (ZdR _) ?_)
   | (refine Zaa rfl 123 (.tmp 11) (.tmp 28) rfl w3.heap.size 123 _ #[.int .u32 0,.int .u32 0,.int .i64 0,.slice none 0 0] rfl rfl (uh U3) rfl (by kernel_rfl) (by intro v hv; simp at hv; rcases hv with rfl | rfl | rfl | rfl<;>rfl) ?_
      intro w5 hb5 hg5
      have Y2:=jd ((uh U2).gb hg5)
      have YX:=jd (gWz (uh UX) hg5)
      clear hb5 hg5)
   | fail)
  go_wp2_with (first
   | (refine Zab rfl 29 _ rfl [] rfl _ Zan ?_)
   | (refine Zaa rfl 29 (.tmp 6) (.tmp 32) rfl (w.heap.size+1) 29 _ #[.slice none 0 0,.int .u32 0] rfl rfl (uh Y2) rfl (by kernel_rfl) (oZz rfl rfl) ?_
      intro w9 hb9 hg9
      have Z9:=jd hb9
      have E9:=jd (gWz (uh YX) hg9)
      clear hb9 hg9)
   | fail)
  exact rRz rfl rfl rfl rfl rfl rfl (uh Z9) (uh E9)
 have hrr:=uh HR2
 rw [if_neg (by rw [uh HT3]; simp)] at hrr
 have h274:18≤nb∧nb≤274:=by
  have h:=uh HT3
  unfold Zcv at h
  simp only [Bool.and_eq_true,decide_eq_true_eq] at h
  rw [uh HLB] at h
  exact ⟨h.1,h.2.1⟩
 refine (split_ok w2 5 Ab nb cb b (uh R2) (uh HBC) (uh HBM) (uh HT3)).mono ?_
 rintro e w3 ⟨vd,rfl,hod,hb3⟩
 have hpl:(Zay b).id < 4294967296:=leW4 _ _
 have hpn:(Zay b).n < 4294967296:=leW4 _ _
 have hpd:(Zay b).data.length=nb - 18:=by
  show ((b.drop 10).take (b.length - 18)).length=_
  rw [List.length_take,List.length_drop,uh HLB]
  omega
 obtain ⟨P,hP⟩ :∃P,Zay b=P:=⟨_,rfl⟩
 rw [uh HLB] at hod
 rw [hP] at hod hpl hpn hpd hrr ⊢
 obtain ⟨pid,pn,pk,pd⟩:=P
 dsimp only at hod hpl hpn hpd hrr ⊢
 obtain ⟨nd,hnd⟩ :∃k,nb - 18=k:=⟨_,rfl⟩
 rw [hnd] at hod hpd
 obtain ⟨Ad,cd,hvd,hmd,hcdm⟩:=Zac hod
 subst hvd
 have HR3:=jd hrr
 have HPD:=jd hpd
 have U0:=jd (((uh J0).below hb3 (uh J0).lt).alloc (.cells #[.int .u32 0,.int .u32 0,.int .i64 0,.slice none 0 0] 123))
 have U2:=jd (((uh J2).below hb3 (uh J2).lt).alloc (.cells #[.int .u32 0,.int .u32 0,.int .i64 0,.slice none 0 0] 123))
 have U3:=jd (Blk.new w3 123 #[.int .u32 0,.int .u32 0,.int .i64 0,.slice none 0 0])
 have UX:=jd (((uh X2).trans (hb3.mono (uh X2).size)).alloc (by have:=hb3.size; have:=(uh X2).size; omega) (.cells #[.int .u32 0,.int .u32 0,.int .i64 0,.slice none 0 0] 123))
 have UD:=jd ((Zak hod (uh X2).size).alloc (.cells #[.int .u32 0,.int .u32 0,.int .i64 0,.slice none 0 0] 123))
 have hs3:w2.heap.size≤w3.heap.size:=hb3.size
 clear hb3 hod hrr HR2 hP hpd hnd
 obtain ⟨t4,ht4⟩ :∃t,Zb6 pk=t:=⟨_,rfl⟩
 have HT4:=jd ht4
 rw [ht4]
 clear ht4
 go_upto_region 6 with (first
  | (refine Zag rfl 123 rfl _ w3.heap.size rfl (ZdR _) ?_)
  |(refine Zaa rfl 123 (.tmp 11) (.tmp 28) rfl w3.heap.size 123 _ #[.int .u32 (pid:Int),.int .u32 (pn:Int),.int .i64 (pk.toNat:Int),.slice Ad nd cd] rfl rfl (uh U3) rfl (by kernel_rfl) (by intro v hv; simp at hv; rcases hv with rfl | rfl | rfl | rfl<;>rfl) ?_
    intro w5 hb5 hg5
    have Y0:=jd ((uh U0).gb hg5)
    have Y2:=jd ((uh U2).gb hg5)
    have YX:=jd (gWz (uh UX) hg5)
    have Y3:=jd hb5
    have YD:=jd (World.ownsRow.kept (uh UD) hg5 (.inr (Zad (uh UD) (uh U3) (by decide))))
    have hs5:w3.heap.size < w5.heap.size:=hb5.lt
    clear hb5 hg5)
  | fail)
 cases t4
 case false =>
  have hrr:=uh HR3
  rw [if_pos (uh HT4)] at hrr
  subst hrr
  clear HR3
  go_wp2_with (first
   | (refine Zab rfl 29 _ rfl [] rfl _ Zan ?_)
   | (refine Zaa rfl 29 (.tmp 6) (.tmp 32) rfl (w.heap.size+1) 29 _ #[.slice none 0 0,.int .u32 0] rfl rfl (uh Y2) rfl (by kernel_rfl) (oZz rfl rfl) ?_
      intro w9 hb9 hg9
      have Z9:=jd hb9
      have E9:=jd (gWz (uh YX) hg9)
      clear hb9 hg9)
   | fail)
  exact rRz rfl rfl rfl rfl rfl rfl (uh Z9) (uh E9)
 have hrr:=uh HR3
 rw [if_neg (by rw [uh HT4]; simp)] at hrr
 have HR4:=jd hrr
 clear hrr HR3
 go_wp2_with (first
  | (refine wpList_load_row rfl 29 _ rfl w.heap.size rfl 29 _ _ _ (uh Y0) Tryz.underlying29 rfl (by kernel_rfl) ?_)
  | fail)
 refine (Zea w5 A n c L nx (((uh HS).below (uh YX)).more (uh YX).size) hn hnx now).mono ?_
 rintro e w4 ⟨v4,rfl,ho4,hb4⟩
 obtain ⟨E,hE⟩ :∃E,expF L nx now=E:=⟨_,rfl⟩
 have hEok:ZaE E:=by rw [← hE]; exact ZcP (uh HS).ok
 have hEl:E.length≤n:=by rw [← hE,← (uh HS).len]; exact Zd2 _ _ _
 have hr3:=uh HR4
 rw [hE] at ho4 hr3
 have HR5:=jd hr3
 obtain ⟨m,hm⟩ :∃m,E.length=m:=⟨_,rfl⟩
 rw [hm] at ho4 hEl
 obtain ⟨A4,c4,hv4,hmc4,hcm4⟩:=Zac ho4
 subst hv4
 have M2:=jd (((uh Y2).below hb4 (uh Y2).lt).alloc (.cells #[.slice none 0 0,.int .u32 0] 29))
 have MP:=jd (((uh Y3).below hb4 (uh Y3).lt).alloc (.cells #[.slice none 0 0,.int .u32 0] 29))
 have MD:=jd ((Zam (uh YD) hb4).alloc (.cells #[.slice none 0 0,.int .u32 0] 29))
 have O4:=jd (ho4.alloc (.cells #[.slice none 0 0,.int .u32 0] 29))
 have M3:=jd (Blk.new w4 29 #[.slice none 0 0,.int .u32 0])
 have hs4:w5.heap.size≤w4.heap.size:=hb4.size
 have X4:=jd (((uh YX).trans (hb4.mono (uh YX).size)).alloc (by have:=(uh YX).size; omega) (.cells #[.slice none 0 0,.int .u32 0] 29))
 have HEOK:=jd hEok
 have HM:=jd hm
 clear ho4 hb4 hE hEok hm hr3 HR4
 go_upto_region 9 with (first
  | (refine Zag rfl 29 rfl _ w4.heap.size rfl (ZaB _) ?_)
  |(refine Zaa rfl 29 (.tmp 13) (.tmp 35) rfl w4.heap.size 29 _ #[.slice A4 m c4,.int .u32 (nx:Int)] rfl rfl (uh M3) rfl (by kernel_rfl) (oZz rfl rfl) ?_
    intro w6 hb5 hg5
    have N3:=jd hb5
    have N2:=jd ((uh M2).gb hg5)
    have NP:=jd ((uh MP).gb hg5)
    have ND:=jd (World.ownsRow.kept (uh MD) hg5 (.inr (Zad (uh MD) (uh M3) (by decide))))
    have O5:=jd (World.ownsRow.kept (uh O4) hg5 (.inr (Zad (uh O4) (uh M3) (by decide))))
    have X5:=jd (gWz (uh X4) hg5)
    have hs6:w4.heap.size < w6.heap.size:=hb5.lt
    clear hb5 hg5)
  | fail)
 have p0:w6.cell? ⟨w3.heap.size,0,none⟩=some (.int .u32 (pid:Int)):=(uh NP).cell 0
 obtain ⟨fi,hfi⟩ :∃i,Zbl (idP pid) E 0=i:=⟨_,rfl⟩
 have HFI:=jd hfi
 clear hfi
 go_wp2_with (first
  | (refine wpList_load_row rfl 29 _ rfl w4.heap.size rfl 29 _ _ _ (uh N3) Tryz.underlying29 rfl (by kernel_rfl) ?_)
  | fail)
 refine (Zfq w6 A4 m c4 E _ (ZaA.of_own (uh O5) (uh HEOK)) (by unfold maxLen; omega) pid).mono ?_
 rintro e ww ⟨he,hBw⟩
 subst he
 rw [uh HFI]
 have N36:=jd ((uh N3).below hBw (uh N3).lt)
 have N26:=jd ((uh N2).below hBw (uh N2).lt)
 have NP6:=jd ((uh NP).below hBw (uh NP).lt)
 have ND6:=jd (Zam (uh ND) hBw)
 have O6:=jd (Zak (Zam (uh O5) hBw) (Nat.le_refl _))
 have X6:=jd ((uh X5).trans (hBw.mono (uh X5).size))
 have hs7:w6.heap.size≤ww.heap.size:=hBw.size
 clear hBw p0
 have d0:ww.cell? ⟨w4.heap.size,0,none⟩=some (.slice A4 m c4):=(uh N36).cell 0
 rcases Za8 (idP pid) E 0 with ⟨e1,f1⟩ | ⟨i,x,e1,f1,hx,hpx⟩
 ·obtain rfl:fi=-1:=by rw [← uh HFI,e1]
  have hrr:=uh HR5
  rw [f1] at hrr
  dsimp only at hrr
  subst hrr
  clear HR5 e1 f1
  go_wp2_with (first
   | (refine Zab rfl 29 _ rfl [] rfl _ Zan ?_)
   | (refine Zaa rfl 29 (.tmp 6) (.tmp 51) rfl (w.heap.size+1) 29 _ #[.slice none 0 0,.int .u32 0] rfl rfl (uh N26) rfl (by kernel_rfl) (oZz rfl rfl) ?_
      intro w9 hb9 hg9
      have Z9:=jd hb9
      have E9:=jd (gWz (uh X6) hg9)
      clear hb9 hg9)
   | fail)
  exact rRz rfl rfl rfl rfl rfl rfl (uh Z9) (uh E9)
 rw [Nat.zero_add] at e1 f1
 obtain rfl:fi=(i:Int):=by rw [← uh HFI,e1]
 have hrr:=uh HR5
 rw [f1] at hrr
 dsimp only at hrr
 have HR6:=jd hrr
 have him:i < m:=by have:=(List.getElem?_eq_some_iff.1 hx).1; have:=uh HM; omega
 have hxo:x.Ok:=(uh HEOK) x (List.mem_of_getElem? hx)
 obtain ⟨gr,cap,cur,hv6,hgb,hrow,hml⟩:=RowM.of_own (uh O6) (uh HEOK) (by omega)
 injection hv6 with hA4 _ hc4
 subst hA4 hc4
 have hat:=Sess.range hxo (hrow.range (uh HEOK) hx)
 have hi0:((i:Int) < 0)=False:=by simp
 have hi0b:(0:Int)≤(i:Int):=by omega
 have hiz:(i:Int) < (m:Int):=by omega
 have c21:=hat.opn
 have HX:=jd hx
 have HXO:=jd hxo
 have HROW:=jd hrow
 clear hrr HR5 e1 f1 hx hxo hrow hat hpx
 obtain ⟨t3,ht3⟩ :∃t,x.opn=t:=⟨_,rfl⟩
 rw [ht3] at c21
 have HT5:=jd ht3
 clear ht3
 cases t3
 case false =>
  have hrr:=uh HR6
  rw [if_pos (uh HT5)] at hrr
  subst hrr
  clear HR6
  go_wp2_with (first
   | (refine Zab rfl 29 _ rfl [] rfl _ Zan ?_)
   | (refine Zaa rfl 29 (.tmp 6) (.tmp 51) rfl (w.heap.size+1) 29 _ #[.slice none 0 0,.int .u32 0] rfl rfl (uh N26) rfl (by kernel_rfl) (oZz rfl rfl) ?_
      intro w9 hb9 hg9
      have Z9:=jd hb9
      have E9:=jd (gWz (uh X6) hg9)
      clear hb9 hg9)
   | fail)
  exact rRz rfl rfl rfl rfl rfl rfl (uh Z9) (uh E9)
 have hrr:=uh HR6
 rw [if_neg (by rw [uh HT5]; simp)] at hrr
 have HR7:=jd hrr
 clear hrr HR6
 obtain ⟨dk,hdk,hdr⟩:=Za5
 have HDK:=jd hdk
 have HDR:=jd hdr
 obtain ⟨dw,hdw,hdwr⟩:=Zfm
 have HDW:=jd hdw
 have HDWR:=jd hdwr
 have HKX:=jd (uh HXO).key
 have hgrw:=(uh HROW).blk.lt
 have HRG:=jd ((uh HROW).range (uh HEOK) (uh HX))
 have HAT:=jd (Sess.range (uh HXO) (uh HRG))
 clear hdk hdr hdw hdwr
 have Q6:=jd (((uh HBB).below (uh X6)).more (uh X6).size)
 obtain ⟨t7,ht7⟩ :∃t,genF x.key b=t:=⟨_,rfl⟩
 have HT7:=jd ht7
 clear ht7
 go_wp2_with (first
  | (refine wpList_load_mid rfl 46 (.tmp 58) rfl gr (i*26+5) rfl (bsV x.key) dk (show ww.rangeAt gr (i*26+5) (bsV x.key) from fun j v hv=>by rw [Nat.add_assoc (i*26) 5 j]; exact (uh HAT).key j v hv) (uh HDK) (uh HDR) (ZaV _ (uh HKX)) ?_)
  | fail)
 refine (genuine_sx ww x.key (uh HKX) Ab nb cb b (uh Q6) (uh HBC) (uh HBM) (by omega) (by omega)).mono ?_
 rintro e w8 ⟨he,hb8⟩
 subst he
 rw [uh HT7]
 have N38:=jd ((uh N36).below hb8 (uh N36).lt)
 have N28:=jd ((uh N26).below hb8 (uh N26).lt)
 have NP8:=jd ((uh NP6).below hb8 (uh NP6).lt)
 have ND8:=jd (Zam (uh ND6) hb8)
 have X8:=jd ((uh X6).trans (hb8.mono (uh X6).size))
 have ROW8:=jd ((uh HROW).below hb8)
 have hs8:ww.heap.size≤w8.heap.size:=hb8.size
 clear hb8 c21 d0
 cases t7
 case false =>
  have hrr:=uh HR7
  rw [if_pos (uh HT7)] at hrr
  subst hrr
  clear HR7
  go_wp2_with (first
   | (refine Zab rfl 29 _ rfl [] rfl _ Zan ?_)
   | (refine Zaa rfl 29 (.tmp 6) (.tmp 63) rfl (w.heap.size+1) 29 _ #[.slice none 0 0,.int .u32 0] rfl rfl (uh N28) rfl (by kernel_rfl) (oZz rfl rfl) ?_
      intro w9 hb9 hg9
      have Z9:=jd hb9
      have E9:=jd (gWz (uh X8) hg9)
      clear hb9 hg9)
   | fail)
  exact rRz rfl rfl rfl rfl rfl rfl (uh Z9) (uh E9)
 have hrr:=uh HR7
 rw [if_neg (by rw [uh HT7]; simp)] at hrr
 obtain ⟨⟨wh,wl,we⟩,hw⟩ :∃p,ZbS x.hi x.se pn=p:=⟨_,rfl⟩
 have hwl:=Zdr x.hi x.se pn (uh HXO).hi (uh HXO).se hpn
 have hxhi:=(uh HXO).hi
 have hxse:=(uh HXO).se
 unfold took at hrr
 rw [hw] at hrr hwl
 dsimp only at hrr hwl
 obtain ⟨hwh,hwl⟩:=hwl
 have HR8:=jd hrr
 have HSH:=jd (fun W=>hw ▸ shift_sx W x.hi x.se pn hxhi hxse hpn)
 have ESH:=jd (ZaO Tryz.func82 (by kernel_rfl) rfl)
 clear hrr HR7 hw hxhi hxse
 have HRG8:=jd ((uh ROW8).range (uh HEOK) (uh HX))
 have hgrw8:=(uh ROW8).blk.lt
 have HAT8:=jd (fun (W:World) (hW:Below w8.heap.size w8 W)=>Sess.range (uh HXO) (show W.rangeAt gr (i*26) x.cs from fun j v hv=>(hW.cell (p:=⟨gr,i*26+j,none⟩) hgrw8).trans (uh HRG8 j v hv)))
 have P8:=jd (fun (W:World) (hW:Below w8.heap.size w8 W)=>show W.cell? ⟨w3.heap.size,1,none⟩=some (.int .u32 (pn:Int)) from ((uh NP8).below hW (uh NP8).lt).cell 1)
 go_upto_region 15 with fail
 have hS0:Below w8.heap.size w8 w8.drew:=(Below.refl _ _).drew
 refine wp_region_noPanic (wp_region_held_drew (S:=fun wz=>Below w8.heap.size w8 wz) (by kernel_rfl) hS0 (fun _=>?_))
 refine tq 0 rfl hS0 ?_
 refine tq 1 rfl hS0 ?_
 refine tq 2 rfl hS0 ?_
 refine tJz (v:=.agg #[.int .u32 (x.hi:Int),.int .u32 (x.se:Int)]) 3 rfl (yieldsIf_load_mid (by rfl) 48 (.tmp 67) rfl gr (i*26+22) rfl [.int .u32 (x.hi:Int),.int .u32 (x.se:Int)] dw (fun wz hSw=>(show wz.rangeAt gr (i*26+22) [.int .u32 (x.hi:Int),.int .u32 (x.se:Int)] from fun j v hv=>by rw [Nat.add_assoc (i*26) 22 j]; exact (uh HAT8 wz hSw).win j v hv)) (uh HDW) (uh HDWR) (by kernel_rfl)) hS0 ?_
 refine tq 4 rfl hS0 ?_
 refine tJz (v:=.int .u32 (pn:Int)) 5 rfl (Or.inl ⟨by rfl,fun wz hSw=>?_⟩) hS0 ?_
 ·have hq:=uh P8 wz hSw
  go_simp
 refine Zbk (i:=6) (j:=10) rfl rfl (by kernel_rfl) (fun K hK=>?_) (fun K hK=>?_)
 ·skip
  have hS0':=hS0
  rw [if_pos (by rfl)]
  go_simp
  refine (uh HSH w8.drew).mono ?_
  rintro e w9 ⟨he,hb9'⟩
  obtain rfl:e=.returned (.tuple #[.agg #[.int .u32 (wh:Int),.int .u32 (wl:Int)],.int .i64 we]):=he
  have hb9:Below w8.heap.size w8 w9:=hS0.trans (hb9'.mono hS0.size)
  refine hK.out _ _ hb9 (fun _=>?_)
  clear hK K
  try simp only [Act.put,zA,zB,zC]
  refine tq 7 rfl hb9 ?_
  refine tq 8 rfl hb9 ?_
  refine tq 9 rfl hb9 ?_
  obtain ⟨gw,hgw0⟩ :∃k,w9.heap.size=k:=⟨_,rfl⟩
  have hbw:Blk (w9.alloc (.cells #[.int .u32 0,.int .u32 0] 48)) gw 48 #[.int .u32 0,.int .u32 0]:=by rw [← hgw0]; exact Blk.new w9 _ _
  have hgw:w8.heap.size≤gw:=by have:=hb9.size; omega
  refine tCz 10 rfl fun K hK=>?_
  refine ZaT 48 rfl (Zch _) ?_
  have hba:Below w8.heap.size w8 (w9.alloc (.cells #[.int .u32 0,.int .u32 0] 48)):=hb9.alloc hb9.size _
  refine hK.out _ _ hba (fun _=>?_)
  clear hK K
  try simp only [Act.put,zA,zB,zC]
  rw [hgw0]
  clear hgw0 hb9
  rename Below w8.heap.size w8 (w9.alloc _)=>hb9
  refine tOz 11 rfl fun K hK=>?_
  refine Zaf (by rfl) 48 (.tmp 16) (.tmp 72) rfl gw 48 _ #[.int .u32 (wh:Int),.int .u32 (wl:Int)] rfl rfl hbw rfl (by kernel_rfl) (oZz rfl rfl) ?_
  intro w10 hb10 hg10
  have hB10:Below w8.heap.size w8 w10:=hb9.grown hg10 hb9.size (fun j e=>by injection e with e; omega)
  refine hK.out _ _ hB10 (fun _=>?_)
  clear hK K
  try simp only [Act.put]
  refine tq 12 rfl hB10 ?_
  refine tDz ?_
  have N310:=jd ((uh N38).below hB10 (uh N38).lt)
  have N210:=jd ((uh N28).below hB10 (uh N28).lt)
  have NP10:=jd ((uh NP8).below hB10 (uh NP8).lt)
  have ND10:=jd (Zam (uh ND8) hB10)
  have X10:=jd ((uh X8).trans (hB10.mono (uh X8).size))
  have ROW10:=jd ((uh ROW8).below hB10)
  have hs10:w8.heap.size≤w10.heap.size:=hB10.size
  have NW:=jd hb10
  clear hB10 hb10 hg10 hbw hb9 hS0
  obtain ⟨t9,ht9⟩ :∃t,(we != 0)=t:=⟨_,rfl⟩
  cases t9
  case true =>
   have hne:we≠0:=by simpa using ht9
   have hrr:=uh HR8
   rw [if_pos hne] at hrr
   subst hrr
   clear HR8
   go_wp2_with (first
     | (refine Zab rfl 29 _ rfl [] rfl _ Zan ?_)
     |(refine Zaa rfl 29 (.tmp 6) (.tmp 76) rfl (w.heap.size+1) 29 _ #[.slice none 0 0,.int .u32 0] rfl rfl (uh N210) rfl (by kernel_rfl) (oZz rfl rfl) ?_
       intro w9 hb9 hg9
       have Z9:=jd hb9
       have E9:=jd (gWz (uh X10) hg9)
       clear hb9 hg9)
     | fail)
   exact bodyPost_ret (v:=.tuple #[.agg #[.slice none 0 0,.int .u32 0],.int .u32 0,.int .i64 0,.slice none 0 0,.int .i64 we]) (Zb7 rfl _ (w.heap.size+1) 29 _ _ _ _ _ _ rfl rfl rfl rfl rfl (uh Z9) Tryz.underlying29 rfl (by kernel_rfl)) rfl (ZbP.bad hne rfl (uh E9))
  have hwe:we=0:=by simpa using ht9
  have hrr:=uh HR8
  rw [if_neg (fun h=>h hwe)] at hrr
  subst hrr
  clear HR8
  have hxz1:({ x with hi:=wh,se:=wl }:Sess).Ok:=⟨(uh HXO).id,(uh HXO).user,(uh HXO).client,(uh HXO).server,(uh HXO).key,hwh,hwl,(uh HXO).out⟩
  have hxz2:({ x with hi:=wh,se:=wl,last:=now }:Sess).Ok:=⟨(uh HXO).id,(uh HXO).user,(uh HXO).client,(uh HXO).server,(uh HXO).key,hwh,hwl,(uh HXO).out⟩
  have hok1:ZaE (E.set i { x with hi:=wh,se:=wl }):=(uh HEOK).set hxz1
  have hiE:i < E.length:=(List.getElem?_eq_some_iff.1 (uh HX)).1
  have hx1:(E.set i { x with hi:=wh,se:=wl })[i]?=some { x with hi:=wh,se:=wl }:=List.getElem?_set_self hiE
  have hsplit:∀ (W:World) (M:List Sess) (cu:Array Value) (k:Nat),RowM W gr c4 M cu→i < M.length→k≤26→i*26+k≤cu.size:=fun _ _ _ _ h1 h2 h3=>by have:=h1.size; have:=h1.le; omega
  have hng:∀ (W:World) (q:Nat) (t:TypeId) (cs cu:Array Value),Blk W q t cs→Blk W gr 50 cu→t≠50→some q≠some gr:=fun _ _ _ _ _ hq hb ht e=>by
   injection e with e
   subst e
   exact Blk.ne_ hq hb ht rfl
  have hgw10:gw≠gr:=fun e=>hng _ _ _ _ _ (uh NW) (uh ROW10).blk (by decide) (by rw [e])
  have H1:=jd hxz1
  have H2:=jd hxz2
  have HOK1:=jd hok1
  have HIE:=jd hiE
  have HX1:=jd hx1
  have HSP:=jd hsplit
  have HNG:=jd hng
  clear hxz1 hxz2 hok1 hiE hx1 hsplit hng
  go_upto_region 19 with (first
   | (refine wpList_load_row rfl 48 _ rfl gw rfl 48 _ _ _ (uh NW) Tryz.underlying48 rfl (by kernel_rfl) ?_)
   | (refine Zal rfl 48 (.tmp 83) (.tmp 80) rfl gr (i*26+22) 50 _ (.agg #[.int .u32 (wh:Int),.int .u32 (wl:Int)]) [.int .u32 (wh:Int),.int .u32 (wl:Int)] _ rfl rfl (uh ROW10).blk rfl (by have:=(uh HSP) _ _ _ 24 (uh ROW10) (uh HIE) (by omega); simp; omega) (by kernel_rfl) (oZz rfl rfl) rfl ?_
      intro w11 hb11 hg11
      have R11:Hid (∃ cu,RowM w11 gr c4 (E.set i { x with hi:=wh,se:=wl }) cu):=jd ⟨_,RowM.part (uh ROW10) (uh HEOK) (uh HX) (uh H1) (Sess.set_win (uh HXO) wh wl) (by simp) hb11⟩
      obtain ⟨cu11,r11⟩:=uh R11
      have ROW11:=jd r11
      have N311:=jd ((uh N310).grown hg11 ((uh HNG) _ _ _ _ _ (uh N310) (uh ROW10).blk (by decide)))
      have N211:=jd ((uh N210).grown hg11 ((uh HNG) _ _ _ _ _ (uh N210) (uh ROW10).blk (by decide)))
      have NP11:=jd ((uh NP10).grown hg11 ((uh HNG) _ _ _ _ _ (uh NP10) (uh ROW10).blk (by decide)))
      have ND11:=jd (World.ownsRow.kept (uh ND10) hg11 (.inr (Zad (uh ND10) (uh ROW10).blk (by decide))))
      have X11:=jd (gWz (uh X10) hg11)
      clear hb11 hg11 R11 r11)
   | (refine Zal rfl 2 (.tmp 85) (.tmp 81) rfl gr (i*26+25) 50 _ (.int .i64 now) [.int .i64 now] _ rfl rfl (uh ROW11).blk rfl (by have:=(uh HSP) _ _ _ 26 (uh ROW11) (by rw [List.length_set]; exact (uh HIE)) (by omega); simp; omega) (by kernel_rfl) (one1 rfl) rfl ?_
      intro w12 hb12 hg12
      have R12:Hid (∃ cu,RowM w12 gr c4 ((E.set i { x with hi:=wh,se:=wl }).set i { x with hi:=wh,se:=wl,last:=now }) cu):=jd ⟨_,RowM.part (uh ROW11) (uh HOK1) (uh HX1) (uh H2) (Sess.set_last (uh H1) now) (by simp) hb12⟩
      obtain ⟨cu12,r12⟩:=uh R12
      have ROW12:=jd r12
      have N312:=jd ((uh N311).grown hg12 ((uh HNG) _ _ _ _ _ (uh N311) (uh ROW11).blk (by decide)))
      have N212:=jd ((uh N211).grown hg12 ((uh HNG) _ _ _ _ _ (uh N211) (uh ROW11).blk (by decide)))
      have NP12:=jd ((uh NP11).grown hg12 ((uh HNG) _ _ _ _ _ (uh NP11) (uh ROW11).blk (by decide)))
      have ND12:=jd (World.ownsRow.kept (uh ND11) hg12 (.inr (Zad (uh ND11) (uh ROW11).blk (by decide))))
      have X12:=jd (gWz (uh X11) hg12)
      clear hb12 hg12 R12 r12)
   | fail)
  have hgr2:gr≠w.heap.size+1:=fun e=>(uh HNG) _ _ _ _ _ (uh N212) (uh ROW12).blk (by decide) (by rw [e])
  have hB0:Below w12.heap.size w12 w12.drew:=(Below.refl _ _).drew
  have hS0:(fun wz=>Blk wz w4.heap.size 29 #[.slice (some ⟨gr,0,none⟩) m c4,.int .u32 (nx:Int)]∧Blk wz w3.heap.size 123 #[.int .u32 (pid:Int),.int .u32 (pn:Int),.int .i64 (pk.toNat:Int),.slice Ad nd cd]) w12.drew:=⟨uh N312,uh NP12⟩
  refine wp_region_noPanic (wp_region_held_drew (S:=fun wz=>Blk wz w4.heap.size 29 #[.slice (some ⟨gr,0,none⟩) m c4,.int .u32 (nx:Int)]∧Blk wz w3.heap.size 123 #[.int .u32 (pid:Int),.int .u32 (pn:Int),.int .i64 (pk.toNat:Int),.slice Ad nd cd]) (by kernel_rfl) hS0 (fun _=>?_))
  refine tJz 0 rfl (Zar 29 (.tmp 13) (by rfl) rfl w4.heap.size rfl 29 #[.slice (some ⟨gr,0,none⟩) m c4,.int .u32 (nx:Int)] _ (fun _ h=>h.1) Tryz.underlying29 rfl (by kernel_rfl)) hS0 ?_
  refine tq 1 rfl hS0 ?_
  refine tJz (v:=.int .u32 (pid:Int)) 2 rfl (Or.inl ⟨by rfl,fun wz hSw=>?_⟩) hS0 ?_
  ·have hq:wz.cell? ⟨w3.heap.size,0,none⟩=some (.int .u32 (pid:Int)):=hSw.2.cell 0
   go_simp
  refine tq 3 rfl hS0 ?_
  refine tJz (v:=.int .i64 (pk.toNat:Int)) 4 rfl (Or.inl ⟨by rfl,fun wz hSw=>?_⟩) hS0 ?_
  ·have hq:wz.cell? ⟨w3.heap.size,2,none⟩=some (.int .i64 (pk.toNat:Int)):=hSw.2.cell 2
   go_simp
  refine tq 5 rfl hS0 ?_
  refine tJz (v:=.slice Ad nd cd) 6 rfl (Or.inl ⟨by rfl,fun wz hSw=>?_⟩) hS0 ?_
  ·have hq:wz.cell? ⟨w3.heap.size,3,none⟩=some (.slice Ad nd cd):=hSw.2.cell 3
   go_simp
  refine tOz 7 rfl fun K hK=>?_
  have q1:Blk w12.drew (w.heap.size+1) 29 #[.slice none 0 0,.int .u32 0]:=uh N212
  refine Zaf (by rfl) 29 (.tmp 6) (.tmp 86) rfl (w.heap.size+1) 29 _ #[.slice (some ⟨gr,0,none⟩) m c4,.int .u32 (nx:Int)] rfl rfl q1 rfl (by kernel_rfl) (oZz rfl rfl) ?_
  intro w13 hb13 hg13
  have hS13:Blk w13 w4.heap.size 29 #[.slice (some ⟨gr,0,none⟩) m c4,.int .u32 (nx:Int)]∧Blk w13 w3.heap.size 123 #[.int .u32 (pid:Int),.int .u32 (pn:Int),.int .i64 (pk.toNat:Int),.slice Ad nd cd]:=⟨hS0.1.grown hg13 (fun e=>by injection e with e; omega),hS0.2.grown hg13 (fun e=>by injection e with e; omega)⟩
  have ho13:=World.ownsRow.kept (w:=w12.drew) (uh ND12) hg13 (.inr (Zad (w:=w12.drew) (uh ND12) q1 (by decide)))
  have hr13:=RowM.grown (w:=w12.drew) (RowM.mk (uh ROW12).blk (uh ROW12).size (uh ROW12).le (uh ROW12).cap (uh ROW12).take) hg13 hgr2
  have hx13:=(uh X12).drew.grown hg13 (uh X12).size (fun j e=>by injection e with e; omega)
  refine hK.out _ _ hS13 (fun _=>?_)
  clear hK K
  try simp only [Act.put]
  refine tq 8 rfl hS13 ?_
  refine tq 9 rfl hS13 ?_
  refine tq 10 rfl hS13 ?_
  refine tq 11 rfl hS13 ?_
  refine tDz ?_
  have H13:=jd hb13
  have O13:=jd ho13
  have ROW13:=jd hr13
  have X13:=jd hx13
  clear hb13 ho13 hr13 hx13 hg13 hS13 hS0 hB0 q1
  go_wp2_with fail
  refine bodyPost_ret (v:=.tuple #[.agg #[.slice (some ⟨gr,0,none⟩) m c4,.int .u32 (nx:Int)],.int .u32 (pid:Int),.int .i64 (pk.toNat:Int),.slice Ad nd cd,.int .i64 0]) (Zb7 rfl _ (w.heap.size+1) 29 _ _ _ _ _ _ rfl rfl rfl rfl rfl (uh H13) Tryz.underlying29 rfl (by kernel_rfl)) rfl ?_
  unfold ZbP
  rw [if_pos rfl]
  refine ⟨_,_,rfl,?_,?_,uh X13⟩
  ·dsimp only
   have hr:=uh ROW13
   rw [List.set_set] at hr
   rw [List.length_set,uh HM]
   exact hr.whole ((uh HEOK).set (uh H2)) (by have:=(uh X6).size; omega) (by rw [List.length_set]; exact uh HM)
  ·dsimp only
   rw [uh HPD]
   exact uh O13
 ·skip
  obtain ⟨gw,hgw0⟩ :∃k,w8.drew.heap.size=k:=⟨_,rfl⟩
  have hbw0:Blk (w8.drew.alloc (.cells #[.int .u32 0,.int .u32 0] 48)) gw 48 #[.int .u32 0,.int .u32 0]:=by rw [← hgw0]; exact Blk.new w8.drew _ _
  have hgw:w8.heap.size≤gw:=Nat.le_of_eq hgw0
  rw [if_pos (by rfl)]
  refine ZaT 48 rfl (Zch _) ?_
  have hba:Below w8.heap.size w8 (w8.drew.alloc (.cells #[.int .u32 0,.int .u32 0] 48)):=hS0.alloc hS0.size _
  refine hK.out _ _ hba (fun _=>?_)
  clear hK K
  try simp only [Act.put,zA,zB,zC]
  rw [hgw0]
  refine tCz 6 rfl fun K hK=>?_
  go_simp
  refine (uh HSH (w8.drew.alloc (.cells #[.int .u32 0,.int .u32 0] 48))).mono ?_
  rintro e w9 ⟨he,hb9'⟩
  obtain rfl:e=.returned (.tuple #[.agg #[.int .u32 (wh:Int),.int .u32 (wl:Int)],.int .i64 we]):=he
  have hb9:Below w8.heap.size w8 w9:=hba.trans (hb9'.mono hba.size)
  refine hK.out _ _ hb9 (fun _=>?_)
  clear hK K
  try simp only [Act.put,zA,zB,zC]
  refine tq 7 rfl hb9 ?_
  refine tq 8 rfl hb9 ?_
  refine tq 9 rfl hb9 ?_
  have hbw:Blk w9 gw 48 #[.int .u32 0,.int .u32 0]:=hbw0.below hb9' hbw0.lt
  clear hgw0 hbw0 hb9' hba
  refine tOz 11 rfl fun K hK=>?_
  refine Zaf (by rfl) 48 (.tmp 16) (.tmp 72) rfl gw 48 _ #[.int .u32 (wh:Int),.int .u32 (wl:Int)] rfl rfl hbw rfl (by kernel_rfl) (oZz rfl rfl) ?_
  intro w10 hb10 hg10
  have hB10:Below w8.heap.size w8 w10:=hb9.grown hg10 hb9.size (fun j e=>by injection e with e; omega)
  refine hK.out _ _ hB10 (fun _=>?_)
  clear hK K
  try simp only [Act.put]
  refine tq 12 rfl hB10 ?_
  refine tDz ?_
  have N310:=jd ((uh N38).below hB10 (uh N38).lt)
  have N210:=jd ((uh N28).below hB10 (uh N28).lt)
  have NP10:=jd ((uh NP8).below hB10 (uh NP8).lt)
  have ND10:=jd (Zam (uh ND8) hB10)
  have X10:=jd ((uh X8).trans (hB10.mono (uh X8).size))
  have ROW10:=jd ((uh ROW8).below hB10)
  have hs10:w8.heap.size≤w10.heap.size:=hB10.size
  have NW:=jd hb10
  clear hB10 hb10 hg10 hbw hb9 hS0
  obtain ⟨t9,ht9⟩ :∃t,(we != 0)=t:=⟨_,rfl⟩
  cases t9
  case true =>
   have hne:we≠0:=by simpa using ht9
   have hrr:=uh HR8
   rw [if_pos hne] at hrr
   subst hrr
   clear HR8
   go_wp2_with (first
     | (refine Zab rfl 29 _ rfl [] rfl _ Zan ?_)
     |(refine Zaa rfl 29 (.tmp 6) (.tmp 76) rfl (w.heap.size+1) 29 _ #[.slice none 0 0,.int .u32 0] rfl rfl (uh N210) rfl (by kernel_rfl) (oZz rfl rfl) ?_
       intro w9 hb9 hg9
       have Z9:=jd hb9
       have E9:=jd (gWz (uh X10) hg9)
       clear hb9 hg9)
     | fail)
   exact bodyPost_ret (v:=.tuple #[.agg #[.slice none 0 0,.int .u32 0],.int .u32 0,.int .i64 0,.slice none 0 0,.int .i64 we]) (Zb7 rfl _ (w.heap.size+1) 29 _ _ _ _ _ _ rfl rfl rfl rfl rfl (uh Z9) Tryz.underlying29 rfl (by kernel_rfl)) rfl (ZbP.bad hne rfl (uh E9))
  have hwe:we=0:=by simpa using ht9
  have hrr:=uh HR8
  rw [if_neg (fun h=>h hwe)] at hrr
  subst hrr
  clear HR8
  have hxz1:({ x with hi:=wh,se:=wl }:Sess).Ok:=⟨(uh HXO).id,(uh HXO).user,(uh HXO).client,(uh HXO).server,(uh HXO).key,hwh,hwl,(uh HXO).out⟩
  have hxz2:({ x with hi:=wh,se:=wl,last:=now }:Sess).Ok:=⟨(uh HXO).id,(uh HXO).user,(uh HXO).client,(uh HXO).server,(uh HXO).key,hwh,hwl,(uh HXO).out⟩
  have hok1:ZaE (E.set i { x with hi:=wh,se:=wl }):=(uh HEOK).set hxz1
  have hiE:i < E.length:=(List.getElem?_eq_some_iff.1 (uh HX)).1
  have hx1:(E.set i { x with hi:=wh,se:=wl })[i]?=some { x with hi:=wh,se:=wl }:=List.getElem?_set_self hiE
  have hsplit:∀ (W:World) (M:List Sess) (cu:Array Value) (k:Nat),RowM W gr c4 M cu→i < M.length→k≤26→i*26+k≤cu.size:=fun _ _ _ _ h1 h2 h3=>by have:=h1.size; have:=h1.le; omega
  have hng:∀ (W:World) (q:Nat) (t:TypeId) (cs cu:Array Value),Blk W q t cs→Blk W gr 50 cu→t≠50→some q≠some gr:=fun _ _ _ _ _ hq hb ht e=>by
   injection e with e
   subst e
   exact Blk.ne_ hq hb ht rfl
  have hgw10:gw≠gr:=fun e=>hng _ _ _ _ _ (uh NW) (uh ROW10).blk (by decide) (by rw [e])
  have H1:=jd hxz1
  have H2:=jd hxz2
  have HOK1:=jd hok1
  have HIE:=jd hiE
  have HX1:=jd hx1
  have HSP:=jd hsplit
  have HNG:=jd hng
  clear hxz1 hxz2 hok1 hiE hx1 hsplit hng
  go_upto_region 19 with (first
   | (refine wpList_load_row rfl 48 _ rfl gw rfl 48 _ _ _ (uh NW) Tryz.underlying48 rfl (by kernel_rfl) ?_)
   | (refine Zal rfl 48 (.tmp 83) (.tmp 80) rfl gr (i*26+22) 50 _ (.agg #[.int .u32 (wh:Int),.int .u32 (wl:Int)]) [.int .u32 (wh:Int),.int .u32 (wl:Int)] _ rfl rfl (uh ROW10).blk rfl (by have:=(uh HSP) _ _ _ 24 (uh ROW10) (uh HIE) (by omega); simp; omega) (by kernel_rfl) (oZz rfl rfl) rfl ?_
      intro w11 hb11 hg11
      have R11:Hid (∃ cu,RowM w11 gr c4 (E.set i { x with hi:=wh,se:=wl }) cu):=jd ⟨_,RowM.part (uh ROW10) (uh HEOK) (uh HX) (uh H1) (Sess.set_win (uh HXO) wh wl) (by simp) hb11⟩
      obtain ⟨cu11,r11⟩:=uh R11
      have ROW11:=jd r11
      have N311:=jd ((uh N310).grown hg11 ((uh HNG) _ _ _ _ _ (uh N310) (uh ROW10).blk (by decide)))
      have N211:=jd ((uh N210).grown hg11 ((uh HNG) _ _ _ _ _ (uh N210) (uh ROW10).blk (by decide)))
      have NP11:=jd ((uh NP10).grown hg11 ((uh HNG) _ _ _ _ _ (uh NP10) (uh ROW10).blk (by decide)))
      have ND11:=jd (World.ownsRow.kept (uh ND10) hg11 (.inr (Zad (uh ND10) (uh ROW10).blk (by decide))))
      have X11:=jd (gWz (uh X10) hg11)
      clear hb11 hg11 R11 r11)
   | (refine Zal rfl 2 (.tmp 85) (.tmp 81) rfl gr (i*26+25) 50 _ (.int .i64 now) [.int .i64 now] _ rfl rfl (uh ROW11).blk rfl (by have:=(uh HSP) _ _ _ 26 (uh ROW11) (by rw [List.length_set]; exact (uh HIE)) (by omega); simp; omega) (by kernel_rfl) (one1 rfl) rfl ?_
      intro w12 hb12 hg12
      have R12:Hid (∃ cu,RowM w12 gr c4 ((E.set i { x with hi:=wh,se:=wl }).set i { x with hi:=wh,se:=wl,last:=now }) cu):=jd ⟨_,RowM.part (uh ROW11) (uh HOK1) (uh HX1) (uh H2) (Sess.set_last (uh H1) now) (by simp) hb12⟩
      obtain ⟨cu12,r12⟩:=uh R12
      have ROW12:=jd r12
      have N312:=jd ((uh N311).grown hg12 ((uh HNG) _ _ _ _ _ (uh N311) (uh ROW11).blk (by decide)))
      have N212:=jd ((uh N211).grown hg12 ((uh HNG) _ _ _ _ _ (uh N211) (uh ROW11).blk (by decide)))
      have NP12:=jd ((uh NP11).grown hg12 ((uh HNG) _ _ _ _ _ (uh NP11) (uh ROW11).blk (by decide)))
      have ND12:=jd (World.ownsRow.kept (uh ND11) hg12 (.inr (Zad (uh ND11) (uh ROW11).blk (by decide))))
      have X12:=jd (gWz (uh X11) hg12)
      clear hb12 hg12 R12 r12)
   | fail)
  have hgr2:gr≠w.heap.size+1:=fun e=>(uh HNG) _ _ _ _ _ (uh N212) (uh ROW12).blk (by decide) (by rw [e])
  have hB0:Below w12.heap.size w12 w12.drew:=(Below.refl _ _).drew
  have hS0:(fun wz=>Blk wz w4.heap.size 29 #[.slice (some ⟨gr,0,none⟩) m c4,.int .u32 (nx:Int)]∧Blk wz w3.heap.size 123 #[.int .u32 (pid:Int),.int .u32 (pn:Int),.int .i64 (pk.toNat:Int),.slice Ad nd cd]) w12.drew:=⟨uh N312,uh NP12⟩
  refine wp_region_noPanic (wp_region_held_drew (S:=fun wz=>Blk wz w4.heap.size 29 #[.slice (some ⟨gr,0,none⟩) m c4,.int .u32 (nx:Int)]∧Blk wz w3.heap.size 123 #[.int .u32 (pid:Int),.int .u32 (pn:Int),.int .i64 (pk.toNat:Int),.slice Ad nd cd]) (by kernel_rfl) hS0 (fun _=>?_))
  refine tJz 0 rfl (Zar 29 (.tmp 13) (by rfl) rfl w4.heap.size rfl 29 #[.slice (some ⟨gr,0,none⟩) m c4,.int .u32 (nx:Int)] _ (fun _ h=>h.1) Tryz.underlying29 rfl (by kernel_rfl)) hS0 ?_
  refine tq 1 rfl hS0 ?_
  refine tJz (v:=.int .u32 (pid:Int)) 2 rfl (Or.inl ⟨by rfl,fun wz hSw=>?_⟩) hS0 ?_
  ·have hq:wz.cell? ⟨w3.heap.size,0,none⟩=some (.int .u32 (pid:Int)):=hSw.2.cell 0
   go_simp
  refine tq 3 rfl hS0 ?_
  refine tJz (v:=.int .i64 (pk.toNat:Int)) 4 rfl (Or.inl ⟨by rfl,fun wz hSw=>?_⟩) hS0 ?_
  ·have hq:wz.cell? ⟨w3.heap.size,2,none⟩=some (.int .i64 (pk.toNat:Int)):=hSw.2.cell 2
   go_simp
  refine tq 5 rfl hS0 ?_
  refine tJz (v:=.slice Ad nd cd) 6 rfl (Or.inl ⟨by rfl,fun wz hSw=>?_⟩) hS0 ?_
  ·have hq:wz.cell? ⟨w3.heap.size,3,none⟩=some (.slice Ad nd cd):=hSw.2.cell 3
   go_simp
  refine tOz 7 rfl fun K hK=>?_
  have q1:Blk w12.drew (w.heap.size+1) 29 #[.slice none 0 0,.int .u32 0]:=uh N212
  refine Zaf (by rfl) 29 (.tmp 6) (.tmp 86) rfl (w.heap.size+1) 29 _ #[.slice (some ⟨gr,0,none⟩) m c4,.int .u32 (nx:Int)] rfl rfl q1 rfl (by kernel_rfl) (oZz rfl rfl) ?_
  intro w13 hb13 hg13
  have hS13:Blk w13 w4.heap.size 29 #[.slice (some ⟨gr,0,none⟩) m c4,.int .u32 (nx:Int)]∧Blk w13 w3.heap.size 123 #[.int .u32 (pid:Int),.int .u32 (pn:Int),.int .i64 (pk.toNat:Int),.slice Ad nd cd]:=⟨hS0.1.grown hg13 (fun e=>by injection e with e; omega),hS0.2.grown hg13 (fun e=>by injection e with e; omega)⟩
  have ho13:=World.ownsRow.kept (w:=w12.drew) (uh ND12) hg13 (.inr (Zad (w:=w12.drew) (uh ND12) q1 (by decide)))
  have hr13:=RowM.grown (w:=w12.drew) (RowM.mk (uh ROW12).blk (uh ROW12).size (uh ROW12).le (uh ROW12).cap (uh ROW12).take) hg13 hgr2
  have hx13:=(uh X12).drew.grown hg13 (uh X12).size (fun j e=>by injection e with e; omega)
  refine hK.out _ _ hS13 (fun _=>?_)
  clear hK K
  try simp only [Act.put]
  refine tq 8 rfl hS13 ?_
  refine tq 9 rfl hS13 ?_
  refine tq 10 rfl hS13 ?_
  refine tq 11 rfl hS13 ?_
  refine tDz ?_
  have H13:=jd hb13
  have O13:=jd ho13
  have ROW13:=jd hr13
  have X13:=jd hx13
  clear hb13 ho13 hr13 hx13 hg13 hS13 hS0 hB0 q1
  go_wp2_with fail
  refine bodyPost_ret (v:=.tuple #[.agg #[.slice (some ⟨gr,0,none⟩) m c4,.int .u32 (nx:Int)],.int .u32 (pid:Int),.int .i64 (pk.toNat:Int),.slice Ad nd cd,.int .i64 0]) (Zb7 rfl _ (w.heap.size+1) 29 _ _ _ _ _ _ rfl rfl rfl rfl rfl (uh H13) Tryz.underlying29 rfl (by kernel_rfl)) rfl ?_
  unfold ZbP
  rw [if_pos rfl]
  refine ⟨_,_,rfl,?_,?_,uh X13⟩
  ·dsimp only
   have hr:=uh ROW13
   rw [List.set_set] at hr
   rw [List.length_set,uh HM]
   exact hr.whole ((uh HEOK).set (uh H2)) (by have:=(uh X6).size; omega) (by rw [List.length_set]; exact uh HM)
  ·dsimp only
   rw [uh HPD]
   exact uh O13
end Go.Proofs.YtfbkkmnkpjgciaaGreat
