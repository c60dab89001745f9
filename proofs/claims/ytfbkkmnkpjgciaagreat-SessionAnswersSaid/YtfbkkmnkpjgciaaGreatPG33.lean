/- Joined of GBegin TStepP TStepD. No condition. -/
import Derived.Test.YtfbkkmnkpjgciaaGreatPG28
import Derived.Test.YtfbkkmnkpjgciaaGreatPG15
import Derived.Test.YtfbkkmnkpjgciaaGreatPG31
import Derived.Lib.AppendStr
import Derived.Test.YtfbkkmnkpjgciaaGreatPG32
namespace Go.Proofs.YtfbkkmnkpjgciaaGreat
open Go.RowKit
section
open Go.Lib
variable {P:Program} {w:World}
theorem Zfc {ops:Array Oper} {o:Oper} {a:Act} {K:Act→World→Prop} {Q:Exit→Act→World→Prop} {E:Prop} (hgd:o.guard=none) (sl x:Operand) (t u:TypeId)
  (ho:o.op=.call { callee:=.builtin .append,args:=#[sl,x],argTypes:=#[t,u] })
  (base:Nat) (e:TypeId) (i:TypeInfo) (ht:P.underlying t=some (.slice e)) (hu:P.underlying u=some .string) (hi:P.info? e=some i) (hz:i.zero=some (.int .u8 0))
  (hsize:i.size=1) (hby:i.bytes=1)
  (v:Value) (n:Nat) (xs:List Value) (hs:a.eval sl=v) (hown:w.ownsRow base e 1 v n xs) (s:ByteArray) (hx:a.eval x=.string s)
  (h63:n+s.size≤maxLen) (hbytes:n+s.size≤140737488355328) (hbase:base≤w.heap.size)
  (h:∀ v' w',w'.ownsRow base e 1 v' (n+s.size) (xs++strCells s)→w.grownBy w' v.ownBlock→K (a.put o.dst v') w') :
  if Region.wanted o (yielded ops a.tmps)=true then Oper.wp P o a w K Q else E:=by
 rw [if_pos (by unfold Region.wanted; rw [hgd])]
 obtain ⟨v',w',hr,h2,h3,h4⟩:=run_append_own_string (P:=P) w base t u o.type e i ht hu hi hz hsize hby v n xs hown s h63 hbytes hbase
 unfold Oper.wp execOp
 simp only [ho,resolve,invoke,builtin,Sem.run_bind,Sem.run_pure,Result.andThen_ok,List.map_toArray,List.map_cons,List.map_nil,hs,hx,hr]
 exact h v' w' h2 h3
end
theorem strCells_b (u:List UInt8):Go.Lib.strCells ⟨u.toArray⟩=bsV u:=by
 unfold Go.Lib.strCells bsV; simp
def begC (u ks:List UInt8) (l:Int) (n:Nat):CRes :=
 if ZbC u=false then badC 1 else if decide (1≤l∧l≤3)=false then badC 2 else ⟨0,ZbF u ks l n,Zdm u (levB l) n⟩
set_option maxRecDepth 100000 in
set_option maxHeartbeats 16000000 in
theorem Zei (w:World) (u ks:List UInt8) (hu:u.length≤maxLen) (hk:ks.length=16) (l:Int) (n:Nat) (hn:n < 18446744073709551616) (r:CRes) (hp:begC u ks l n=r) :
  Calls Tryz.prog 21 #[.string ⟨u.toArray⟩,.agg (bsV ks).toArray,.int .i64 l,.int .u64 (n:Int)] w (Zb3 w r):=by
 obtain ⟨W1,hW1⟩ :∃W1,(w.alloc (.cells (bsV ks).toArray 46)).alloc (.cells zCli.cs.toArray 65)=W1:=⟨_,rfl⟩
 have K0:Hid (Blk W1 w.heap.size 46 (bsV ks).toArray):=jd (hW1 ▸ ((Blk.new w _ _).alloc _))
 have K2:Hid (Blk W1 (w.heap.size+1) 65 zCli.cs.toArray):=jd (hW1 ▸ (Blk.new' (by simp)))
 have B1:Hid (Below w.heap.size w W1):=jd (hW1 ▸ ((Below.refl _ _).alloc (Nat.le_refl _) _).alloc (by rw [Zae]; omega) _)
 have hs1:w.heap.size+1 < W1.heap.size:=(uh K2).lt
 have HW1:=jd hW1
 have HSZ:=jd (Zbo hk)
 have HP:=jd hp
 have HU:=jd hu
 have HOK:=jd (ZcZ (l:=l) hu hk hn)
 have BC:Hid (Tryz.prog.built 65 [(0,.string ⟨u.toArray⟩),(1,.agg (bsV ks).toArray),(2,.int .i64 l),(3,.int .u64 (n:Int))]=some (ZbF u ks l n).cs.toArray):=jd (Zes u ks hk l n)
 obtain ⟨t1,ht1⟩ :∃t,ZbC u=t:=⟨_,rfl⟩
 obtain ⟨t2,ht2⟩ :∃t,decide (1≤l∧l≤3)=t:=⟨_,rfl⟩
 have HT1:=jd ht1
 have HT2:=jd ht2
 clear hW1 hk hp hu ht1 ht2
 go_enter Tryz.func21,Tryz.ntmps21
 go_upto_region 1 with (first
  | (refine Zag rfl 65 rfl _ (w.heap.size+1) (Zae _ _) (Zaz _) ?_)
  | fail)
 rw [uh HW1]
 go_wp2_with fail
 refine (ZaN W1 u (uh HU) t1 (uh HT1)).mono ?_
 rintro e w2 ⟨rfl,hw2⟩
 have hw3:=hw2.symm
 subst hw3
 have J0:=K0
 have J2:=K2
 have X2:=B1
 cases t1
 case false =>
  have hrr:=uh HP
  unfold begC at hrr
  rw [if_pos (uh HT1)] at hrr
  subst hrr
  clear HP
  go_wp2_with (first
   | (refine Zab rfl 65 _ rfl [] rfl _ Zax ?_)
   |(refine Zaa rfl 65 (.tmp 8) (.tmp 16) rfl (w.heap.size+1) 65 _ zCli.cs.toArray rfl rfl (uh J2) rfl (Zai Zau) (fun v hv=>Cli.one v (by simpa using hv)) ?_
     intro w9 hb9 hg9
     have Z9:=jd hb9
     have E9:=jd (gWz (uh X2) hg9)
     clear hb9 hg9)
   | fail)
  exact rCz rfl rfl rfl rfl (uh Z9) (uh E9)
 cases t2
 case false =>
  have hrr:=uh HP
  unfold begC at hrr
  rw [if_neg (by rw [uh HT1]; simp),if_pos (uh HT2)] at hrr
  subst hrr
  clear HP
  go_wp2_with (first
   | (refine Zab rfl 65 _ rfl [] rfl _ Zax ?_)
   |(refine Zaa rfl 65 (.tmp 8) (.tmp 21) rfl (w.heap.size+1) 65 _ zCli.cs.toArray rfl rfl (uh J2) rfl (Zai Zau) (fun v hv=>Cli.one v (by simpa using hv)) ?_
     intro w9 hb9 hg9
     have Z9:=jd hb9
     have E9:=jd (gWz (uh X2) hg9)
     clear hb9 hg9)
   | (go_at_call 63; refine (Za2 _ l _ (uh HT2)).mono ?_; rintro e w' ⟨rfl,rfl⟩)
   | fail)
  exact rCz rfl rfl rfl rfl (uh Z9) (uh E9)
 have hrr:=uh HP
 unfold begC at hrr
 rw [if_neg (by rw [uh HT1]; simp),if_neg (by rw [uh HT2]; simp)] at hrr
 have HP2:=jd hrr
 have hl13:1≤l∧l≤3:=of_decide_eq_true (uh HT2)
 have hlw:IntKind.u8.wrap l=((levB l).toNat:Int):=by rw [Zd3 (uh HT2),IntKind.wrap_u8']; omega
 have hu16:=Zd4 (uh HT1)
 clear hrr HP hl13
 go_upto_region 5 with (first
  | (go_at_call 63; refine (Za2 _ l _ (uh HT2)).mono ?_; rintro e w' ⟨rfl,rfl⟩)
  | fail)
 go_wp2_with (first
  | (refine ZaD rfl 22 1 _ rfl [(0,.int .u8 ((1:UInt8).toNat:Int))] rfl _ _ (Za0 w2 1) ?_)
  | fail)
 have R1:=ZeJ w2 w2.heap.size (Nat.le_refl _) 1
 have Y1:Below w2.heap.size w2 (w2.alloc (.cells #[.int .u8 ((1:UInt8).toNat:Int)] 5)):=(Below.refl _ _).alloc (Nat.le_refl _) _
 refine (Zbt (w2.alloc (.cells #[.int .u8 ((1:UInt8).toNat:Int)] 5)) (n:Int) 8 (by decide)).mono ?_
 rintro e w3 ⟨v3,rfl,o3,b3⟩
 obtain ⟨A3,c3,rfl,hc3,hm3⟩:=Zac o3
 have N3:=jd (Zaj.of_own o3)
 have R3:=jd (Zam R1 b3)
 have Y3:=jd (Y1.trans (b3.mono (by rw [Zae]; omega)))
 have hs3:=(uh Y3).size
 clear R1 Y1 o3 b3
 go_upto_region 6 with (first
  |(at_builtin; refine Zbc w3 (.tmp 22) (.tmp 24) _ A3 8 c3 rfl rfl rfl rfl w2.heap.size 1 [1] (uh R3) _ (leB (n:Int) 8) (uh N3) (by decide) (by omega) ?_
    intro A4 c4 w4 o4 hc4 hm4 b4
    have R4:=jd (o4.alloc (.cells #[.int .u8 ((levB l).toNat:Int)] 5))
    have N4:=jd (Zaj.of_own (ZeJ w4 w4.heap.size (Nat.le_refl _) (levB l)))
    have Y4:=jd ((uh Y3).trans b4)
    have hs4:=(uh Y4).size
    clear o4 b4)
  | (refine ZaD rfl 22 1 _ rfl [(0,.int .u8 ((levB l).toNat:Int))] rfl _ _ (Za0 w4 (levB l)) ?_)
  |(at_builtin; refine Zbc (w4.alloc (.cells #[.int .u8 ((levB l).toNat:Int)] 5)) (.tmp 25) (.tmp 28) _ (some ⟨w4.heap.size,0,none⟩) 1 1 rfl rfl rfl rfl w2.heap.size 9 _ (uh R4) _ [levB l] (uh N4) (by decide) (by rw [Zae]; omega) ?_
    intro A5 c5 w5 o5 hc5 hm5 b5
    have R5:=jd o5
    have Y5:=jd (((uh Y4).alloc (by omega) _).trans b5)
    have hs5:=(uh Y5).size
    have D0:=jd ((uh J0).below (uh Y5) (uh J0).lt)
    have D2:=jd ((uh J2).below (uh Y5) (uh J2).lt)
    have X5:=jd ((uh X2).trans ((uh Y5).mono (uh X2).size))
    clear o5 b5)
  | fail)
 obtain ⟨i0,hi,hz0,hz1,hz2⟩:=info_parts ZcF
 have HI:=jd hi
 have HZ0:=jd hz0
 have HZ1:=jd hz1
 have HZ2:=jd hz2
 clear hi hz0 hz1 hz2
 have hB0:Below w5.heap.size w5 w5.drew:=(Below.refl _ _).drew
 have hS0:(fun wz=>Blk wz w.heap.size 46 (bsV ks).toArray) w5.drew:=(uh D0).drew
 refine wp_region_noPanic (wp_region_held_drew (S:=fun wz=>Blk wz w.heap.size 46 (bsV ks).toArray) (by kernel_rfl) hS0 (fun _=>?_))
 clear hB0
 refine tq 0 rfl hS0 ?_
 refine tJz 1 rfl (Zar 46 (.tmp 5) (by rfl) rfl w.heap.size rfl 46 (bsV ks).toArray _ (fun _ h=>h) Tryz.underlying46 rfl (uh HSZ)) hS0 ?_
 refine tq 2 rfl hS0 ?_
 refine tq 3 rfl hS0 ?_
 refine tJz (v:=.agg (ZbF u ks l n).cs.toArray) 4 rfl (y_build 65 _ (by rfl) rfl [(0,.string ⟨u.toArray⟩),(1,.agg (bsV ks).toArray),(2,.int .i64 l),(3,.int .u64 (n:Int))] rfl _ (uh BC)) hS0 ?_
 refine tq 5 rfl hS0 ?_
 refine tq 6 rfl hS0 ?_
 refine tOz 7 rfl fun K hK=>?_
 refine Zfc (w:=w5.drew) rfl (.tmp 35) (.tmp 36) 22 9 rfl w2.heap.size 5 i0 Tryz.underlying22 Tryz.underlying9 (uh HI) (uh HZ0) (uh HZ1) (uh HZ2) _ 10 _ rfl (uh R5).drew ⟨u.toArray⟩ rfl (by show 10+u.length≤maxLen; unfold maxLen; omega) (by show 10+u.length≤_; omega) hs5 ?_
 rw [strCells_b,show ByteArray.size ⟨u.toArray⟩=u.length from rfl]
 intro v6 w6 o6 g6
 have b6:Below w2.heap.size w5.drew w6:=(Below.refl _ _).grown g6 hs5 (Zaw (uh R5).drew)
 have h6:Below w2.heap.size w2 w6:=(uh Y5).drew.trans b6
 have hs6:=h6.size
 have D6:=(uh J0).below h6 (uh J0).lt
 have E6:=(uh J2).below h6 (uh J2).lt
 refine hK.out _ _ D6 (fun _=>?_)
 clear hK K
 try simp only [Act.put,zA,zB,zC]
 refine tOz 8 rfl fun K hK=>?_
 refine Zaf (by rfl) 65 (.tmp 8) (.tmp 34) rfl (w.heap.size+1) 65 _ (ZbF u ks l n).cs.toArray rfl rfl E6 (Cli.size_eq (uh HOK)) (Zai (uh HOK)) (fun v hv=>Cli.one v (by simpa using hv)) ?_
 intro w7 hb7 hg7
 have X7:Below w.heap.size w w7:=((uh X2).trans (h6.mono (uh X2).size)).grown hg7 (by have:=(uh X2).size; omega) (fun j e=>by injection e with e; omega)
 have o7:=World.ownsRow.kept o6 hg7 (.inr (Zad o6 E6 (by decide)))
 have R7:=jd hb7
 have XX7:=jd X7
 have O7:=jd (Zak o7 (uh X2).size)
 have D7:=D6.grown hg7 (fun e=>by injection e with e; omega)
 clear hb7 hg7 X7 o7 o6
 refine hK.out _ _ D7 (fun _=>?_)
 clear hK K
 try simp only [Act.put]
 refine tq 9 rfl D7 ?_
 refine tq 10 rfl D7 ?_
 refine tDz ?_
 have hrr:=uh HP2
 subst hrr
 go_wp2_with fail
 refine bodyPost_ret (v:=.tuple #[.agg (ZbF u ks l n).cs.toArray,v6,.int .i64 0]) (Za4 rfl _ (w.heap.size+1) 65 _ _ _ _ rfl rfl rfl (uh R7) Tryz.underlying65 rfl (Zai (uh HOK))) rfl ?_
 show Zb3 w _ _ _
 unfold Zb3
 rw [if_pos rfl]
 refine ⟨v6,rfl,?_,uh XX7⟩
 have:=uh O7
 rw [Zev]
 rw [show bsV ([1]++leB (n:Int) 8++[levB l])++bsV u=bsV (Zdm u (levB l) n) by simp [Zdm,Zbh,bsV]] at this
 exact this
def KB2 (w w':World) (g gw:Nat):Prop:=∀ j t cs,Blk w j t cs→j≠g→j≠gw→t≠22→t≠65→Blk w' j t cs
structure SI (w wi:World) (base B g gw:Nat) (d:Wd) (vs vu vc vx vp:Value) (V:List Value):Prop where
 wd:WdAt wi base gw d vs vu vc vx vp V
 c:Zaq wi B g
 low:Below g w wi
 kb:KB2 w wi g gw
section
variable {w wi wj:World} {base B g gw:Nat} {d:Wd} {vs vu vc vx vp:Value} {V:List Value}
theorem SI.start (hc:Zaq w B g) (h:WdAt w base gw d vs vu vc vx vp V):SI w w base B g gw d vs vu vc vx vp V:=⟨h,hc,Below.refl _ _,fun _ _ _ h _ _ _ _=>h⟩
theorem SI.gsz (h:SI w wi base B g gw d vs vu vc vx vp V):g < wi.heap.size:=h.c.lt
theorem SI.size (h:SI w wi base B g gw d vs vu vc vx vp V):w.heap.size≤wi.heap.size:=h.low.size
theorem SI.bw (h:SI w wi base B g gw d vs vu vc vx vp V):∀ wz,CJ wi B g wz→Blk wz gw 37 (ZaQ d vs vu vc vx vp):=fun wz hz=>hz.blk h.wd.blk (ZbG h.c h.wd.blk (by decide))
theorem SI.cj (h:SI w wi base B g gw d vs vu vc vx vp V) (hj:CJ wi B g wj):SI w wj base B g gw d vs vu vc vx vp V :=
 ⟨h.wd.cj h.c hj.1,hj.2,⟨hj.1.os.trans h.low.os,hj.1.tape.trans h.low.tape,hj.1.output.trans h.low.output,Nat.le_trans h.low.size hj.1.size,fun k hk=>(hj.1.block k (by have:=h.gsz; omega) (fun e=>by injection e with e; omega)).trans (h.low.block k hk)⟩,
  fun j t cs hb h1 h2 h3 h4=>(h.kb j t cs hb h1 h2 h3 h4).grown hj.1 (fun e=>h1 (by injection e))⟩
theorem SI.below (h:SI w wi base B g gw d vs vu vc vx vp V) (hb:Below wi.heap.size wi wj):SI w wj base B g gw d vs vu vc vx vp V :=
 ⟨h.wd.below hb,h.c.below_ hb,h.low.trans (hb.mono (by have:=h.gsz; omega)),fun j t cs hj h1 h2 h3 h4=>(h.kb j t cs hj h1 h2 h3 h4).below hb (h.kb j t cs hj h1 h2 h3 h4).lt⟩
theorem SI.store {q:Nat} {t:TypeId} {cs:Array Value} (h:SI w wi base B g gw d vs vu vc vx vp V) (hq:Blk wi q t cs) (hg:wi.grownBy wj (some q)) (hw:w.heap.size≤q) (hgl:g < w.heap.size) (ht:WdRow t=false) (hne:t≠37):SI w wj base B g gw d vs vu vc vx vp V :=
 ⟨h.wd.stored hq hg ht hne,h.c.grown_ hg (fun j hj=>by injection hj with hj; omega),h.low.grown hg (by have:=h.gsz; omega) (fun j hj=>by injection hj with hj; omega),
  fun j t cs hj h1 h2 h3 h4=>(h.kb j t cs hj h1 h2 h3 h4).grown hg (fun e=>by have:=hj.lt; injection e with e; omega)⟩
theorem WdM.storedX {q m:Nat} {cs:Array Value} (h:WdM wi base d vs vu vc vx vp V) (hq:Blk wi q 65 cs) (hg:wi.grownBy wj (some q)) (hn:vx.ownBlock≠some q) (_hm:m=m):WdM wj base d vs vu vc vx vp V :=
 ⟨Zap h.s hg (Zad h.s hq (by decide)),Zap h.u hg (Zad h.u hq (by decide)),Zap h.c hg (Zad h.c hq (by decide)),Zap h.x hg hn,Zap h.p hg (Zad h.p hq (by decide)),h.q.kept_ hg fun v n xs ho=>.inr (Zad ho hq (by decide))⟩
theorem SI.storeC {q:Nat} {cs:Array Value} (h:SI w wi base B g gw d vs vu vc vx vp V) (hq:Blk wi q 65 cs) (hg:wi.grownBy wj (some q)) (hw:w.heap.size≤q) (hgl:g < w.heap.size) (hn:vx.ownBlock≠some q):SI w wj base B g gw d vs vu vc vx vp V :=
 ⟨⟨h.wd.blk.grown hg (fun e=>h.wd.blk.ne_ hq (by decide) (by injection e)),h.wd.m.storedX (m:=0) hq hg hn rfl⟩,h.c.grown_ hg (fun j hj=>by injection hj with hj; omega),h.low.grown hg (by have:=h.gsz; omega) (fun j hj=>by injection hj with hj; omega),
  fun j t cs hj h1 h2 h3 h4=>(h.kb j t cs hj h1 h2 h3 h4).grown hg (fun e=>by have:=hj.lt; injection e with e; omega)⟩
theorem SI.put {d':Wd} {vs' vu' vc' vx' vp':Value} {V':List Value} (h:SI w wi base B g gw d vs vu vc vx vp V) (hgw:g < gw) (hb:Blk wj gw 37 (ZaQ d' vs' vu' vc' vx' vp')) (hg:wi.grownBy wj (some gw)) (hm:WdM wi base d' vs' vu' vc' vx' vp' V'):SI w wj base B g gw d' vs' vu' vc' vx' vp' V' :=
 ⟨h.wd.put hb hg hm,h.c.grown_ hg (fun j hj=>by injection hj with hj; omega),h.low.grown hg (by have:=h.gsz; omega) (fun j hj=>by injection hj with hj; omega),
  fun j t cs hj h1 h2 h3 h4=>(h.kb j t cs hj h1 h2 h3 h4).grown hg (fun e=>h2 (by injection e))⟩
theorem SI.add {bs:List UInt8} {e:Ending} (h:SI w wi base B g gw d vs vu vc vx vp V) (hgb:g < base) (ha:AddP wi base gw d vs vu vc vx bs e wj) :∃vp' V',SI w wj base B g gw { d with P:=d.P++[bs] } vs vu vc vx vp' V':=by
 obtain ⟨_,vp',V',h1,h2,h3⟩:=ha
 exact ⟨vp',V',h1,h.c.keep (fun b hb=>h2.block b (by omega)),h.low.trans (h2.mono (by omega)),fun j t cs hj h4 h5 h6 h7=>h3 j t cs (h.kb j t cs hj h4 h5 h6 h7) h5 h6⟩
theorem SI.rowX {vx':Value} {X':List Cli} (h:SI w wi base B g gw d vs vu vc vx vp V) (hgb:g < base) (hg:wi.grownBy wj vx.ownBlock) (hx:wj.ownsRow base 65 41 vx' X'.length (X'.flatMap Cli.cs)) :
  Blk wj gw 37 (ZaQ d vs vu vc vx vp)∧WdM wj base { d with X:=X' } vs vu vc vx' vp V∧Zaq wj B g∧Below g w wj∧KB2 w wj g gw :=
 ⟨h.wd.blk.grown hg (Zad h.wd.m.x h.wd.blk (by decide)).symm,h.wd.m.putX hg hx,h.c.grown_ hg (fun j hj=>by have:=Zaw h.wd.m.x j hj; omega),h.low.grown hg (by have:=h.gsz; omega) (fun j hj=>by have:=Zaw h.wd.m.x j hj; omega),
  fun j t cs hj h1 h2 h3 h4=>(h.kb j t cs hj h1 h2 h3 h4).grown hg (Zad h.wd.m.x (h.kb j t cs hj h1 h2 h3 h4) h4.symm).symm⟩
end
section
variable {d:Wd} {kx kp kn:Nat}
theorem WdOk.time {t:Int} (h:WdOk d kx kp kn) (h0:0≤t) (h1:t≤200):WdOk { d with now:=d.now+t } kx kp (kn+1) :=
 ⟨h.tab,h.uok,h.ulen,h.upos,h.clen,h.xok,h.xlen,h.pok,h.plen,by have:=h.now0; show 0≤d.now+t; omega,by have:=h.now1; show d.now+t≤_; omega⟩
theorem WdOk.pushX {c:Cli} (h:WdOk d kx kp kn) (hc:c.Ok) (hu:c.user.length≤17):WdOk { d with X:=d.X++[c] } (kx+1) kp kn :=
 ⟨h.tab,h.uok,h.ulen,h.upos,h.clen,fun x hx=>by
  rcases List.mem_append.1 hx with hx | hx
  · exact h.xok x hx
  · simp at hx; subst hx; exact ⟨hc,hu⟩,by have:=h.xlen; show (d.X++[c]).length≤_; simp; omega,h.pok,h.plen,h.now0,h.now1⟩
theorem WdOk.setX {c:Cli} {i:Nat} (h:WdOk d kx kp kn) (hc:c.Ok) (hu:c.user.length≤17):WdOk { d with X:=d.X.set i c } kx kp kn :=
 ⟨h.tab,h.uok,h.ulen,h.upos,h.clen,fun x hx=>by
  rcases List.mem_or_eq_of_mem_set hx with hx | rfl
  · exact h.xok x hx
  · exact ⟨hc,hu⟩,by have:=h.xlen; show (d.X.set i c).length≤_; simpa using this,h.pok,h.plen,h.now0,h.now1⟩
theorem WdOk.pushP {p:List UInt8} (h:WdOk d kx kp kn) (h0:0 < p.length) (h1:p.length≤300):WdOk { d with P:=d.P++[p] } kx (kp+1) kn :=
 ⟨h.tab,h.uok,h.ulen,h.upos,h.clen,h.xok,h.xlen,fun x hx=>by
  rcases List.mem_append.1 hx with hx | hx
  · exact h.pok x hx
  · simp at hx; subst hx; exact ⟨h0,h1⟩,by have:=h.plen; show (d.P++[p]).length≤_; simp; omega,h.now0,h.now1⟩
theorem WdOk.setS {L:List Sess} {nx:Nat} (h:WdOk d kx kp kn) (ht:ZbQ L nx):WdOk { d with L:=L,nx:=nx } kx kp kn :=
 ⟨ht,h.uok,h.ulen,h.upos,h.clen,h.xok,h.xlen,h.pok,h.plen,h.now0,h.now1⟩
theorem WdOk.more {kx' kp' kn':Nat} (h:WdOk d kx kp kn) (h1:kx≤kx') (h2:kp≤kp') (h3:kn≤kn'):WdOk d kx' kp' kn' :=
 ⟨h.tab,h.uok,h.ulen,h.upos,h.clen,h.xok,Nat.le_trans h.xlen h1,h.pok,Nat.le_trans h.plen h2,h.now0,by have:=h.now1; omega⟩
end
def CliV (w:World) (base:Nat) (r:CRes) (v:Value):Prop :=∃vb,v=.tuple #[.agg r.c.cs.toArray,vb,.int .i64 r.code]∧w.ownsRow base 5 1 vb r.b.length (bsV r.b)
def CBad (r:CRes):Prop:=r.code≠0→r.c=zCli∧r.b=[]
theorem Zb3.v {w w':World} {r:CRes} {e:Ending} (h:Zb3 w r e w') (hr:CBad r) :∃v,e=.returned v∧CliV w' w.heap.size r v∧Below w.heap.size w w':=by
 unfold Zb3 at h
 by_cases h0:r.code=0
 ·rw [if_pos h0] at h
  obtain ⟨vb,he,ho,hb⟩:=h
  exact ⟨_,he,⟨vb,by rw [h0],ho⟩,hb⟩
 ·rw [if_neg h0] at h
  obtain ⟨he,hb⟩:=h
  obtain ⟨h1,h2⟩:=hr h0
  exact ⟨_,he,⟨_,by rw [h1],by rw [h2]; exact World.ownsRow_nil _ _ _ _⟩,hb⟩
def SesV (w:World) (base:Nat) (r:SRes) (v:Value):Prop :=∃vS vb,v=.tuple #[.agg #[vS,.int .u32 (r.nx:Int)],vb,.int .i64 r.code]∧w.ownsRow base 50 26 vS r.L.length (Zat r.L)∧w.ownsRow base 5 1 vb r.bs.length (bsV r.bs)
def SBad (r:SRes):Prop:=r.code≠0→r.L=[]∧r.nx=0∧r.bs=[]
theorem ZaH.v {w w':World} {r:SRes} {e:Ending} (h:ZaH w r e w') (hr:SBad r) :∃v,e=.returned v∧SesV w' w.heap.size r v∧Below w.heap.size w w':=by
 unfold ZaH at h
 by_cases h0:r.code=0
 ·rw [if_pos h0] at h
  obtain ⟨vS,vb,he,h1,h2,hb⟩:=h
  exact ⟨_,he,⟨vS,vb,by rw [h0],h1,h2⟩,hb⟩
 ·rw [if_neg h0] at h
  obtain ⟨he,hb⟩:=h
  obtain ⟨h1,h2,h3⟩:=hr h0
  exact ⟨_,he,⟨_,_,by rw [h2]; rfl,by rw [h1]; exact World.ownsRow_nil _ _ _ _,by rw [h3]; exact World.ownsRow_nil _ _ _ _⟩,hb⟩
def RcvV (w:World) (base:Nat) (r:RRes) (v:Value):Prop :=∃vS x2 x3 x4,v=.tuple #[.agg #[vS,.int .u32 (r.nx:Int)],x2,x3,x4,.int .i64 r.e]∧w.ownsRow base 50 26 vS r.L.length (Zat r.L)
theorem Zbm.v {w w':World} {r:RRes} {e:Ending} (h:Zbm w r e w') (hr:r.e≠0→r.L=[]∧r.nx=0) :∃v,e=.returned v∧RcvV w' w.heap.size r v∧Below w.heap.size w w':=by
 unfold Zbm at h
 by_cases h0:r.e=0
 ·rw [if_pos h0] at h
  obtain ⟨vS,A,m,c,he,h1,_,_,_,hb⟩:=h
  exact ⟨_,he,⟨vS,_,_,_,by rw [h0],h1⟩,hb⟩
 ·rw [if_neg h0] at h
  obtain ⟨he,hb⟩:=h
  obtain ⟨h1,h2⟩:=hr h0
  exact ⟨_,he,⟨_,_,_,_,by rw [h2]; rfl,by rw [h1]; exact World.ownsRow_nil _ _ _ _⟩,hb⟩
def TakV (r:TRes) (v:Value):Prop :=∃x2 x3,v=.tuple #[.agg r.c.cs.toArray,x2,x3,.int .i64 r.e]
theorem Zcn.v {w w':World} {r:TRes} {e:Ending} (h:Zcn w r e w') (hr:r.e≠0→r.c=zCli) :∃v,e=.returned v∧TakV r v∧Below w.heap.size w w':=by
 unfold Zcn at h
 by_cases h0:r.e=0
 ·rw [if_pos h0] at h
  obtain ⟨A,m,c,he,_,_,_,hb⟩:=h
  exact ⟨_,he,⟨_,_,by rw [h0]⟩,hb⟩
 ·rw [if_neg h0] at h
  obtain ⟨he,hb⟩:=h
  exact ⟨_,he,⟨_,_,by rw [hr h0]⟩,hb⟩
theorem ZbX (L:List Sess) (nx:Nat) (U:List Usr) (C:List Chn) (ch:Int) (b:List UInt8) (nonce:Nat) (now:Int):SBad (ZbI L nx U C ch b nonce now):=by
 intro h
 unfold ZbI at h ⊢
 repeat' split
 all_goals first | exact ⟨rfl,rfl,rfl⟩ | skip
 all_goals simp_all
 all_goals (rw [if_neg (by omega)] at h; exact h rfl)
theorem Zci (L:List Sess) (nx:Nat) (b:List UInt8) (now:Int):SBad (ZbN L nx b now):=by
 intro h
 unfold ZbN at h ⊢
 repeat' split
 all_goals first | exact ⟨rfl,rfl,rfl⟩ | skip
 all_goals simp_all
theorem Zcf (L:List Sess) (nx id:Nat) (kb:UInt8) (data:List UInt8):SBad (Zc5 L nx id kb data):=by
 intro h
 unfold Zc5 at h ⊢
 repeat' split
 all_goals first | exact ⟨rfl,rfl,rfl⟩ | skip
 all_goals simp_all
theorem ZeQ (L:List Sess) (nx:Nat) (b:List UInt8) (now:Int):(Zcj L nx b now).e≠0→(Zcj L nx b now).L=[]∧(Zcj L nx b now).nx=0:=by
 intro h
 unfold Zcj at h ⊢
 repeat' split
 all_goals first | exact ⟨rfl,rfl⟩ | skip
 all_goals simp_all
theorem ZdG (c:Cli) (b:List UInt8):(Zdo c b).e≠0→(Zdo c b).c=zCli:=by
 intro h
 unfold Zdo at h ⊢
 repeat' split
 all_goals first | rfl | skip
 all_goals simp_all
theorem Zdx (u ks:List UInt8) (l:Int) (n:Nat):CBad (begC u ks l n):=by
 intro h
 unfold begC at h ⊢
 repeat' split
 all_goals first | exact ⟨rfl,rfl⟩ | skip
 all_goals simp_all
theorem answ_bad (c:Cli) (b:List UInt8):CBad (Zec c b):=by
 intro h
 unfold Zec at h ⊢
 repeat' split
 all_goals first | exact ⟨rfl,rfl⟩ | skip
 all_goals simp_all
theorem ZcI (c:Cli) (kb:UInt8) (data:List UInt8):CBad (ZcG c kb data):=by
 intro h
 unfold ZcG at h ⊢
 repeat' split
 all_goals first | exact ⟨rfl,rfl⟩ | skip
 all_goals simp_all
theorem ZeW {u ks:List UInt8} {l:Int} {n:Nat} (hu:u.length≤17) (hk:ks.length=16) (hn:n < 18446744073709551616) (h0:(begC u ks l n).code=0) :
  (begC u ks l n).c.Ok∧(begC u ks l n).c.user.length≤17∧0 < (begC u ks l n).b.length∧(begC u ks l n).b.length≤300∧(begC u ks l n).c.opn=false∧cliF (begC u ks l n).c=true:=by
 unfold begC at h0 ⊢
 by_cases h1:ZbC u=false
 · rw [if_pos h1] at h0; exact absurd h0 (by decide)
 rw [if_neg h1] at h0 ⊢
 by_cases h2:decide (1≤l∧l≤3)=false
 · rw [if_pos h2] at h0; exact absurd h0 (by decide)
 rw [if_neg h2]
 have hl:(Zdm u (levB l) n).length=10+u.length:=by simp [Zdm,Zbh,Zbr]; omega
 refine ⟨ZcZ (by unfold maxLen; omega) hk hn,hu,by rw [hl]; omega,by rw [hl]; omega,rfl,?_⟩
 show (ZbC u && decide (1≤l∧l≤3))=true
 simp only [Bool.not_eq_false] at h1 h2
 rw [h1,h2]
 rfl
theorem answ_fine {c:Cli} (hok:c.Ok) (hcf:cliF c=true) (hop:c.opn=false) {b:List UInt8} {nx nonce:Nat} (hb:b=ZdZ nx nonce) :
  (Zec c b).code=0∧(Zec c b).c.Ok∧(Zec c b).c.user=c.user∧(Zec c b).b.length=13:=by
 have hl:b.length=13:=by rw [hb]; exact ZbA nx nonce
 have h2:b[0]?=some 2:=by rw [hb]; rfl
 unfold Zec
 rw [if_neg (by rw [hcf]; simp),if_neg (by rw [hop]; simp),if_neg (fun h=>h ⟨hl,h2⟩)]
 exact ⟨rfl,ansC_ok hok hl,rfl,ZbY _ _ _ _ _ _⟩
theorem acpt_fine {c:Cli} (hok:c.Ok) {b:List UInt8} (h0:(ZdL c b).1=0):(ZdL c b).2.Ok∧(ZdL c b).2.user=c.user:=by
 unfold ZdL at h0 ⊢
 by_cases h1:cliF c=false
 · rw [if_pos h1] at h0; exact absurd h0 (by decide)
 rw [if_neg h1] at h0 ⊢
 by_cases h2:c.opn=true∨c.id=0
 · rw [if_pos h2] at h0; exact absurd h0 (by decide)
 rw [if_neg h2] at h0 ⊢
 by_cases h3:¬ (b.length=13∧b[0]?=some 4∧leW ((b.drop 1).take 4)=c.id)
 · rw [if_pos h3] at h0; exact absurd h0 (by decide)
 rw [if_neg h3] at h0 ⊢
 by_cases h4:decide (b=ZbB 4 c.key c.id c.nonce c.server (levB c.level))=false
 · rw [if_pos h4] at h0; exact absurd h0 (by decide)
 rw [if_neg h4]
 exact ⟨⟨hok.user,hok.key,hok.sess,hok.nonce,hok.server,hok.id,hok.hi,hok.se,hok.out⟩,rfl⟩
theorem Zck {c:Cli} (hok:c.Ok) {kb:UInt8} {data:List UInt8} (h0:(ZcG c kb data).code=0):(ZcG c kb data).c.Ok∧(ZcG c kb data).c.user=c.user∧(ZcG c kb data).b.length=18+data.length:=by
 unfold ZcG at h0 ⊢
 by_cases h1:cliF c=false
 · rw [if_pos h1] at h0; exact absurd h0 (by decide)
 rw [if_neg h1] at h0 ⊢
 by_cases h2:c.opn=false
 · rw [if_pos h2] at h0; exact absurd h0 (by decide)
 rw [if_neg h2] at h0 ⊢
 by_cases h3:Zb6 kb=false
 · rw [if_pos h3] at h0; exact absurd h0 (by decide)
 rw [if_neg h3] at h0 ⊢
 by_cases h4:256 < data.length∨c.out=4294967295
 · rw [if_pos h4] at h0; exact absurd h0 (by decide)
 rw [if_neg h4]
 have:=hok.out
 exact ⟨⟨hok.user,hok.key,hok.sess,hok.nonce,hok.server,hok.id,hok.hi,hok.se,by show c.out+1 < 4294967296; omega⟩,rfl,Zet _ _ _ _ _ _⟩
theorem ZcY {c:Cli} (hok:c.Ok) {b:List UInt8} (h0:(Zdo c b).e=0):(Zdo c b).c.Ok∧(Zdo c b).c.user=c.user:=by
 obtain ⟨s1,s2⟩:=Zdr _ _ (Zay b).n hok.hi hok.se (leW4 b 5)
 unfold Zdo at h0 ⊢
 by_cases h1:cliF c=false
 · rw [if_pos h1] at h0; exact absurd h0 (by decide)
 rw [if_neg h1] at h0 ⊢
 by_cases h2:c.opn=false
 · rw [if_pos h2] at h0; exact absurd h0 (by decide)
 rw [if_neg h2] at h0 ⊢
 by_cases h3:(Zcv 6 b && Zb6 (Zay b).kb)=false
 · rw [if_pos h3] at h0; exact absurd h0 (by decide)
 rw [if_neg h3] at h0 ⊢
 by_cases h4:(Zay b).id≠c.id
 · rw [if_pos h4] at h0; exact absurd h0 (by decide)
 rw [if_neg h4] at h0 ⊢
 by_cases h5:genF c.sess b=false
 · rw [if_pos h5] at h0; exact absurd h0 (by decide)
 rw [if_neg h5] at h0 ⊢
 by_cases h6:(ZbS c.hi c.se (Zay b).n).2.2≠0
 · rw [if_pos h6] at h0; exact absurd h0 h6
 rw [if_neg h6]
 exact ⟨⟨hok.user,hok.key,hok.sess,hok.nonce,hok.server,hok.id,s1,s2,hok.out⟩,rfl⟩
theorem Zas {P:Program} {l:List Oper} {o:Oper} {a:Act} {w:World} {K:Act→World→Prop} {Q:Exit→Act→World→Prop} {E:Prop} (hw:Region.wanted o (yielded l.toArray a.tmps)=true) (t:TypeId) (ho:o.op=.alloc t) (cells:Array Value)
  (hr:(Instr.alloc t true (.tuple #[])).run P w=.ok (.pointer (some ⟨w.heap.size,0,none⟩)) (w.alloc (.cells cells t))) (h:K (a.put o.dst (.pointer (some ⟨w.heap.size,0,none⟩))) (w.alloc (.cells cells t))) :
  if Region.wanted o (yielded l.toArray a.tmps)=true then Oper.wp P o a w K Q else E:=by
 rw [if_pos hw]
 unfold Oper.wp execOp
 simp only [ho,Sem.run_bind]
 rw [hr]
 exact h
theorem usr_isRow :∃d,Tryz.prog.underlying 52=some d∧d.isRow=true:=⟨_,Tryz.underlying52,rfl⟩
theorem Ze1 :∃d,Tryz.prog.underlying 65=some d∧d.isRow=true:=⟨_,Tryz.underlying65,rfl⟩
theorem ZcB {c:Cli} (h:c.Ok):(Tryz.prog.info? 65).map (·.size)=some c.cs.length:=by
 have:=Zai h
 rwa [List.size_toArray] at this
theorem blk_range {w:World} {q:Nat} {t:TypeId} {cs:List Value} (h:Blk w q t cs.toArray):w.rangeAt q 0 cs:=fun j v hv=>by rw [Nat.zero_add,h.cell]; simpa using hv
set_option maxRecDepth 100000 in
theorem info_c:(Tryz.prog.info? 65).map (fun i=>(i.zero,i.size,i.bytes))=some (some (.agg zCli.cs.toArray),41,96):=by kernel_rfl
theorem zc_size:(Value.agg zCli.cs.toArray).cells.size=41:=Cli.size Zau
theorem run_slice_c (w:World) (x:Cli) (hx:x.Ok):(Instr.buildSlice 34 1 #[(0,.agg x.cs.toArray)]).run Tryz.prog w=.ok (.slice (some ⟨w.heap.size,0,none⟩) 1 1) (w.alloc (.cells x.cs.toArray 65)):=by
 obtain ⟨a0,a1,a2,a3,a4,a5,a6,a7,a8,a9,a10,a11,a12,a13,a14,a15,b0,b1,b2,b3,b4,b5,b6,b7,b8,b9,b10,b11,b12,b13,b14,b15,e1,e2⟩:=x.open_ hx
 obtain ⟨user,key,level,nonce,server,id,sess,opn,hi,se,out⟩:=x
 dsimp only at e1 e2
 subst e1 e2
 kernel_rfl
theorem CliV.more {w:World} {base base':Nat} {r:CRes} {v:Value} (h:CliV w base r v) (hb:base'≤base):CliV w base' r v:=by
 obtain ⟨vb,h1,h2⟩:=h
 exact ⟨vb,h1,Zak h2 hb⟩
theorem own_ct {w w':World} {base g n size:Nat} {e:TypeId} {v:Value} {xs:List Value} (h:w.ownsRow base e size v n xs) (hb:CT g w w') (hg:g < base):w'.ownsRow base e size v n xs:=Zap h hb (fun e=>by have:=Zaw h g e; omega)
theorem CliV.ct {w w':World} {base g:Nat} {r:CRes} {v:Value} (h:CliV w base r v) (hb:CT g w w') (hg:g < base):CliV w' base r v:=by
 obtain ⟨vb,h1,h2⟩:=h
 exact ⟨vb,h1,own_ct h2 hb hg⟩
theorem SesV.more {w:World} {base base':Nat} {r:SRes} {v:Value} (h:SesV w base r v) (hb:base'≤base):SesV w base' r v:=by
 obtain ⟨vS,vb,h1,h2,h3⟩:=h
 exact ⟨vS,vb,h1,Zak h2 hb,Zak h3 hb⟩
theorem SesV.ct {w w':World} {base g:Nat} {r:SRes} {v:Value} (h:SesV w base r v) (hb:CT g w w') (hg:g < base):SesV w' base r v:=by
 obtain ⟨vS,vb,h1,h2,h3⟩:=h
 exact ⟨vS,vb,h1,own_ct h2 hb hg,own_ct h3 hb hg⟩
def CFine (r:CRes):Prop:=CBad r∧(r.code=0→r.c.Ok∧r.c.user.length≤17∧0 < r.b.length∧r.b.length≤300∧r.c.opn=false∧cliF r.c=true)
theorem CFine.ok {r:CRes} (h:CFine r):r.c.Ok:=by
 by_cases h0:r.code=0
 · exact (h.2 h0).1
 · rw [(h.1 h0).1]; exact Zau
theorem SI.newX {w wi wj wk:World} {base B g gw:Nat} {d:Wd} {vs vu vc vx vp vx':Value} {V:List Value} {X':List Cli} (h:SI w wi base B g gw d vs vu vc vx vp V) (hgb:g < base) (hgw:g < gw) (hg:wi.grownBy wj vx.ownBlock) (hx:wj.ownsRow base 65 41 vx' X'.length (X'.flatMap Cli.cs))
  (hb:Blk wk gw 37 (ZaQ { d with X:=X' } vs vu vc vx' vp)) (hg2:wj.grownBy wk (some gw)):SI w wk base B g gw { d with X:=X' } vs vu vc vx' vp V:=by
 obtain ⟨h1,h2,h3,h4,h5⟩:=h.rowX hgb hg hx
 exact ⟨⟨hb,h2.stored h1 hg2 (by decide)⟩,h3.grown_ hg2 (fun j hj=>by injection hj with hj; omega),h4.grown hg2 (by have:=h3.lt; omega) (fun j hj=>by injection hj with hj; omega),fun j t cs hj e1 e2 e3 e4=>(h5 j t cs hj e1 e2 e3 e4).grown hg2 (fun e=>e2 (by injection e))⟩
theorem SI.setX {w wi wj:World} {base B g gw:Nat} {d:Wd} {vs vu vc vx vp vx':Value} {V:List Value} {X':List Cli} (h:SI w wi base B g gw d vs vu vc vx vp V) (hgb:g < base) (hg:wi.grownBy wj vx.ownBlock) (hx:wj.ownsRow base 65 41 vx' X'.length (X'.flatMap Cli.cs)) (he:vx'=vx):SI w wj base B g gw { d with X:=X' } vs vu vc vx vp V:=by
 subst he
 obtain ⟨h1,h2,h3,h4,h5⟩:=h.rowX hgb hg hx
 exact ⟨⟨h1,h2⟩,h3,h4,h5⟩
section
variable {α : Type} {cs:α→List Value} {m:Nat} {w:World} {base n:Nat} {e:TypeId} {v:Value} {L:List α}
theorem own_rec {k:Nat} {x:α} (h:w.ownsRow base e m v n (L.flatMap cs)) (hm:0 < m) (hl:∀ x∈L,(cs x).length=m) (hk:L[k]?=some x) :∃g c cur,v=.slice (some ⟨g,0,none⟩) n c∧base≤g∧Blk w g e cur∧cur.size=c*m∧n≤c∧c≤maxLen∧L.length=n∧cur.toList.take (n*m)=L.flatMap cs∧(k*m+m≤cur.size)∧∀ (j:Nat) (u:Value),(cs x)[j]?=some u→cur[k*m+j]?=some u:=by
 have hkl:=(List.getElem?_eq_some_iff.1 hk).1
 have h1:=h.1
 rw [Zd6 cs m hl] at h1
 have hn:L.length=n:=Nat.eq_of_mul_eq_mul_right hm h1
 rcases h.2 with ⟨_,h0⟩ | ⟨g,cap,cur,hv,hb,hh,hc,hmx,hs,hx⟩
 · omega
 ·refine ⟨g,cap,cur,hv,hb,hh,hs,hc,hmx,hn,hx,?_,fun j u hu=>?_⟩
  ·rw [hs]
   calc k*m+m=(k+1)*m:=by rw [Nat.add_mul,Nat.one_mul]
    _≤cap*m:=Nat.mul_le_mul_right _ (by omega)
  ·have hg:=flatR_get cs m hl k x hk j u hu
   rw [← hx,List.getElem?_take] at hg
   split at hg
   · simpa using hg
   · cases hg
theorem own_recs (h:w.ownsRow base e m v n (L.flatMap cs)) (hm:0 < m) (hl:∀ x∈L,(cs x).length=m) (hn:0 < L.length) :∃g c cur,v=.slice (some ⟨g,0,none⟩) n c∧base≤g∧Blk w g e cur∧cur.size=c*m∧n≤c∧c≤maxLen∧L.length=n∧cur.toList.take (n*m)=L.flatMap cs∧∀ (k:Nat) (x:α),L[k]?=some x→(k*m+m≤cur.size)∧∀ (j:Nat) (u:Value),(cs x)[j]?=some u→cur[k*m+j]?=some u:=by
 obtain ⟨g,c,cur,h1,h2,h3,h4,h5,h6,h7,h8,_,_⟩:=own_rec h hm hl (List.getElem?_eq_getElem hn)
 refine ⟨g,c,cur,h1,h2,h3,h4,h5,h6,h7,h8,fun k x hk=>?_⟩
 obtain ⟨g',c',cur',h1',_,h3',_,_,_,_,_,h9,h10⟩:=own_rec h hm hl hk
 rw [h1] at h1'
 injection h1' with e1 _ e2
 injection e1 with e1
 injection e1 with e1 _ _
 subst e1
 have:cur=cur':=by
  have:=h3.symm.trans h3'
  simpa using this
 subst this
 exact ⟨h9,h10⟩
theorem rec_set_list (hl:∀ x∈L,(cs x).length=m) {k:Nat} {x y:α} (hk:L[k]?=some x) (hy:(cs y).length=m) {cur:List Value} (hx:cur.take (L.length*m)=L.flatMap cs) :
  (cur.take (k*m)++cs y++cur.drop (k*m+(cs y).length)).take (L.length*m)=(L.set k y).flatMap cs:=by
 have hkl:=(List.getElem?_eq_some_iff.1 hk).1
 have he:=(List.getElem?_eq_some_iff.1 hk).2
 have hle:k*m+m≤L.length*m:=by
  calc k*m+m=(k+1)*m:=by rw [Nat.add_mul,Nat.one_mul]
   _≤L.length*m:=Nat.mul_le_mul_right _ (by omega)
 have hsplit:L=L.take k++x::L.drop (k+1):=by
  have h1:=List.drop_eq_getElem_cons hkl
  rw [he] at h1
  rw [← h1,List.take_append_drop]
 have hset:L.set k y=L.take k++y::L.drop (k+1):=by rw [List.set_eq_take_append_cons_drop,if_pos hkl]
 have lA:((L.take k).flatMap cs).length=k*m:=by
  rw [Zd6 cs m (fun z hz=>hl z (List.mem_of_mem_take hz)),List.length_take,Nat.min_eq_left (by omega)]
 have hxl:(cs x).length=m:=hl x (List.mem_of_getElem? hk)
 have hfl:L.flatMap cs=(L.take k).flatMap cs++(cs x++(L.drop (k+1)).flatMap cs):=by
  conv=>lhs; rw [hsplit]
  rw [List.flatMap_append,List.flatMap_cons]
 have hA:cur.take (k*m)=(L.take k).flatMap cs:=by
  have:=congrArg (List.take (k*m)) hx
  rw [List.take_take,Nat.min_eq_left (by omega),hfl,List.take_left' lA] at this
  exact this
 have hB:(cur.drop (k*m+m)).take (L.length*m - (k*m+m))=(L.drop (k+1)).flatMap cs:=by
  have:=congrArg (List.drop (k*m+m)) hx
  rw [List.drop_take,hfl,← List.append_assoc,List.drop_left' (by rw [List.length_append,lA,hxl])] at this
  exact this
 rw [hset,List.flatMap_append,List.flatMap_cons,hy,List.take_append,List.take_of_length_le (by rw [List.length_append,List.length_take,hy]; omega),hA,List.length_append,lA,hy,hB,List.append_assoc]
theorem Zc6 {g c k:Nat} {x y:α} {cur:Array Value} {w':World} (hm:0 < m) (hl:∀ x∈L,(cs x).length=m) (hk:L[k]?=some x) (hy:(cs y).length=m) (hbase:base≤g) (hs:cur.size=c*m) (hc:n≤c) (hmx:c≤maxLen) (hn:L.length=n) (hx:cur.toList.take (n*m)=L.flatMap cs)
  (hb:Blk w' g e (cur.toList.take (k*m)++cs y++cur.toList.drop (k*m+(cs y).length)).toArray):w'.ownsRow base e m (.slice (some ⟨g,0,none⟩) n c) n ((L.set k y).flatMap cs):=by
 have hkl:=(List.getElem?_eq_some_iff.1 hk).1
 subst hn
 have hle:k*m+m≤L.length*m:=by
  calc k*m+m=(k+1)*m:=by rw [Nat.add_mul,Nat.one_mul]
   _≤L.length*m:=Nat.mul_le_mul_right _ (by omega)
 have hle2:L.length*m≤c*m:=Nat.mul_le_mul_right _ hc
 refine ⟨?_,.inr ⟨g,c,_,rfl,hbase,hb,hc,hmx,?_,?_⟩⟩
 · rw [Zd6 cs m (fun z hz=>by
   rcases List.mem_or_eq_of_mem_set hz with hz | rfl
   · exact hl z hz
   · exact hy),List.length_set]
 ·rw [List.size_toArray,List.length_append,List.length_append,List.length_take,List.length_drop,hy,Array.length_toList,hs]
  omega
 ·rw [List.toList_toArray]
  exact rec_set_list hl hk hy hx
end
def ST (w wi:World) (base B g gw:Nat) (U:List Usr) (C:List Chn) (kx kp kn:Nat) (d:Wd):Prop :=
 ∃ vs vu vc vx vp V,SI w wi base B g gw d vs vu vc vx vp V∧WdOk d kx kp kn∧d.U=U∧d.C=C
theorem ST.open_ {w wi:World} {base B g gw:Nat} {U:List Usr} {C:List Chn} {kx kp kn:Nat} {d:Wd} (h:ST w wi base B g gw U C kx kp kn d) :
  ∃ As cs Au cu Ac cc Ax cx Ap cp V,SI w wi base B g gw d (.slice As d.L.length cs) (.slice Au d.U.length cu) (.slice Ac d.C.length cc) (.slice Ax d.X.length cx) (.slice Ap d.P.length cp) V∧WdOk d kx kp kn∧d.U=U∧d.C=C:=by
 obtain ⟨vs,vu,vc,vx,vp,V,si,ok,h1,h2⟩:=h
 obtain ⟨As,cs,e1,_,_⟩:=Zac si.wd.m.s
 obtain ⟨Au,cu,e2,_,_⟩:=Zac si.wd.m.u
 obtain ⟨Ac,cc,e3,_,_⟩:=Zac si.wd.m.c
 obtain ⟨Ax,cx,e4,_,_⟩:=Zac si.wd.m.x
 obtain ⟨Ap,cp,e5,_,_⟩:=Zac si.wd.m.p
 subst e1 e2 e3 e4 e5
 exact ⟨As,cs,Au,cu,Ac,cc,Ax,cx,Ap,cp,V,si,ok,h1,h2⟩
theorem Zb1 {w:World} {gw:Nat} {a b c d e f h:Value} (hb:Blk w gw 37 #[a,b,c,d,e,f,h]):w.rangeAt gw 0 [a,b]:=fun j v hv=>by
 rw [Nat.zero_add,hb.cell]
 match j,hv with
 | 0,hv=>exact hv
 | 1,hv=>exact hv
 | n+2,hv=>simp at hv
theorem Zfe {w:World} {gw:Nat} {a b c d e f h:Value} (hb:Blk w gw 37 #[a,b,c,d,e,f,h]):w.rangeAt gw 2 [c,d]:=fun j v hv=>by
 rw [hb.cell]
 match j,hv with
 | 0,hv=>exact hv
 | 1,hv=>exact hv
 | n+2,hv=>simp at hv
theorem Zbp {w:World} {base n c:Nat} {A:Option Addr} {L:List Sess} (h:w.ownsRow base 50 26 (.slice A n c) n (Zat L)) (hok:ZaE L):ZaA w w.heap.size A n L:=ZaA.of_own h hok
theorem Zfi {w:World} {base n c:Nat} {A:Option Addr} {L:List Usr} (h:w.ownsRow base 52 19 (.slice A n c) n (L.flatMap Usr.cs)) (hok:∀ x∈L,x.Ok):UsrL w w.heap.size A n L:=RecL.of_own h hok (fun x hx=>Usr.len (hok x hx))
theorem Zfh {w:World} {base n c:Nat} {A:Option Addr} {L:List Chn} (h:w.ownsRow base 54 2 (.slice A n c) n (L.flatMap Chn.cs)):ChnL w w.heap.size A n L:=RecL.of_own h (fun _ _=>trivial) (fun _ _=>rfl)
theorem ST.codes {w wi:World} {base B g gw:Nat} {U:List Usr} {C:List Chn} {kx kp kn:Nat} {d:Wd} (h:ST w wi base B g gw U C kx kp kn d):Zaq wi B g:=by
 obtain ⟨vs,vu,vc,vx,vp,V,si,_⟩:=h
 exact si.c
theorem ST.more2 {w wi:World} {base B g gw:Nat} {U:List Usr} {C:List Chn} {kx kp kn:Nat} {d:Wd} (h:ST w wi base B g gw U C kx (kp+1) kn d):ST w wi base B g gw U C kx (kp+3) kn d:=by
 obtain ⟨vs,vu,vc,vx,vp,V,si,ok,h1,h2⟩:=h
 exact ⟨vs,vu,vc,vx,vp,V,si,ok.more (Nat.le_refl _) (by omega) (Nat.le_refl _),h1,h2⟩
theorem step_load_mid {P:Program} {l:List Oper} {o:Oper} {a:Act} {w:World} {K:Act→World→Prop} {Q:Exit→Act→World→Prop} {E:Prop} (hw:Region.wanted o (yielded l.toArray a.tmps)=true) (t:TypeId) (x:Operand) (ho:o.op=.load t x) (b off:Nat) (hx:a.eval x=.pointer (some ⟨b,off,none⟩)) (cs:List Value) (d:TypeDesc) (hc:w.rangeAt b off cs)
  (hu:P.underlying t=some d) (hd:d.isRow=true) (hi:(P.info? t).map (·.size)=some cs.length) (h:K (a.put o.dst (.agg cs.toArray)) w):if Region.wanted o (yielded l.toArray a.tmps)=true then Oper.wp P o a w K Q else E:=by
 rw [if_pos hw]
 exact wp_load_mid t x ho b off hx cs d hc hu hd hi h
theorem ST.le {w wi:World} {base B g gw:Nat} {U:List Usr} {C:List Chn} {kx kp kn kx' kp' kn':Nat} {d:Wd} (h:ST w wi base B g gw U C kx kp kn d) (h1:kx≤kx') (h2:kp≤kp') (h3:kn≤kn'):ST w wi base B g gw U C kx' kp' kn' d:=by
 obtain ⟨vs,vu,vc,vx,vp,V,si,ok,h4,h5⟩:=h
 exact ⟨vs,vu,vc,vx,vp,V,si,ok.more h1 h2 h3,h4,h5⟩
def PFine (r:SRes):Prop:=SBad r∧(r.code=0→ZbQ r.L r.nx∧0 < r.bs.length∧r.bs.length≤300)
def QFine (r:CRes):Prop:=r.c.Ok∧(r.code=0→r.c.user.length≤17∧0 < r.b.length∧r.b.length≤300)
theorem own_idx {w:World} {base n c:Nat} {A:Option Addr} {L:List Cli} {k:Nat} {x:Cli} (h:w.ownsRow base 65 41 (.slice A n c) n (L.flatMap Cli.cs)) (hl:∀ x∈L,(Cli.cs x).length=41) (hk:L[k]?=some x) :∃gx cur,A=some ⟨gx,0,none⟩∧base≤gx∧Blk w gx 65 cur∧cur.size=c*41∧n≤c∧c≤maxLen∧L.length=n∧cur.toList.take (n*41)=L.flatMap Cli.cs∧(k*41+41≤cur.size)∧w.rangeAt gx (k*41) x.cs:=by
 obtain ⟨g,c',cur,hv,h1,h2,h3,h4,h5,h6,h7,h8,h9⟩:=own_rec h (by decide) hl hk
 injection hv with e1 _ e2
 subst e1 e2
 exact ⟨g,cur,rfl,h1,h2,h3,h4,h5,h6,h7,h8,fun j v hv=>by rw [h2.cell]; exact h9 j v hv⟩
theorem ST.cj {w wi wj:World} {base B g gw:Nat} {U:List Usr} {C:List Chn} {kx kp kn:Nat} {d:Wd} (h:ST w wi base B g gw U C kx kp kn d) (hj:CJ wi B g wj):ST w wj base B g gw U C kx kp kn d:=by
 obtain ⟨vs,vu,vc,vx,vp,V,si,ok,h1,h2⟩:=h
 exact ⟨vs,vu,vc,vx,vp,V,si.cj hj,ok,h1,h2⟩
def STq (w wi:World) (base B g gw:Nat) (U:List Usr) (C:List Chn) (kx kp kn:Nat) (d:Wd) (q:Nat):Prop :=
 ∃ vs vu vc vx vp V,SI w wi base B g gw d vs vu vc vx vp V∧WdOk d kx kp kn∧d.U=U∧d.C=C∧vx.ownBlock≠some q
theorem STq.st {w wi:World} {base B g gw:Nat} {U:List Usr} {C:List Chn} {kx kp kn q:Nat} {d:Wd} (h:STq w wi base B g gw U C kx kp kn d q):ST w wi base B g gw U C kx kp kn d:=by
 obtain ⟨vs,vu,vc,vx,vp,V,si,ok,h1,h2,_⟩:=h
 exact ⟨vs,vu,vc,vx,vp,V,si,ok,h1,h2⟩
theorem STq.open_ {w wi:World} {base B g gw:Nat} {U:List Usr} {C:List Chn} {kx kp kn q:Nat} {d:Wd} (h:STq w wi base B g gw U C kx kp kn d q) :
  ∃ As cs Au cu Ac cc Ax cx Ap cp V,SI w wi base B g gw d (.slice As d.L.length cs) (.slice Au d.U.length cu) (.slice Ac d.C.length cc) (.slice Ax d.X.length cx) (.slice Ap d.P.length cp) V∧WdOk d kx kp kn∧d.U=U∧d.C=C∧(Value.slice Ax d.X.length cx).ownBlock≠some q:=by
 obtain ⟨vs,vu,vc,vx,vp,V,si,ok,h1,h2,h3⟩:=h
 obtain ⟨As,cs,e1,_,_⟩:=Zac si.wd.m.s
 obtain ⟨Au,cu,e2,_,_⟩:=Zac si.wd.m.u
 obtain ⟨Ac,cc,e3,_,_⟩:=Zac si.wd.m.c
 obtain ⟨Ax,cx,e4,_,_⟩:=Zac si.wd.m.x
 obtain ⟨Ap,cp,e5,_,_⟩:=Zac si.wd.m.p
 subst e1 e2 e3 e4 e5
 exact ⟨As,cs,Au,cu,Ac,cc,Ax,cx,Ap,cp,V,si,ok,h1,h2,h3⟩
def TFine (r:TRes):Prop:=r.c.Ok∧(r.e=0→r.c.user.length≤17)
theorem acpt_bad (c:Cli) (b:List UInt8) (h:(ZdL c b).1≠0):(ZdL c b).2=zCli:=by
 unfold ZdL at h ⊢
 by_cases h1:cliF c=false
 · rw [if_pos h1]
 rw [if_neg h1] at h ⊢
 by_cases h2:c.opn=true∨c.id=0
 · rw [if_pos h2]
 rw [if_neg h2] at h ⊢
 by_cases h3:¬ (b.length=13∧b[0]?=some 4∧leW ((b.drop 1).take 4)=c.id)
 · rw [if_pos h3]
 rw [if_neg h3] at h ⊢
 by_cases h4:decide (b=ZbB 4 c.key c.id c.nonce c.server (levB c.level))=false
 · rw [if_pos h4]
 rw [if_neg h4] at h
 exact absurd rfl h
theorem AddP.keep {w w':World} {base gw q:Nat} {d:Wd} {vs vu vc vx:Value} {bs:List UInt8} {e:Ending} {t:TypeId} {cs:Array Value} (ha:AddP w base gw d vs vu vc vx bs e w') (hb:Blk w q t cs) (hq:q≠gw) (ht:t≠22):Blk w' q t cs:=by
 obtain ⟨_,vp',V',_,_,hk⟩:=ha
 exact hk q t cs hb hq ht
theorem Zfd {w w':World} {row:Option Nat} (h:w.drew.grownBy w' row):w.grownBy w' row:=⟨h.os,h.tape,h.output,h.size,h.block⟩
theorem ST.more {w wi:World} {base B g gw:Nat} {U:List Usr} {C:List Chn} {kx kp kn:Nat} {d:Wd} (h:ST w wi base B g gw U C kx kp kn d):ST w wi base B g gw U C (kx+1) (kp+1) kn d:=by
 obtain ⟨vs,vu,vc,vx,vp,V,si,ok,h1,h2⟩:=h
 exact ⟨vs,vu,vc,vx,vp,V,si,ok.more (by omega) (by omega) (Nat.le_refl _),h1,h2⟩
theorem ZcM {w w':World} {base gw n:Nat} {d:Wd} {vs vu vc vx v:Value} {bs:List UInt8} {e:Ending} {xs:List Value} (h:w.ownsRow base 5 1 v n xs) (ha:AddP w base gw d vs vu vc vx bs e w') (hw :∃cs,Blk w gw 37 cs):w'.ownsRow base 5 1 v n xs:=by
 obtain ⟨_,vp',V',_,_,hk⟩:=ha
 obtain ⟨cs,hw⟩:=hw
 refine ⟨h.1,?_⟩
 rcases h.2 with h0 | ⟨g,cap,cur,hv,hb,hh,hc⟩
 · exact .inl h0
 · exact .inr ⟨g,cap,cur,hv,hb,hk g 5 cur hh ((show Blk w g 5 cur from hh).ne_ hw (by decide)) (by decide),hc⟩
def SFine (b:List UInt8) (r:SRes):Prop:=SBad r∧(r.code=0→ZbQ r.L r.nx∧0 < r.bs.length∧r.bs.length≤300∧(∃ nx nonce,r.bs=ZdZ nx nonce)∧11≤b.length)
def StepP (w:World) (base B g gw:Nat) (U:List Usr) (C:List Chn) (kx kp kn:Nat) (e:Ending) (w':World):Prop:=e=.returned (.tuple #[])∧∃ d,ST w w' base B g gw U C (kx+1) (kp+3) (kn+1) d
def StaR (now:Int):Nat→(Nat→Value)→World→Prop
 | 3,vals,_=>(vals 3)=.int .i64 now
 | 5,vals,_=>ZbO 5 (vals 5)
 | 7,vals,_=>ZbO 40 (vals 7)
 | 8,vals,_=>∃ r:Int,(vals 8)=.int .i64 r∧0≤r∧r≤156
 | 9,vals,_=>∃ r:Int,(vals 9)=.int .i64 (now+r)∧0≤r∧r≤156
 | _,_,_=>True
def StaR.D:Nat→List Nat
 | _=>[]
theorem StaR.keep {now:Int} {g:Nat}:∀ (k:Nat) (v:Nat→Value) (w w':World),StaR now k v w→CT g w w'→StaR now k v w':=by
 intro k v w w' h hct
 unfold StaR at *
 split at h
 · exact h
 · exact h
 · exact h
 · exact h
 · exact h
 · trivial
theorem StaR.loc {now:Int}:∀ (k:Nat) (v v':Nat→Value) (w:World),(∀ j,j∈k::StaR.D k→v j=v' j)→StaR now k v w→StaR now k v' w:=by
 intro k v v' w hv h
 unfold StaR at *
 split at h
 · have e3:=hv 3 (by simp [StaR.D]); rw [e3] at h; exact h
 · have e5:=hv 5 (by simp [StaR.D]); rw [e5] at h; exact h
 · have e7:=hv 7 (by simp [StaR.D]); rw [e7] at h; exact h
 · have e8:=hv 8 (by simp [StaR.D]); rw [e8] at h; exact h
 · have e9:=hv 9 (by simp [StaR.D]); rw [e9] at h; exact h
 · trivial
def StbR (q0 gu:Nat) (U:List Usr):Nat→(Nat→Value)→World→Prop
 | 12,vals,_=>∃ k:Nat,(vals 12)=.int .i64 (k:Int)∧k < U.length
 | 13,vals,_=>∃ k:Nat,(vals 13)=.pointer (some ⟨gu,k*19,none⟩)∧k < U.length
 | 14,vals,_=>∃ u:Usr,u∈U∧(vals 14)=.agg u.cs.toArray
 | 15,vals,w=>∃ q:Nat,(vals 15)=.pointer (some ⟨q,0,none⟩)∧Blk w q 52 zUsr.cs.toArray∧q0≤q
 | _,_,_=>True
def StbR.D:Nat→List Nat
 | _=>[]
theorem StbR.keep {q0 gu:Nat} {U:List Usr} {g:Nat} (hg:g < q0):∀ (k:Nat) (v:Nat→Value) (w w':World),StbR q0 gu U k v w→CT g w w'→StbR q0 gu U k v w':=by
 intro k v w w' h hct
 unfold StbR at *
 split at h
 · exact h
 · exact h
 · exact h
 · obtain ⟨q,h1,h2,h3⟩:=h; exact ⟨q,h1,hct.blk h2 (by omega),h3⟩
 · trivial
theorem StbR.loc {q0 gu:Nat} {U:List Usr}:∀ (k:Nat) (v v':Nat→Value) (w:World),(∀ j,j∈k::StbR.D k→v j=v' j)→StbR q0 gu U k v w→StbR q0 gu U k v' w:=by
 intro k v v' w hv h
 unfold StbR at *
 split at h
 · have e12:=hv 12 (by simp [StbR.D]); rw [e12] at h; exact h
 · have e13:=hv 13 (by simp [StbR.D]); rw [e13] at h; exact h
 · have e14:=hv 14 (by simp [StbR.D]); rw [e14] at h; exact h
 · have e15:=hv 15 (by simp [StbR.D]); rw [e15] at h; exact h
 · trivial
def SteR (q0:Nat) (vx:Value) (c:Cli):Nat→(Nat→Value)→World→Prop
 | 4,vals,_=>(vals 4)=vx
 | 5,vals,_=>(vals 5)=.agg c.cs.toArray
 | 6,vals,w=>∃ q:Nat,(vals 6)=.slice (some ⟨q,0,none⟩) 1 1∧Blk w q 65 c.cs.toArray∧q0≤q
 | _,_,_=>True
def SteR.D:Nat→List Nat
 | _=>[]
theorem SteR.keep {q0:Nat} {vx:Value} {c:Cli} {g:Nat} (hg:g < q0):∀ (k:Nat) (v:Nat→Value) (w w':World),SteR q0 vx c k v w→CT g w w'→SteR q0 vx c k v w':=by
 intro k v w w' h hct
 unfold SteR at *
 split at h
 · exact h
 · exact h
 · obtain ⟨q,h1,h2,h3⟩:=h; exact ⟨q,h1,hct.blk h2 (by omega),h3⟩
 · trivial
theorem SteR.loc {q0:Nat} {vx:Value} {c:Cli}:∀ (k:Nat) (v v':Nat→Value) (w:World),(∀ j,j∈k::SteR.D k→v j=v' j)→SteR q0 vx c k v w→SteR q0 vx c k v' w:=by
 intro k v v' w hv h
 unfold SteR at *
 split at h
 · have e4:=hv 4 (by simp [SteR.D]); rw [e4] at h; exact h
 · have e5:=hv 5 (by simp [SteR.D]); rw [e5] at h; exact h
 · have e6:=hv 6 (by simp [SteR.D]); rw [e6] at h; exact h
 · trivial
end Go.Proofs.YtfbkkmnkpjgciaaGreat
