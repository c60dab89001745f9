/- Joined of GBegin TStepP. No condition. -/
import Derived.Test.YtfbkkmnkpjgciaaGreatPD29
import Derived.Test.YtfbkkmnkpjgciaaGreatPD16
import Derived.Test.YtfbkkmnkpjgciaaGreatPD32
import Derived.Lib.AppendStr
import Derived.Test.YtfbkkmnkpjgciaaGreatPD33
namespace Go.Proofs.YtfbkkmnkpjgciaaGreat
open Go.RowKit
section
open Go.Lib
variable {P:Program} {w:World}
theorem step_append_str {ops:Array Oper} {o:Oper} {a:Act} {K:Act→World→Prop} {Q:Exit→Act→World→Prop} {E:Prop} (hgd:o.guard=none) (sl x:Operand) (t u:TypeId)
  (ho:o.op=.call { callee:=.builtin .append,args:=#[sl,x],argTypes:=#[t,u] })
  (base:Nat) (e:TypeId) (i:TypeInfo) (ht:P.underlying t=some (.slice e)) (hu:P.underlying u=some .string) (hi:P.info? e=some i) (hz:i.zero=some (.int .u8 0))
  (hsize:i.size=1) (hby:i.bytes=1)
  (v:Value) (n:Nat) (xs:List Value) (hs:a.eval sl=v) (hown:w.ownsRow base e 1 v n xs) (s:ByteArray) (hx:a.eval x=.string s)
  (h63:n+s.size≤maxLen) (hbytes:n+s.size≤140737488355328) (hbase:base≤w.heap.size)
  (h:∀ v' w',w'.ownsRow base e 1 v' (n+s.size) (xs++strCells s)→w.grownBy w' v.ownBlock→K (a.put o.dst v') w') :
  if Region.wanted o (yielded ops a.tmps)=true then Oper.wp P o a w K Q else E:=by
 rw [if_pos (by unfold Region.wanted; rw [hgd])]
 obtain ⟨v',w',hr,h2,h3,h4⟩:=run_append_own_string (P:=P) w base t u o.type e i ht hu hi hz hsize hby v n xs hown s h63 hbytes hbase
 unfold Oper.wp execOp
 simp only [ho,resolve,invoke,builtin,Sem.run_bind,Sem.run_pure,Result.andThen_ok,List.map_toArray,List.map_cons,List.map_nil,hs,hx,hr]
 exact h v' w' h2 h3
end
theorem strCells_b (u:List UInt8):Go.Lib.strCells ⟨u.toArray⟩=bsV u:=by
 unfold Go.Lib.strCells bsV; simp
def begC (u ks:List UInt8) (l:Int) (n:Nat):CRes :=
 if nameF u=false then badC 1 else if decide (1≤l∧l≤3)=false then badC 2 else ⟨0,newCli u ks l n,helloF u (levB l) n⟩
set_option maxRecDepth 100000 in
set_option maxHeartbeats 16000000 in
theorem rbegin_sx (w:World) (u ks:List UInt8) (hu:u.length≤maxLen) (hk:ks.length=16) (l:Int) (n:Nat) (hn:n < 18446744073709551616) (r:CRes) (hp:begC u ks l n=r) :
  Calls Tryz.prog 21 #[.string ⟨u.toArray⟩,.agg (bsV ks).toArray,.int .i64 l,.int .u64 (n:Int)] w (CliPost w r):=by
 obtain ⟨W1,hW1⟩ :∃W1,(w.alloc (.cells (bsV ks).toArray 46)).alloc (.cells zCli.cs.toArray 65)=W1:=⟨_,rfl⟩
 have K0:Hid (Blk W1 w.heap.size 46 (bsV ks).toArray):=jd (hW1 ▸ ((Blk.new w _ _).alloc _))
 have K2:Hid (Blk W1 (w.heap.size+1) 65 zCli.cs.toArray):=jd (hW1 ▸ (Blk.new' (by simp)))
 have B1:Hid (Below w.heap.size w W1):=jd (hW1 ▸ ((Below.refl _ _).alloc (Nat.le_refl _) _).alloc (by rw [size_alloc]; omega) _)
 have hs1:w.heap.size+1 < W1.heap.size:=(uh K2).lt
 have HW1:=jd hW1
 have HSZ:=jd (key_size hk)
 have HP:=jd hp
 have HU:=jd hu
 have HOK:=jd (newCli_ok (l:=l) hu hk hn)
 have BC:Hid (Tryz.prog.built 65 [(0,.string ⟨u.toArray⟩),(1,.agg (bsV ks).toArray),(2,.int .i64 l),(3,.int .u64 (n:Int))]=some (newCli u ks l n).cs.toArray):=jd (build_cli u ks hk l n)
 obtain ⟨t1,ht1⟩ :∃t,nameF u=t:=⟨_,rfl⟩
 obtain ⟨t2,ht2⟩ :∃t,decide (1≤l∧l≤3)=t:=⟨_,rfl⟩
 have HT1:=jd ht1
 have HT2:=jd ht2
 clear hW1 hk hp hu ht1 ht2
 go_enter Tryz.func21,Tryz.ntmps21
 go_upto_region 1 with (first
  | (refine wpList_alloc_to rfl 65 rfl _ (w.heap.size+1) (size_alloc _ _) (alloc_cli _) ?_)
  | fail)
 rw [uh HW1]
 go_wp2_with fail
 refine (rname_any W1 u (uh HU) t1 (uh HT1)).mono ?_
 rintro e w2 ⟨rfl,hw2⟩
 have hw3:=hw2.symm
 subst hw3
 have J0:=K0
 have J2:=K2
 have X2:=B1
 cases t1
 case false =>
  have hrr:=uh HP
  unfold begC at hrr
  rw [if_pos (uh HT1)] at hrr
  subst hrr
  clear HP
  go_wp2_with (first
   | (refine wpList_build_cs rfl 65 _ rfl [] rfl _ build_cli0 ?_)
   |(refine wpList_store_blk rfl 65 (.tmp 8) (.tmp 16) rfl (w.heap.size+1) 65 _ zCli.cs.toArray rfl rfl (uh J2) rfl (cli_info zCli_ok) (fun v hv=>Cli.one v (by simpa using hv)) ?_
     intro w9 hb9 hg9
     have Z9:=jd hb9
     have E9:=jd (gWz (uh X2) hg9)
     clear hb9 hg9)
   | fail)
  exact bodyPost_ret (v:=.tuple #[.agg zCli.cs.toArray,.slice none 0 0,.int .i64 1]) (res_ctt rfl _ (w.heap.size+1) 65 _ _ _ _ rfl rfl rfl (uh Z9) Tryz.underlying65 rfl (cli_info zCli_ok)) rfl (show CliPost w (badC 1) _ _ by unfold CliPost badC; rw [if_neg (by decide)]; exact ⟨rfl,uh E9⟩)
 cases t2
 case false =>
  have hrr:=uh HP
  unfold begC at hrr
  rw [if_neg (by rw [uh HT1]; simp),if_pos (uh HT2)] at hrr
  subst hrr
  clear HP
  go_wp2_with (first
   | (refine wpList_build_cs rfl 65 _ rfl [] rfl _ build_cli0 ?_)
   |(refine wpList_store_blk rfl 65 (.tmp 8) (.tmp 21) rfl (w.heap.size+1) 65 _ zCli.cs.toArray rfl rfl (uh J2) rfl (cli_info zCli_ok) (fun v hv=>Cli.one v (by simpa using hv)) ?_
     intro w9 hb9 hg9
     have Z9:=jd hb9
     have E9:=jd (gWz (uh X2) hg9)
     clear hb9 hg9)
   | (go_at_call 63; refine (rlevel_sx _ l _ (uh HT2)).mono ?_; rintro e w' ⟨rfl,rfl⟩)
   | fail)
  exact bodyPost_ret (v:=.tuple #[.agg zCli.cs.toArray,.slice none 0 0,.int .i64 2]) (res_ctt rfl _ (w.heap.size+1) 65 _ _ _ _ rfl rfl rfl (uh Z9) Tryz.underlying65 rfl (cli_info zCli_ok)) rfl (show CliPost w (badC 2) _ _ by unfold CliPost badC; rw [if_neg (by decide)]; exact ⟨rfl,uh E9⟩)
 have hrr:=uh HP
 unfold begC at hrr
 rw [if_neg (by rw [uh HT1]; simp),if_neg (by rw [uh HT2]; simp)] at hrr
 have HP2:=jd hrr
 have hl13:1≤l∧l≤3:=of_decide_eq_true (uh HT2)
 have hlw:IntKind.u8.wrap l=((levB l).toNat:Int):=by rw [levB_of (uh HT2),IntKind.wrap_u8']; omega
 have hu16:=nameF_len (uh HT1)
 clear hrr HP hl13
 go_upto_region 5 with (first
  | (go_at_call 63; refine (rlevel_sx _ l _ (uh HT2)).mono ?_; rintro e w' ⟨rfl,rfl⟩)
  | fail)
 go_wp2_with (first
  | (refine wpList_bslice rfl 22 1 _ rfl [(0,.int .u8 ((1:UInt8).toNat:Int))] rfl _ _ (run_slice_b w2 1) ?_)
  | fail)
 have R1:=own_b1 w2 w2.heap.size (Nat.le_refl _) 1
 have Y1:Below w2.heap.size w2 (w2.alloc (.cells #[.int .u8 ((1:UInt8).toNat:Int)] 5)):=(Below.refl _ _).alloc (Nat.le_refl _) _
 refine (rnumber_sx (w2.alloc (.cells #[.int .u8 ((1:UInt8).toNat:Int)] 5)) (n:Int) 8 (by decide)).mono ?_
 rintro e w3 ⟨v3,rfl,o3,b3⟩
 obtain ⟨A3,c3,rfl,hc3,hm3⟩:=slice_of_own o3
 have N3:=jd (Reads.of_own o3)
 have R3:=jd (own_below R1 b3)
 have Y3:=jd (Y1.trans (b3.mono (by rw [size_alloc]; omega)))
 have hs3:=(uh Y3).size
 clear R1 Y1 o3 b3
 go_upto_region 6 with (first
  |(at_builtin; refine wpList_app8 w3 (.tmp 22) (.tmp 24) _ A3 8 c3 rfl rfl rfl rfl w2.heap.size 1 [1] (uh R3) _ (leB (n:Int) 8) (uh N3) (by decide) (by omega) ?_
    intro A4 c4 w4 o4 hc4 hm4 b4
    have R4:=jd (o4.alloc (.cells #[.int .u8 ((levB l).toNat:Int)] 5))
    have N4:=jd (Reads.of_own (own_b1 w4 w4.heap.size (Nat.le_refl _) (levB l)))
    have Y4:=jd ((uh Y3).trans b4)
    have hs4:=(uh Y4).size
    clear o4 b4)
  | (refine wpList_bslice rfl 22 1 _ rfl [(0,.int .u8 ((levB l).toNat:Int))] rfl _ _ (run_slice_b w4 (levB l)) ?_)
  |(at_builtin; refine wpList_app8 (w4.alloc (.cells #[.int .u8 ((levB l).toNat:Int)] 5)) (.tmp 25) (.tmp 28) _ (some ⟨w4.heap.size,0,none⟩) 1 1 rfl rfl rfl rfl w2.heap.size 9 _ (uh R4) _ [levB l] (uh N4) (by decide) (by rw [size_alloc]; omega) ?_
    intro A5 c5 w5 o5 hc5 hm5 b5
    have R5:=jd o5
    have Y5:=jd (((uh Y4).alloc (by omega) _).trans b5)
    have hs5:=(uh Y5).size
    have D0:=jd ((uh J0).below (uh Y5) (uh J0).lt)
    have D2:=jd ((uh J2).below (uh Y5) (uh J2).lt)
    have X5:=jd ((uh X2).trans ((uh Y5).mono (uh X2).size))
    clear o5 b5)
  | fail)
 obtain ⟨i0,hi,hz0,hz1,hz2⟩:=info_parts info_b
 have HI:=jd hi
 have HZ0:=jd hz0
 have HZ1:=jd hz1
 have HZ2:=jd hz2
 clear hi hz0 hz1 hz2
 have hB0:Below w5.heap.size w5 w5.drew:=(Below.refl _ _).drew
 have hS0:(fun wz=>Blk wz w.heap.size 46 (bsV ks).toArray) w5.drew:=(uh D0).drew
 refine wp_region_noPanic (wp_region_held_drew (S:=fun wz=>Blk wz w.heap.size 46 (bsV ks).toArray) (by kernel_rfl) hS0 (fun _=>?_))
 clear hB0
 refine tq 0 rfl hS0 ?_
 refine tJz 1 rfl (y_loadblk 46 (.tmp 5) (by rfl) rfl w.heap.size rfl 46 (bsV ks).toArray _ (fun _ h=>h) Tryz.underlying46 rfl (uh HSZ)) hS0 ?_
 refine tq 2 rfl hS0 ?_
 refine tq 3 rfl hS0 ?_
 refine tJz (v:=.agg (newCli u ks l n).cs.toArray) 4 rfl (y_build 65 _ (by rfl) rfl [(0,.string ⟨u.toArray⟩),(1,.agg (bsV ks).toArray),(2,.int .i64 l),(3,.int .u64 (n:Int))] rfl _ (uh BC)) hS0 ?_
 refine tq 5 rfl hS0 ?_
 refine tq 6 rfl hS0 ?_
 refine tOz 7 rfl fun K hK=>?_
 refine step_append_str (w:=w5.drew) rfl (.tmp 35) (.tmp 36) 22 9 rfl w2.heap.size 5 i0 Tryz.underlying22 Tryz.underlying9 (uh HI) (uh HZ0) (uh HZ1) (uh HZ2) _ 10 _ rfl (uh R5).drew ⟨u.toArray⟩ rfl (by show 10+u.length≤maxLen; unfold maxLen; omega) (by show 10+u.length≤_; omega) hs5 ?_
 rw [strCells_b,show ByteArray.size ⟨u.toArray⟩=u.length from rfl]
 intro v6 w6 o6 g6
 have b6:Below w2.heap.size w5.drew w6:=(Below.refl _ _).grown g6 hs5 (own_ge (uh R5).drew)
 have h6:Below w2.heap.size w2 w6:=(uh Y5).drew.trans b6
 have hs6:=h6.size
 have D6:=(uh J0).below h6 (uh J0).lt
 have E6:=(uh J2).below h6 (uh J2).lt
 refine hK.out _ _ D6 (fun _=>?_)
 clear hK K
 try simp only [Act.put,zA,zB,zC]
 refine tOz 8 rfl fun K hK=>?_
 refine step_store_blk (by rfl) 65 (.tmp 8) (.tmp 34) rfl (w.heap.size+1) 65 _ (newCli u ks l n).cs.toArray rfl rfl E6 (Cli.size_eq (uh HOK)) (cli_info (uh HOK)) (fun v hv=>Cli.one v (by simpa using hv)) ?_
 intro w7 hb7 hg7
 have X7:Below w.heap.size w w7:=((uh X2).trans (h6.mono (uh X2).size)).grown hg7 (by have:=(uh X2).size; omega) (fun j e=>by injection e with e; omega)
 have o7:=World.ownsRow.kept o6 hg7 (.inr (own_blk_ne o6 E6 (by decide)))
 have R7:=jd hb7
 have XX7:=jd X7
 have O7:=jd (own_more o7 (uh X2).size)
 have D7:=D6.grown hg7 (fun e=>by injection e with e; omega)
 clear hb7 hg7 X7 o7 o6
 refine hK.out _ _ D7 (fun _=>?_)
 clear hK K
 try simp only [Act.put]
 refine tq 9 rfl D7 ?_
 refine tq 10 rfl D7 ?_
 refine wpAnyH_done (by kernel_rfl) (NoPanic.normal ?_) _
 have hrr:=uh HP2
 subst hrr
 go_wp2_with fail
 refine bodyPost_ret (v:=.tuple #[.agg (newCli u ks l n).cs.toArray,v6,.int .i64 0]) (res_ctt rfl _ (w.heap.size+1) 65 _ _ _ _ rfl rfl rfl (uh R7) Tryz.underlying65 rfl (cli_info (uh HOK))) rfl ?_
 show CliPost w _ _ _
 unfold CliPost
 rw [if_pos rfl]
 refine ⟨v6,rfl,?_,uh XX7⟩
 have:=uh O7
 rw [helloF_len]
 rw [show bsV ([1]++leB (n:Int) 8++[levB l])++bsV u=bsV (helloF u (levB l) n) by simp [helloF,joinF,bsV]] at this
 exact this
def KB2 (w w':World) (g gw:Nat):Prop:=∀ j t cs,Blk w j t cs→j≠g→j≠gw→t≠22→t≠65→Blk w' j t cs
structure SI (w wi:World) (base B g gw:Nat) (d:Wd) (vs vu vc vx vp:Value) (V:List Value):Prop where
 wd:WdAt wi base gw d vs vu vc vx vp V
 c:CodesAt wi B g
 low:Below g w wi
 kb:KB2 w wi g gw
section
variable {w wi wj:World} {base B g gw:Nat} {d:Wd} {vs vu vc vx vp:Value} {V:List Value}
theorem SI.start (hc:CodesAt w B g) (h:WdAt w base gw d vs vu vc vx vp V):SI w w base B g gw d vs vu vc vx vp V:=⟨h,hc,Below.refl _ _,fun _ _ _ h _ _ _ _=>h⟩
theorem SI.gsz (h:SI w wi base B g gw d vs vu vc vx vp V):g < wi.heap.size:=h.c.lt
theorem SI.size (h:SI w wi base B g gw d vs vu vc vx vp V):w.heap.size≤wi.heap.size:=h.low.size
theorem SI.cj (h:SI w wi base B g gw d vs vu vc vx vp V) (hj:CJ wi B g wj):SI w wj base B g gw d vs vu vc vx vp V :=
 ⟨h.wd.cj h.c hj.1,hj.2,⟨hj.1.os.trans h.low.os,hj.1.tape.trans h.low.tape,hj.1.output.trans h.low.output,Nat.le_trans h.low.size hj.1.size,fun k hk=>(hj.1.block k (by have:=h.gsz; omega) (fun e=>by injection e with e; omega)).trans (h.low.block k hk)⟩,
  fun j t cs hb h1 h2 h3 h4=>(h.kb j t cs hb h1 h2 h3 h4).grown hj.1 (fun e=>h1 (by injection e))⟩
theorem SI.below (h:SI w wi base B g gw d vs vu vc vx vp V) (hb:Below wi.heap.size wi wj):SI w wj base B g gw d vs vu vc vx vp V :=
 ⟨h.wd.below hb,h.c.below_ hb,h.low.trans (hb.mono (by have:=h.gsz; omega)),fun j t cs hj h1 h2 h3 h4=>(h.kb j t cs hj h1 h2 h3 h4).below hb (h.kb j t cs hj h1 h2 h3 h4).lt⟩
theorem SI.store {q:Nat} {t:TypeId} {cs:Array Value} (h:SI w wi base B g gw d vs vu vc vx vp V) (hq:Blk wi q t cs) (hg:wi.grownBy wj (some q)) (hw:w.heap.size≤q) (hgl:g < w.heap.size) (ht:WdRow t=false) (hne:t≠37):SI w wj base B g gw d vs vu vc vx vp V :=
 ⟨h.wd.stored hq hg ht hne,h.c.grown_ hg (fun j hj=>by injection hj with hj; omega),h.low.grown hg (by have:=h.gsz; omega) (fun j hj=>by injection hj with hj; omega),
  fun j t cs hj h1 h2 h3 h4=>(h.kb j t cs hj h1 h2 h3 h4).grown hg (fun e=>by have:=hj.lt; injection e with e; omega)⟩
theorem WdM.storedX {q m:Nat} {cs:Array Value} (h:WdM wi base d vs vu vc vx vp V) (hq:Blk wi q 65 cs) (hg:wi.grownBy wj (some q)) (hn:vx.ownBlock≠some q) (_hm:m=m):WdM wj base d vs vu vc vx vp V :=
 ⟨own_cj h.s hg (own_blk_ne h.s hq (by decide)),own_cj h.u hg (own_blk_ne h.u hq (by decide)),own_cj h.c hg (own_blk_ne h.c hq (by decide)),own_cj h.x hg hn,own_cj h.p hg (own_blk_ne h.p hq (by decide)),h.q.kept_ hg fun v n xs ho=>.inr (own_blk_ne ho hq (by decide))⟩
theorem SI.storeC {q:Nat} {cs:Array Value} (h:SI w wi base B g gw d vs vu vc vx vp V) (hq:Blk wi q 65 cs) (hg:wi.grownBy wj (some q)) (hw:w.heap.size≤q) (hgl:g < w.heap.size) (hn:vx.ownBlock≠some q):SI w wj base B g gw d vs vu vc vx vp V :=
 ⟨⟨h.wd.blk.grown hg (fun e=>h.wd.blk.ne_ hq (by decide) (by injection e)),h.wd.m.storedX (m:=0) hq hg hn rfl⟩,h.c.grown_ hg (fun j hj=>by injection hj with hj; omega),h.low.grown hg (by have:=h.gsz; omega) (fun j hj=>by injection hj with hj; omega),
  fun j t cs hj h1 h2 h3 h4=>(h.kb j t cs hj h1 h2 h3 h4).grown hg (fun e=>by have:=hj.lt; injection e with e; omega)⟩
theorem SI.put {d':Wd} {vs' vu' vc' vx' vp':Value} {V':List Value} (h:SI w wi base B g gw d vs vu vc vx vp V) (hgw:g < gw) (hb:Blk wj gw 37 (WdCells d' vs' vu' vc' vx' vp')) (hg:wi.grownBy wj (some gw)) (hm:WdM wi base d' vs' vu' vc' vx' vp' V'):SI w wj base B g gw d' vs' vu' vc' vx' vp' V' :=
 ⟨h.wd.put hb hg hm,h.c.grown_ hg (fun j hj=>by injection hj with hj; omega),h.low.grown hg (by have:=h.gsz; omega) (fun j hj=>by injection hj with hj; omega),
  fun j t cs hj h1 h2 h3 h4=>(h.kb j t cs hj h1 h2 h3 h4).grown hg (fun e=>h2 (by injection e))⟩
theorem SI.add {bs:List UInt8} {e:Ending} (h:SI w wi base B g gw d vs vu vc vx vp V) (hgb:g < base) (ha:AddP wi base gw d vs vu vc vx bs e wj) :∃vp' V',SI w wj base B g gw { d with P:=d.P++[bs] } vs vu vc vx vp' V':=by
 obtain ⟨_,vp',V',h1,h2,h3⟩:=ha
 exact ⟨vp',V',h1,h.c.keep (fun b hb=>h2.block b (by omega)),h.low.trans (h2.mono (by omega)),fun j t cs hj h4 h5 h6 h7=>h3 j t cs (h.kb j t cs hj h4 h5 h6 h7) h5 h6⟩
theorem SI.rowX {vx':Value} {X':List Cli} (h:SI w wi base B g gw d vs vu vc vx vp V) (hgb:g < base) (hg:wi.grownBy wj vx.ownBlock) (hx:wj.ownsRow base 65 41 vx' X'.length (X'.flatMap Cli.cs)) :
  Blk wj gw 37 (WdCells d vs vu vc vx vp)∧WdM wj base { d with X:=X' } vs vu vc vx' vp V∧CodesAt wj B g∧Below g w wj∧KB2 w wj g gw :=
 ⟨h.wd.blk.grown hg (own_blk_ne h.wd.m.x h.wd.blk (by decide)).symm,h.wd.m.putX hg hx,h.c.grown_ hg (fun j hj=>by have:=own_ge h.wd.m.x j hj; omega),h.low.grown hg (by have:=h.gsz; omega) (fun j hj=>by have:=own_ge h.wd.m.x j hj; omega),
  fun j t cs hj h1 h2 h3 h4=>(h.kb j t cs hj h1 h2 h3 h4).grown hg (own_blk_ne h.wd.m.x (h.kb j t cs hj h1 h2 h3 h4) h4.symm).symm⟩
end
section
variable {d:Wd} {kx kp kn:Nat}
theorem WdOk.time {t:Int} (h:WdOk d kx kp kn) (h0:0≤t) (h1:t≤200):WdOk { d with now:=d.now+t } kx kp (kn+1) :=
 ⟨h.tab,h.uok,h.ulen,h.upos,h.clen,h.xok,h.xlen,h.pok,h.plen,by have:=h.now0; show 0≤d.now+t; omega,by have:=h.now1; show d.now+t≤_; omega⟩
theorem WdOk.pushX {c:Cli} (h:WdOk d kx kp kn) (hc:c.Ok) (hu:c.user.length≤17):WdOk { d with X:=d.X++[c] } (kx+1) kp kn :=
 ⟨h.tab,h.uok,h.ulen,h.upos,h.clen,fun x hx=>by
  rcases List.mem_append.1 hx with hx | hx
  · exact h.xok x hx
  · simp at hx; subst hx; exact ⟨hc,hu⟩,by have:=h.xlen; show (d.X++[c]).length≤_; simp; omega,h.pok,h.plen,h.now0,h.now1⟩
theorem WdOk.setX {c:Cli} {i:Nat} (h:WdOk d kx kp kn) (hc:c.Ok) (hu:c.user.length≤17):WdOk { d with X:=d.X.set i c } kx kp kn :=
 ⟨h.tab,h.uok,h.ulen,h.upos,h.clen,fun x hx=>by
  rcases List.mem_or_eq_of_mem_set hx with hx | rfl
  · exact h.xok x hx
  · exact ⟨hc,hu⟩,by have:=h.xlen; show (d.X.set i c).length≤_; simpa using this,h.pok,h.plen,h.now0,h.now1⟩
theorem WdOk.pushP {p:List UInt8} (h:WdOk d kx kp kn) (h0:0 < p.length) (h1:p.length≤300):WdOk { d with P:=d.P++[p] } kx (kp+1) kn :=
 ⟨h.tab,h.uok,h.ulen,h.upos,h.clen,h.xok,h.xlen,fun x hx=>by
  rcases List.mem_append.1 hx with hx | hx
  · exact h.pok x hx
  · simp at hx; subst hx; exact ⟨h0,h1⟩,by have:=h.plen; show (d.P++[p]).length≤_; simp; omega,h.now0,h.now1⟩
theorem WdOk.setS {L:List Sess} {nx:Nat} (h:WdOk d kx kp kn) (ht:TabOk L nx):WdOk { d with L:=L,nx:=nx } kx kp kn :=
 ⟨ht,h.uok,h.ulen,h.upos,h.clen,h.xok,h.xlen,h.pok,h.plen,h.now0,h.now1⟩
theorem WdOk.more {kx' kp' kn':Nat} (h:WdOk d kx kp kn) (h1:kx≤kx') (h2:kp≤kp') (h3:kn≤kn'):WdOk d kx' kp' kn' :=
 ⟨h.tab,h.uok,h.ulen,h.upos,h.clen,h.xok,Nat.le_trans h.xlen h1,h.pok,Nat.le_trans h.plen h2,h.now0,by have:=h.now1; omega⟩
end
def CliV (w:World) (base:Nat) (r:CRes) (v:Value):Prop :=∃vb,v=.tuple #[.agg r.c.cs.toArray,vb,.int .i64 r.code]∧w.ownsRow base 5 1 vb r.b.length (bsV r.b)
def CBad (r:CRes):Prop:=r.code≠0→r.c=zCli∧r.b=[]
theorem CliPost.v {w w':World} {r:CRes} {e:Ending} (h:CliPost w r e w') (hr:CBad r) :∃v,e=.returned v∧CliV w' w.heap.size r v∧Below w.heap.size w w':=by
 unfold CliPost at h
 by_cases h0:r.code=0
 ·rw [if_pos h0] at h
  obtain ⟨vb,he,ho,hb⟩:=h
  exact ⟨_,he,⟨vb,by rw [h0],ho⟩,hb⟩
 ·rw [if_neg h0] at h
  obtain ⟨he,hb⟩:=h
  obtain ⟨h1,h2⟩:=hr h0
  exact ⟨_,he,⟨_,by rw [h1],by rw [h2]; exact World.ownsRow_nil _ _ _ _⟩,hb⟩
def SesV (w:World) (base:Nat) (r:SRes) (v:Value):Prop :=∃vS vb,v=.tuple #[.agg #[vS,.int .u32 (r.nx:Int)],vb,.int .i64 r.code]∧w.ownsRow base 50 26 vS r.L.length (flatS r.L)∧w.ownsRow base 5 1 vb r.bs.length (bsV r.bs)
def SBad (r:SRes):Prop:=r.code≠0→r.L=[]∧r.nx=0∧r.bs=[]
theorem SesPost.v {w w':World} {r:SRes} {e:Ending} (h:SesPost w r e w') (hr:SBad r) :∃v,e=.returned v∧SesV w' w.heap.size r v∧Below w.heap.size w w':=by
 unfold SesPost at h
 by_cases h0:r.code=0
 ·rw [if_pos h0] at h
  obtain ⟨vS,vb,he,h1,h2,hb⟩:=h
  exact ⟨_,he,⟨vS,vb,by rw [h0],h1,h2⟩,hb⟩
 ·rw [if_neg h0] at h
  obtain ⟨he,hb⟩:=h
  obtain ⟨h1,h2,h3⟩:=hr h0
  exact ⟨_,he,⟨_,_,by rw [h2]; rfl,by rw [h1]; exact World.ownsRow_nil _ _ _ _,by rw [h3]; exact World.ownsRow_nil _ _ _ _⟩,hb⟩
def RcvV (w:World) (base:Nat) (r:RRes) (v:Value):Prop :=∃vS x2 x3 x4,v=.tuple #[.agg #[vS,.int .u32 (r.nx:Int)],x2,x3,x4,.int .i64 r.e]∧w.ownsRow base 50 26 vS r.L.length (flatS r.L)
theorem RcvRPost.v {w w':World} {r:RRes} {e:Ending} (h:RcvRPost w r e w') (hr:r.e≠0→r.L=[]∧r.nx=0) :∃v,e=.returned v∧RcvV w' w.heap.size r v∧Below w.heap.size w w':=by
 unfold RcvRPost at h
 by_cases h0:r.e=0
 ·rw [if_pos h0] at h
  obtain ⟨vS,A,m,c,he,h1,_,_,_,hb⟩:=h
  exact ⟨_,he,⟨vS,_,_,_,by rw [h0],h1⟩,hb⟩
 ·rw [if_neg h0] at h
  obtain ⟨he,hb⟩:=h
  obtain ⟨h1,h2⟩:=hr h0
  exact ⟨_,he,⟨_,_,_,_,by rw [h2]; rfl,by rw [h1]; exact World.ownsRow_nil _ _ _ _⟩,hb⟩
def TakV (r:TRes) (v:Value):Prop :=∃x2 x3,v=.tuple #[.agg r.c.cs.toArray,x2,x3,.int .i64 r.e]
theorem TakPost.v {w w':World} {r:TRes} {e:Ending} (h:TakPost w r e w') (hr:r.e≠0→r.c=zCli) :∃v,e=.returned v∧TakV r v∧Below w.heap.size w w':=by
 unfold TakPost at h
 by_cases h0:r.e=0
 ·rw [if_pos h0] at h
  obtain ⟨A,m,c,he,_,_,_,hb⟩:=h
  exact ⟨_,he,⟨_,_,by rw [h0]⟩,hb⟩
 ·rw [if_neg h0] at h
  obtain ⟨he,hb⟩:=h
  exact ⟨_,he,⟨_,_,by rw [hr h0]⟩,hb⟩
theorem hello_bad (L:List Sess) (nx:Nat) (U:List Usr) (C:List Chn) (ch:Int) (b:List UInt8) (nonce:Nat) (now:Int):SBad (helloS L nx U C ch b nonce now):=by
 intro h
 unfold helloS at h ⊢
 repeat' split
 all_goals first | exact ⟨rfl,rfl,rfl⟩ | skip
 all_goals simp_all
 all_goals (rw [if_neg (by omega)] at h; exact h rfl)
theorem proof_bad (L:List Sess) (nx:Nat) (b:List UInt8) (now:Int):SBad (proofS L nx b now):=by
 intro h
 unfold proofS at h ⊢
 repeat' split
 all_goals first | exact ⟨rfl,rfl,rfl⟩ | skip
 all_goals simp_all
theorem send_bad (L:List Sess) (nx id:Nat) (kb:UInt8) (data:List UInt8):SBad (sendS L nx id kb data):=by
 intro h
 unfold sendS at h ⊢
 repeat' split
 all_goals first | exact ⟨rfl,rfl,rfl⟩ | skip
 all_goals simp_all
theorem recv_bad (L:List Sess) (nx:Nat) (b:List UInt8) (now:Int):(recvS L nx b now).e≠0→(recvS L nx b now).L=[]∧(recvS L nx b now).nx=0:=by
 intro h
 unfold recvS at h ⊢
 repeat' split
 all_goals first | exact ⟨rfl,rfl⟩ | skip
 all_goals simp_all
theorem take_bad (c:Cli) (b:List UInt8):(takeC c b).e≠0→(takeC c b).c=zCli:=by
 intro h
 unfold takeC at h ⊢
 repeat' split
 all_goals first | rfl | skip
 all_goals simp_all
theorem beg_bad (u ks:List UInt8) (l:Int) (n:Nat):CBad (begC u ks l n):=by
 intro h
 unfold begC at h ⊢
 repeat' split
 all_goals first | exact ⟨rfl,rfl⟩ | skip
 all_goals simp_all
theorem answ_bad (c:Cli) (b:List UInt8):CBad (answC c b):=by
 intro h
 unfold answC at h ⊢
 repeat' split
 all_goals first | exact ⟨rfl,rfl⟩ | skip
 all_goals simp_all
theorem post_bad (c:Cli) (kb:UInt8) (data:List UInt8):CBad (postC c kb data):=by
 intro h
 unfold postC at h ⊢
 repeat' split
 all_goals first | exact ⟨rfl,rfl⟩ | skip
 all_goals simp_all
theorem beg_fine {u ks:List UInt8} {l:Int} {n:Nat} (hu:u.length≤17) (hk:ks.length=16) (hn:n < 18446744073709551616) (h0:(begC u ks l n).code=0) :
  (begC u ks l n).c.Ok∧(begC u ks l n).c.user.length≤17∧0 < (begC u ks l n).b.length∧(begC u ks l n).b.length≤300∧(begC u ks l n).c.opn=false∧cliF (begC u ks l n).c=true:=by
 unfold begC at h0 ⊢
 by_cases h1:nameF u=false
 · rw [if_pos h1] at h0; exact absurd h0 (by decide)
 rw [if_neg h1] at h0 ⊢
 by_cases h2:decide (1≤l∧l≤3)=false
 · rw [if_pos h2] at h0; exact absurd h0 (by decide)
 rw [if_neg h2]
 have hl:(helloF u (levB l) n).length=10+u.length:=by simp [helloF,joinF,leB_len]; omega
 refine ⟨newCli_ok (by unfold maxLen; omega) hk hn,hu,by rw [hl]; omega,by rw [hl]; omega,rfl,?_⟩
 show (nameF u && decide (1≤l∧l≤3))=true
 simp only [Bool.not_eq_false] at h1 h2
 rw [h1,h2]
 rfl
theorem answ_fine {c:Cli} (hok:c.Ok) (hcf:cliF c=true) (hop:c.opn=false) {b:List UInt8} {nx nonce:Nat} (hb:b=chalF nx nonce) :
  (answC c b).code=0∧(answC c b).c.Ok∧(answC c b).c.user=c.user∧(answC c b).b.length=13:=by
 have hl:b.length=13:=by rw [hb]; exact chalF_len nx nonce
 have h2:b[0]?=some 2:=by rw [hb]; rfl
 unfold answC
 rw [if_neg (by rw [hcf]; simp),if_neg (by rw [hop]; simp),if_neg (fun h=>h ⟨hl,h2⟩)]
 exact ⟨rfl,ansC_ok hok hl,rfl,provF_len _ _ _ _ _ _⟩
theorem acpt_fine {c:Cli} (hok:c.Ok) {b:List UInt8} (h0:(acptC c b).1=0):(acptC c b).2.Ok∧(acptC c b).2.user=c.user:=by
 unfold acptC at h0 ⊢
 by_cases h1:cliF c=false
 · rw [if_pos h1] at h0; exact absurd h0 (by decide)
 rw [if_neg h1] at h0 ⊢
 by_cases h2:c.opn=true∨c.id=0
 · rw [if_pos h2] at h0; exact absurd h0 (by decide)
 rw [if_neg h2] at h0 ⊢
 by_cases h3:¬ (b.length=13∧b[0]?=some 4∧leW ((b.drop 1).take 4)=c.id)
 · rw [if_pos h3] at h0; exact absurd h0 (by decide)
 rw [if_neg h3] at h0 ⊢
 by_cases h4:decide (b=provF 4 c.key c.id c.nonce c.server (levB c.level))=false
 · rw [if_pos h4] at h0; exact absurd h0 (by decide)
 rw [if_neg h4]
 exact ⟨⟨hok.user,hok.key,hok.sess,hok.nonce,hok.server,hok.id,hok.hi,hok.se,hok.out⟩,rfl⟩
theorem post_fine {c:Cli} (hok:c.Ok) {kb:UInt8} {data:List UInt8} (h0:(postC c kb data).code=0):(postC c kb data).c.Ok∧(postC c kb data).c.user=c.user∧(postC c kb data).b.length=18+data.length:=by
 unfold postC at h0 ⊢
 by_cases h1:cliF c=false
 · rw [if_pos h1] at h0; exact absurd h0 (by decide)
 rw [if_neg h1] at h0 ⊢
 by_cases h2:c.opn=false
 · rw [if_pos h2] at h0; exact absurd h0 (by decide)
 rw [if_neg h2] at h0 ⊢
 by_cases h3:kindB kb=false
 · rw [if_pos h3] at h0; exact absurd h0 (by decide)
 rw [if_neg h3] at h0 ⊢
 by_cases h4:256 < data.length∨c.out=4294967295
 · rw [if_pos h4] at h0; exact absurd h0 (by decide)
 rw [if_neg h4]
 have:=hok.out
 exact ⟨⟨hok.user,hok.key,hok.sess,hok.nonce,hok.server,hok.id,hok.hi,hok.se,by show c.out+1 < 4294967296; omega⟩,rfl,pack_len _ _ _ _ _ _⟩
theorem take_fine {c:Cli} (hok:c.Ok) {b:List UInt8} (h0:(takeC c b).e=0):(takeC c b).c.Ok∧(takeC c b).c.user=c.user:=by
 obtain ⟨s1,s2⟩:=shiftF_lt _ _ (partsF b).n hok.hi hok.se (leW4 b 5)
 unfold takeC at h0 ⊢
 by_cases h1:cliF c=false
 · rw [if_pos h1] at h0; exact absurd h0 (by decide)
 rw [if_neg h1] at h0 ⊢
 by_cases h2:c.opn=false
 · rw [if_pos h2] at h0; exact absurd h0 (by decide)
 rw [if_neg h2] at h0 ⊢
 by_cases h3:(formB 6 b && kindB (partsF b).kb)=false
 · rw [if_pos h3] at h0; exact absurd h0 (by decide)
 rw [if_neg h3] at h0 ⊢
 by_cases h4:(partsF b).id≠c.id
 · rw [if_pos h4] at h0; exact absurd h0 (by decide)
 rw [if_neg h4] at h0 ⊢
 by_cases h5:genF c.sess b=false
 · rw [if_pos h5] at h0; exact absurd h0 (by decide)
 rw [if_neg h5] at h0 ⊢
 by_cases h6:(shiftF c.hi c.se (partsF b).n).2.2≠0
 · rw [if_pos h6] at h0; exact absurd h0 h6
 rw [if_neg h6]
 exact ⟨⟨hok.user,hok.key,hok.sess,hok.nonce,hok.server,hok.id,s1,s2,hok.out⟩,rfl⟩
theorem step_alloc_to {P:Program} {l:List Oper} {o:Oper} {a:Act} {w:World} {K:Act→World→Prop} {Q:Exit→Act→World→Prop} {E:Prop} (hw:Region.wanted o (yielded l.toArray a.tmps)=true) (t:TypeId) (ho:o.op=.alloc t) (cells:Array Value)
  (hr:(Instr.alloc t true (.tuple #[])).run P w=.ok (.pointer (some ⟨w.heap.size,0,none⟩)) (w.alloc (.cells cells t))) (h:K (a.put o.dst (.pointer (some ⟨w.heap.size,0,none⟩))) (w.alloc (.cells cells t))) :
  if Region.wanted o (yielded l.toArray a.tmps)=true then Oper.wp P o a w K Q else E:=by
 rw [if_pos hw]
 unfold Oper.wp execOp
 simp only [ho,Sem.run_bind]
 rw [hr]
 exact h
theorem usr_isRow :∃d,Tryz.prog.underlying 52=some d∧d.isRow=true:=⟨_,Tryz.underlying52,rfl⟩
theorem cli_isRow :∃d,Tryz.prog.underlying 65=some d∧d.isRow=true:=⟨_,Tryz.underlying65,rfl⟩
theorem cli_infoL {c:Cli} (h:c.Ok):(Tryz.prog.info? 65).map (·.size)=some c.cs.length:=by
 have:=cli_info h
 rwa [List.size_toArray] at this
theorem blk_range {w:World} {q:Nat} {t:TypeId} {cs:List Value} (h:Blk w q t cs.toArray):w.rangeAt q 0 cs:=fun j v hv=>by rw [Nat.zero_add,h.cell]; simpa using hv
set_option maxRecDepth 100000 in
theorem info_c:(Tryz.prog.info? 65).map (fun i=>(i.zero,i.size,i.bytes))=some (some (.agg zCli.cs.toArray),41,96):=by kernel_rfl
theorem zc_size:(Value.agg zCli.cs.toArray).cells.size=41:=Cli.size zCli_ok
theorem run_slice_c (w:World) (x:Cli) (hx:x.Ok):(Instr.buildSlice 34 1 #[(0,.agg x.cs.toArray)]).run Tryz.prog w=.ok (.slice (some ⟨w.heap.size,0,none⟩) 1 1) (w.alloc (.cells x.cs.toArray 65)):=by
 obtain ⟨a0,a1,a2,a3,a4,a5,a6,a7,a8,a9,a10,a11,a12,a13,a14,a15,b0,b1,b2,b3,b4,b5,b6,b7,b8,b9,b10,b11,b12,b13,b14,b15,e1,e2⟩:=x.open_ hx
 obtain ⟨user,key,level,nonce,server,id,sess,opn,hi,se,out⟩:=x
 dsimp only at e1 e2
 subst e1 e2
 kernel_rfl
theorem CliV.more {w:World} {base base':Nat} {r:CRes} {v:Value} (h:CliV w base r v) (hb:base'≤base):CliV w base' r v:=by
 obtain ⟨vb,h1,h2⟩:=h
 exact ⟨vb,h1,own_more h2 hb⟩
theorem own_ct {w w':World} {base g n size:Nat} {e:TypeId} {v:Value} {xs:List Value} (h:w.ownsRow base e size v n xs) (hb:CT g w w') (hg:g < base):w'.ownsRow base e size v n xs:=own_cj h hb (fun e=>by have:=own_ge h g e; omega)
theorem CliV.ct {w w':World} {base g:Nat} {r:CRes} {v:Value} (h:CliV w base r v) (hb:CT g w w') (hg:g < base):CliV w' base r v:=by
 obtain ⟨vb,h1,h2⟩:=h
 exact ⟨vb,h1,own_ct h2 hb hg⟩
theorem SesV.more {w:World} {base base':Nat} {r:SRes} {v:Value} (h:SesV w base r v) (hb:base'≤base):SesV w base' r v:=by
 obtain ⟨vS,vb,h1,h2,h3⟩:=h
 exact ⟨vS,vb,h1,own_more h2 hb,own_more h3 hb⟩
theorem SesV.ct {w w':World} {base g:Nat} {r:SRes} {v:Value} (h:SesV w base r v) (hb:CT g w w') (hg:g < base):SesV w' base r v:=by
 obtain ⟨vS,vb,h1,h2,h3⟩:=h
 exact ⟨vS,vb,h1,own_ct h2 hb hg,own_ct h3 hb hg⟩
def CFine (r:CRes):Prop:=CBad r∧(r.code=0→r.c.Ok∧r.c.user.length≤17∧0 < r.b.length∧r.b.length≤300∧r.c.opn=false∧cliF r.c=true)
theorem CFine.ok {r:CRes} (h:CFine r):r.c.Ok:=by
 by_cases h0:r.code=0
 · exact (h.2 h0).1
 · rw [(h.1 h0).1]; exact zCli_ok
theorem SI.newX {w wi wj wk:World} {base B g gw:Nat} {d:Wd} {vs vu vc vx vp vx':Value} {V:List Value} {X':List Cli} (h:SI w wi base B g gw d vs vu vc vx vp V) (hgb:g < base) (hgw:g < gw) (hg:wi.grownBy wj vx.ownBlock) (hx:wj.ownsRow base 65 41 vx' X'.length (X'.flatMap Cli.cs))
  (hb:Blk wk gw 37 (WdCells { d with X:=X' } vs vu vc vx' vp)) (hg2:wj.grownBy wk (some gw)):SI w wk base B g gw { d with X:=X' } vs vu vc vx' vp V:=by
 obtain ⟨h1,h2,h3,h4,h5⟩:=h.rowX hgb hg hx
 exact ⟨⟨hb,h2.stored h1 hg2 (by decide)⟩,h3.grown_ hg2 (fun j hj=>by injection hj with hj; omega),h4.grown hg2 (by have:=h3.lt; omega) (fun j hj=>by injection hj with hj; omega),fun j t cs hj e1 e2 e3 e4=>(h5 j t cs hj e1 e2 e3 e4).grown hg2 (fun e=>e2 (by injection e))⟩
theorem SI.setX {w wi wj:World} {base B g gw:Nat} {d:Wd} {vs vu vc vx vp vx':Value} {V:List Value} {X':List Cli} (h:SI w wi base B g gw d vs vu vc vx vp V) (hgb:g < base) (hg:wi.grownBy wj vx.ownBlock) (hx:wj.ownsRow base 65 41 vx' X'.length (X'.flatMap Cli.cs)) (he:vx'=vx):SI w wj base B g gw { d with X:=X' } vs vu vc vx vp V:=by
 subst he
 obtain ⟨h1,h2,h3,h4,h5⟩:=h.rowX hgb hg hx
 exact ⟨⟨h1,h2⟩,h3,h4,h5⟩
section
variable {α : Type} {cs:α→List Value} {m:Nat} {w:World} {base n:Nat} {e:TypeId} {v:Value} {L:List α}
theorem own_rec {k:Nat} {x:α} (h:w.ownsRow base e m v n (L.flatMap cs)) (hm:0 < m) (hl:∀ x∈L,(cs x).length=m) (hk:L[k]?=some x) :∃g c cur,v=.slice (some ⟨g,0,none⟩) n c∧base≤g∧Blk w g e cur∧cur.size=c*m∧n≤c∧c≤maxLen∧L.length=n∧cur.toList.take (n*m)=L.flatMap cs∧(k*m+m≤cur.size)∧∀ (j:Nat) (u:Value),(cs x)[j]?=some u→cur[k*m+j]?=some u:=by
 have hkl:=(List.getElem?_eq_some_iff.1 hk).1
 have h1:=h.1
 rw [flatR_len cs m hl] at h1
 have hn:L.length=n:=Nat.eq_of_mul_eq_mul_right hm h1
 rcases h.2 with ⟨_,h0⟩ | ⟨g,cap,cur,hv,hb,hh,hc,hmx,hs,hx⟩
 · omega
 ·refine ⟨g,cap,cur,hv,hb,hh,hs,hc,hmx,hn,hx,?_,fun j u hu=>?_⟩
  ·rw [hs]
   calc k*m+m=(k+1)*m:=by rw [Nat.add_mul,Nat.one_mul]
    _≤cap*m:=Nat.mul_le_mul_right _ (by omega)
  ·have hg:=flatR_get cs m hl k x hk j u hu
   rw [← hx,List.getElem?_take] at hg
   split at hg
   · simpa using hg
   · cases hg
theorem own_recs (h:w.ownsRow base e m v n (L.flatMap cs)) (hm:0 < m) (hl:∀ x∈L,(cs x).length=m) (hn:0 < L.length) :∃g c cur,v=.slice (some ⟨g,0,none⟩) n c∧base≤g∧Blk w g e cur∧cur.size=c*m∧n≤c∧c≤maxLen∧L.length=n∧cur.toList.take (n*m)=L.flatMap cs∧∀ (k:Nat) (x:α),L[k]?=some x→(k*m+m≤cur.size)∧∀ (j:Nat) (u:Value),(cs x)[j]?=some u→cur[k*m+j]?=some u:=by
 obtain ⟨g,c,cur,h1,h2,h3,h4,h5,h6,h7,h8,_,_⟩:=own_rec h hm hl (List.getElem?_eq_getElem hn)
 refine ⟨g,c,cur,h1,h2,h3,h4,h5,h6,h7,h8,fun k x hk=>?_⟩
 obtain ⟨g',c',cur',h1',_,h3',_,_,_,_,_,h9,h10⟩:=own_rec h hm hl hk
 rw [h1] at h1'
 injection h1' with e1 _ e2
 injection e1 with e1
 injection e1 with e1 _ _
 subst e1
 have:cur=cur':=by
  have:=h3.symm.trans h3'
  simpa using this
 subst this
 exact ⟨h9,h10⟩
theorem rec_set_list (hl:∀ x∈L,(cs x).length=m) {k:Nat} {x y:α} (hk:L[k]?=some x) (hy:(cs y).length=m) {cur:List Value} (hx:cur.take (L.length*m)=L.flatMap cs) :
  (cur.take (k*m)++cs y++cur.drop (k*m+(cs y).length)).take (L.length*m)=(L.set k y).flatMap cs:=by
 have hkl:=(List.getElem?_eq_some_iff.1 hk).1
 have he:=(List.getElem?_eq_some_iff.1 hk).2
 have hle:k*m+m≤L.length*m:=by
  calc k*m+m=(k+1)*m:=by rw [Nat.add_mul,Nat.one_mul]
   _≤L.length*m:=Nat.mul_le_mul_right _ (by omega)
 have hsplit:L=L.take k++x::L.drop (k+1):=by
  have h1:=List.drop_eq_getElem_cons hkl
  rw [he] at h1
  rw [← h1,List.take_append_drop]
 have hset:L.set k y=L.take k++y::L.drop (k+1):=by rw [List.set_eq_take_append_cons_drop,if_pos hkl]
 have lA:((L.take k).flatMap cs).length=k*m:=by
  rw [flatR_len cs m (fun z hz=>hl z (List.mem_of_mem_take hz)),List.length_take,Nat.min_eq_left (by omega)]
 have hxl:(cs x).length=m:=hl x (List.mem_of_getElem? hk)
 have hfl:L.flatMap cs=(L.take k).flatMap cs++(cs x++(L.drop (k+1)).flatMap cs):=by
  conv=>lhs; rw [hsplit]
  rw [List.flatMap_append,List.flatMap_cons]
 have hA:cur.take (k*m)=(L.take k).flatMap cs:=by
  have:=congrArg (List.take (k*m)) hx
  rw [List.take_take,Nat.min_eq_left (by omega),hfl,List.take_left' lA] at this
  exact this
 have hB:(cur.drop (k*m+m)).take (L.length*m - (k*m+m))=(L.drop (k+1)).flatMap cs:=by
  have:=congrArg (List.drop (k*m+m)) hx
  rw [List.drop_take,hfl,← List.append_assoc,List.drop_left' (by rw [List.length_append,lA,hxl])] at this
  exact this
 rw [hset,List.flatMap_append,List.flatMap_cons,hy,List.take_append,List.take_of_length_le (by rw [List.length_append,List.length_take,hy]; omega),hA,List.length_append,lA,hy,hB,List.append_assoc]
theorem own_rec_set {g c k:Nat} {x y:α} {cur:Array Value} {w':World} (hm:0 < m) (hl:∀ x∈L,(cs x).length=m) (hk:L[k]?=some x) (hy:(cs y).length=m) (hbase:base≤g) (hs:cur.size=c*m) (hc:n≤c) (hmx:c≤maxLen) (hn:L.length=n) (hx:cur.toList.take (n*m)=L.flatMap cs)
  (hb:Blk w' g e (cur.toList.take (k*m)++cs y++cur.toList.drop (k*m+(cs y).length)).toArray):w'.ownsRow base e m (.slice (some ⟨g,0,none⟩) n c) n ((L.set k y).flatMap cs):=by
 have hkl:=(List.getElem?_eq_some_iff.1 hk).1
 subst hn
 have hle:k*m+m≤L.length*m:=by
  calc k*m+m=(k+1)*m:=by rw [Nat.add_mul,Nat.one_mul]
   _≤L.length*m:=Nat.mul_le_mul_right _ (by omega)
 have hle2:L.length*m≤c*m:=Nat.mul_le_mul_right _ hc
 refine ⟨?_,.inr ⟨g,c,_,rfl,hbase,hb,hc,hmx,?_,?_⟩⟩
 · rw [flatR_len cs m (fun z hz=>by
   rcases List.mem_or_eq_of_mem_set hz with hz | rfl
   · exact hl z hz
   · exact hy),List.length_set]
 ·rw [List.size_toArray,List.length_append,List.length_append,List.length_take,List.length_drop,hy,Array.length_toList,hs]
  omega
 ·rw [List.toList_toArray]
  exact rec_set_list hl hk hy hx
end
end Go.Proofs.YtfbkkmnkpjgciaaGreat
