/- Joined of TStep. No condition. -/
import Derived.Test.YtfbkkmnkpjgciaaGreatPG33
import Derived.Deep.CutBlock
namespace Go.Proofs.YtfbkkmnkpjgciaaGreat
open Go.RowKit
set_option maxRecDepth 100000 in
set_option maxHeartbeats 64000000 in
theorem step_cx (w:World) (base B g gw:Nat) (d:Wd) (vs vu vc vx vp:Value) (V:List Value) (kx kp kn:Nat) (hc:Zaq w B g) (h:WdAt w base gw d vs vu vc vx vp V) (hok:WdOk d kx kp kn) (hgb:g < base) (hbw:base≤gw) (hkx:kx≤100) (hkp:kp≤300) (hkn:kn≤100) :
  Calls Tryz.prog 42 #[.pointer (some ⟨gw,0,none⟩),.pointer (some ⟨g,0,none⟩)] w (StepP w base B g gw d.U d.C kx kp kn):=by
 have hgl:=hc.lt
 have hgw:=h.gt
 have ST0:=jd (show ST w w base B g gw d.U d.C kx kp kn d from ⟨vs,vu,vc,vx,vp,V,SI.start hc h,hok,rfl,rfl⟩)
 have EGN:=jd (ZaO Tryz.func18 (by kernel_rfl) rfl)
 have EGB:=jd (ZaO Tryz.func21 (by kernel_rfl) rfl)
 have EGH:=jd (ZaO Tryz.func29 (by kernel_rfl) rfl)
 have EGA:=jd (ZaO Tryz.func66 (by kernel_rfl) rfl)
 have EGP:=jd (ZaO Tryz.func30 (by kernel_rfl) rfl)
 have EGC:=jd (ZaO Tryz.func67 (by kernel_rfl) rfl)
 have EGO:=jd (ZaO Tryz.func68 (by kernel_rfl) rfl)
 have EGR:=jd (ZaO Tryz.func32 (by kernel_rfl) rfl)
 have EGS:=jd (ZaO Tryz.func34 (by kernel_rfl) rfl)
 have EGT:=jd (ZaO Tryz.func70 (by kernel_rfl) rfl)
 have EGY:=jd (ZaO Tryz.func22 (by kernel_rfl) rfl)
 have EGZ:=jd (ZaO Tryz.func65 (by kernel_rfl) rfl)
 obtain ⟨U0,hU0⟩ :∃U0,U0=d.U:=⟨_,rfl⟩
 obtain ⟨C0,hC0⟩ :∃C0,C0=d.C:=⟨_,rfl⟩
 rw [← hU0,← hC0] at ST0 ⊢
 clear h hok hc hU0 hC0
 go_enter Tryz.func42,Tryz.ntmps42
 go_upto_region 0 with fail
 go_cut [] from 33 to 44 (fun W1=>∃ d1,ST w W1 base B g gw U0 C0 kx kp (kn+1) d1)
 case first =>
  as_aux_lemma =>
  obtain ⟨As,cs,Au,cu,Ac,cc,Ax,cx,Ap,cp,V,si,ok,hU,hC⟩:=(uh ST0).open_
  have SIn:=jd si
  have OKn:=jd ok
  have HU:=jd hU
  have HC:=jd hC
  have hszW:=si.size
  have hgW:=si.gsz
  have hWN:=SI.bw si
  have HW:=jd hWN
  have HJ0:=jd ((CJ.start si.c:CJ w B g w).drew)
  clear si ok hU hC hWN
  refine wp_region_noPanic (wp_region_held_drew (S:=fun _=>True) (by kernel_rfl) trivial (fun _=>?_))
  refine tq 0 rfl trivial ?_
  refine tq 1 rfl trivial ?_
  refine tq 2 rfl trivial ?_
  refine tq 4 rfl trivial ?_
  refine tq 6 rfl trivial ?_
  refine any_vals (CJ w B g) (CT g) (StaR d.now) StaR.D [3,5,7,8,9] #[true,true,true,true,true,true,true,true,true,true,false,false,false] [(3,some 36),(5,some 38),(7,some 40),(8,some 41),(9,some 42)] 329 3 (by kernel_rfl) rfl (by kernel_rfl) (StaR.keep) StaR.loc (fun _ _=>trivial) (uh HJ0) ⟨?_,?_,?_,?_,?_,trivial⟩ ?_ rfl
  ·intro a vals wa hJ hout hin
   have e35:a.eval (.tmp 35)=.pointer (some ⟨gw,6,none⟩):=hout 35 (by kernel_rfl)
   refine ZaF rfl rfl (v:=.int .i64 d.now) (w':=wa) ?_ (hJ.same (by show upd vals _ _ _=_; rw [ZaU]))
   have hq:wa.cell? ⟨gw,6,none⟩=some (.int .i64 d.now):=(uh HW wa hJ).cell 6
   unfold execOp
   simp only [e35]
   go_simp
  ·intro a vals wa hJ hout hin
   have e37:a.eval (.tmp 37)=.pointer (some ⟨g,0,none⟩):=hout 37 (by kernel_rfl)
   refine ZaI [.pointer (some ⟨g,0,none⟩),.int .i64 5] rfl rfl rfl rfl (uh EGN) ?_ ?_
   ·show [a.eval (.tmp 37),_]=_
    rw [e37]
    rfl
   · exact Zbn hJ 5 (by decide) (by decide) (fun v h=>by show ZbO 5 (upd vals _ v _); rw [ZaU]; exact h)
  ·intro a vals wa hJ hout hin
   have e39:a.eval (.tmp 39)=.pointer (some ⟨g,0,none⟩):=hout 39 (by kernel_rfl)
   refine ZaI [.pointer (some ⟨g,0,none⟩),.int .i64 40] rfl rfl rfl rfl (uh EGN) ?_ ?_
   ·show [a.eval (.tmp 39),_]=_
    rw [e39]
    rfl
   · exact Zbn hJ 40 (by decide) (by decide) (fun v h=>by show ZbO 40 (upd vals _ v _); rw [ZaU]; exact h)
  ·intro a vals wa hJ hout hin
   obtain ⟨x,ex,x0,x1⟩:ZbO 5 (vals 5):=(hin 5 38 (by kernel_rfl)).2
   obtain ⟨y,ey,y0,y1⟩:ZbO 40 (vals 7):=(hin 7 40 (by kernel_rfl)).2
   have e38:a.eval (.tmp 38)=.int .i64 x:=by rw [← ex]; exact (hin 5 38 (by kernel_rfl)).1
   have e40:a.eval (.tmp 40)=.int .i64 y:=by rw [← ey]; exact (hin 7 40 (by kernel_rfl)).1
   have p0:0≤x*y:=Int.mul_nonneg x0 y0
   have p1:x*y≤4*39:=Int.mul_le_mul (by omega) (by omega) y0 (by omega)
   have hw:IntKind.i64.wrap (x*y)=x*y:=IntWalk.i64_in _ (by omega)
   refine ZaF rfl rfl (v:=.int .i64 (x*y)) (w':=wa) ?_ (hJ.same (by show∃r:Int,upd vals _ _ _=_∧_; rw [ZaU]; exact ⟨_,rfl,p0,p1⟩))
   clear x1 y1
   unfold execOp
   simp only [e38,e40]
   go_simp
  ·intro a vals wa hJ hout hin
   obtain ⟨x,ex,x0,x1⟩ :∃r:Int,vals 8=.int .i64 r∧0≤r∧r≤156:=(hin 8 41 (by kernel_rfl)).2
   have ey:vals 3=.int .i64 d.now:=(hin 3 36 (by kernel_rfl)).2
   have e41:a.eval (.tmp 41)=.int .i64 x:=by rw [← ex]; exact (hin 8 41 (by kernel_rfl)).1
   have e36:a.eval (.tmp 36)=.int .i64 d.now:=by rw [← ey]; exact (hin 3 36 (by kernel_rfl)).1
   have n0:=(uh OKn).now0
   have n1:=(uh OKn).now1
   have hw:IntKind.i64.wrap (d.now+x)=d.now+x:=IntWalk.i64_in _ (by omega)
   refine ZaF rfl rfl (v:=.int .i64 (d.now+x)) (w':=wa) ?_ (hJ.same (by show∃r:Int,upd vals _ _ _=_∧_; rw [ZaU]; exact ⟨_,rfl,x0,x1⟩))
   unfold execOp
   simp only [e36,e41]
   go_simp
  intro vals ww hJw hRw
  simp only [puts,Act.put,zA,zB,zC]
  obtain ⟨r,e9,r0,r1⟩ :∃r:Int,vals 9=.int .i64 (d.now+r)∧0≤r∧r≤156:=hRw 9 (by rfl)
  rw [e9]
  clear hRw e9
  refine tq 10 rfl trivial ?_
  refine tq 11 rfl trivial ?_
  refine tOz 12 rfl fun K hK=>?_
  refine Zao (by rfl) 2 (.tmp 44) (.tmp 42) rfl gw 6 37 _ (.int .i64 (d.now+r)) [.int .i64 (d.now+r)] [.slice As d.L.length cs,.int .u32 (d.nx:Int),.slice Au d.U.length cu,.slice Ac d.C.length cc,.slice Ax d.X.length cx,.slice Ap d.P.length cp,.int .i64 (d.now+r)] rfl rfl (uh HW ww hJw) rfl (by simp [ZaQ]) (by kernel_rfl) (one1 rfl) rfl ?_
  intro w1 hb1 hg1
  have ST1:Hid (ST w w1 base B g gw U0 C0 kx kp (kn+1) { d with now:=d.now+r }):=jd ⟨_,_,_,_,_,_,((uh SIn).cj hJw).put (by omega) hb1 hg1 ((uh SIn).cj hJw).wd.m.setT,(uh OKn).time r0 (by omega),uh HU,uh HC⟩
  clear hb1 hg1
  refine hK.out _ _ trivial (fun _=>?_)
  clear hK K
  try simp only [Act.put]
  refine tDz ?_
  go_wp2_with fail
  go_meet
  exact ⟨_,uh ST1⟩
 case rest =>
  obtain ⟨w1,rfl⟩ :∃w1:World,w1=wc:=⟨_,rfl⟩
  obtain ⟨d1,h1⟩:=hcut
  have ST1:=jd h1
  clear h1 ST0
  go_upto_region 1 with fail
  go_cut [55] from 45 to 55 (fun b W2=>∃ bb:Bool,b=.bool bb∧ST w W2 base B g gw U0 C0 kx kp (kn+1) d1∧(bb=false→0 < d1.X.length))
  case first =>
   as_aux_lemma =>
   obtain ⟨As,cs,Au,cu,Ac,cc,Ax,cx,Ap,cp,V,si,ok,hU,hC⟩:=(uh ST1).open_
   have SIn:=jd si
   have OKn:=jd ok
   have HU:=jd hU
   have HC:=jd hC
   have hszW:=si.size
   have hgW:=si.gsz
   have hWN:=SI.bw si
   have HW:=jd hWN
   have HJ0:=jd ((CJ.start si.c:CJ w1 B g w1).drew)
   clear si ok hU hC hWN
   have c4:w1.cell? ⟨gw,4,none⟩=some (.slice Ax d1.X.length cx):=(uh HW w1 (CJ.start (uh SIn).c)).cell 4
   by_cases h0:d1.X.length=0
   ·have e0:((d1.X.length:Int)==0)=true:=by simp [h0]
    clear h0
    go_wp2_with fail
    go_meet
    exact ⟨true,rfl,uh ST1,fun h=>by cases h⟩
   ·have e0:((d1.X.length:Int)==0)=false:=by simp [h0]
    go_wp2_with fail
    refine (Zav w1 B g 4 (uh SIn).c (by decide) (by decide)).mono ?_
    rintro e w2 ⟨r,rfl,hr0,hr1,hc2,hg2⟩
    have ST2:Hid (ST w w2 base B g gw U0 C0 kx kp (kn+1) d1):=jd ⟨_,_,_,_,_,_,(uh SIn).cj ⟨hg2,hc2⟩,uh OKn,uh HU,uh HC⟩
    clear hc2 hg2 hr1
    go_wp2_with fail
    go_meet
    exact ⟨(r==0),rfl,uh ST2,fun _=>by omega⟩
  case rest =>
   obtain ⟨w2,rfl⟩ :∃w2:World,w2=wc:=⟨_,rfl⟩
   obtain ⟨bb,rfl,h2,hbb⟩:=hcut
   have ST2:=jd h2
   have HBB:=jd hbb
   clear h2 ST1 hbb
   cases bb
   case true =>
    as_aux_lemma =>
    go_upto_region 2 with fail
    go_cut [4] from 56 to 70 (fun p W3=>∃ (q:Nat) (u:Usr),p=.pointer (some ⟨q,0,none⟩)∧Blk W3 q 52 u.cs.toArray∧u.Ok∧u.name.length≤17∧ST w W3 base B g gw U0 C0 kx kp (kn+1) d1)
    case first =>
     as_aux_lemma =>
     obtain ⟨As,cs,Au,cu,Ac,cc,Ax,cx,Ap,cp,V,si,ok,hU,hC⟩:=(uh ST2).open_
     have SIn:=jd si
     have OKn:=jd ok
     have HU:=jd hU
     have HC:=jd hC
     have hszW:=si.size
     have hgW:=si.gsz
     have hWN:=SI.bw si
     have HW:=jd hWN
     have HJ0:=jd ((CJ.start si.c:CJ w2 B g w2).drew)
     clear si ok hU hC hWN
     have hul:=(uh OKn).ulen
     have hup:=(uh OKn).upos
     obtain ⟨gu,cu2,cur,hvu,hgu,hbu,_,_,_,_,_,hrec⟩:=own_recs (uh SIn).wd.m.u (by decide) (fun x hx=>Usr.len ((uh OKn).uok x hx).1) hup
     injection hvu with hA _ hcu
     subst hA hcu
     have HBU:=jd (fun wz (hz:CJ w2 B g wz)=>hz.blk hbu (ZbG (uh SIn).c hbu (by decide)))
     have HREC:=jd hrec
     obtain ⟨du,hdu,hdr⟩:=usr_isRow
     have HDU:=jd hdu
     have HDR:=jd hdr
     have hu1:(1:Int)≤(d1.U.length:Int):=by omega
     have hu2:(d1.U.length:Int)≤8:=by omega
     clear hbu hrec hdu hdr hgu
     have hS0:CJ w2 B g w2.drew:=uh HJ0
     refine wp_region_noPanic (wp_region_held_drew (S:=fun wz=>CJ w2 B g wz) (by kernel_rfl) hS0 (fun _=>?_))
     refine tq 0 rfl hS0 ?_
     refine tq 1 rfl hS0 ?_
     refine tq 2 rfl hS0 ?_
     refine tq 3 rfl hS0 ?_
     refine tJz (v:=.slice (some ⟨gu,0,none⟩) d1.U.length cu) 4 rfl (Or.inl ⟨by rfl,fun wz hSw=>?_⟩) hS0 ?_
     ·have hq:wz.cell? ⟨gw,2,none⟩=some (.slice (some ⟨gu,0,none⟩) d1.U.length cu):=(uh HW wz hSw).cell 2
      go_simp
     refine tq 5 rfl hS0 ?_
     refine tq 6 rfl hS0 ?_
     refine tq 7 rfl hS0 ?_
     refine tq 8 rfl hS0 ?_
     refine tq 9 rfl hS0 ?_
     refine tJz (v:=.slice (some ⟨gu,0,none⟩) d1.U.length cu) 10 rfl (Or.inl ⟨by rfl,fun wz hSw=>?_⟩) hS0 ?_
     ·have hq:wz.cell? ⟨gw,2,none⟩=some (.slice (some ⟨gu,0,none⟩) d1.U.length cu):=(uh HW wz hSw).cell 2
      go_simp
     refine tq 11 rfl hS0 ?_
     refine any_vals (CJ w2 B g) (CT g) (StbR w2.heap.size gu d1.U) StbR.D [12,13,14,15] #[true,true,true,true,true,true,true,true,true,true,true,true,true,true,true,true,false] [(12,some 68),(13,some 69),(14,some 70),(15,some 4)] 329 1 (by kernel_rfl) rfl (by kernel_rfl) (StbR.keep (by omega)) StbR.loc (fun _ h=>h) hS0 ⟨?_,?_,?_,?_,trivial⟩ ?_ rfl
     ·intro a vals wa hJ hout hin
      have e61:a.eval (.tmp 61)=.pointer (some ⟨g,0,none⟩):=hout 61 (by kernel_rfl)
      have e67:a.eval (.tmp 67)=.int .i64 (d1.U.length:Int):=hout 67 (by kernel_rfl)
      refine ZaI [.pointer (some ⟨g,0,none⟩),.int .i64 (d1.U.length:Int)] rfl rfl rfl rfl (uh EGN) ?_ ?_
      ·show [a.eval (.tmp 61),a.eval (.tmp 67)]=_
       rw [e61,e67]
      · exact Zbn hJ (d1.U.length:Int) (by omega) (by omega) (fun v h=>by obtain ⟨r,rfl,r0,r1⟩:=h; exact (by show∃k:Nat,(upd vals 12 _ 12)=.int .i64 (k:Int)∧k < d1.U.length; rw [ZaU]; exact ⟨r.toNat,by congr 1; omega,by omega⟩))
     ·intro a vals wa hJ hout hin
      obtain ⟨k,ek,hk⟩ :∃k:Nat,vals 12=.int .i64 (k:Int)∧k < d1.U.length:=(hin 12 68 (by kernel_rfl)).2
      have e68:a.eval (.tmp 68)=.int .i64 (k:Int):=by rw [← ek]; exact (hin 12 68 (by kernel_rfl)).1
      have e60:a.eval (.tmp 60)=.slice (some ⟨gu,0,none⟩) d1.U.length cu:=hout 60 (by kernel_rfl)
      have hk2:(k:Int) < (d1.U.length:Int):=by omega
      refine ZaF rfl rfl (v:=.pointer (some ⟨gu,k*19,none⟩)) (w':=wa) ?_ (hJ.same (by show∃k:Nat,(upd vals 13 _ 13)=.pointer (some ⟨gu,k*19,none⟩)∧k < d1.U.length; rw [ZaU]; exact ⟨k,rfl,hk⟩))
      unfold execOp
      simp only [e60,e68]
      go_simp
     ·intro a vals wa hJ hout hin
      obtain ⟨k,ek,hk⟩ :∃k:Nat,vals 13=.pointer (some ⟨gu,k*19,none⟩)∧k < d1.U.length:=(hin 13 69 (by kernel_rfl)).2
      have e69:a.eval (.tmp 69)=.pointer (some ⟨gu,k*19,none⟩):=by rw [← ek]; exact (hin 13 69 (by kernel_rfl)).1
      obtain ⟨u,hu⟩ :∃u,d1.U[k]?=some u:=⟨_,List.getElem?_eq_getElem hk⟩
      have hm:=List.mem_of_getElem? hu
      have huo:=((uh OKn).uok u hm).1
      have hrg:wa.rangeAt gu (k*19) u.cs:=fun j v hv=>by rw [(uh HBU wa hJ).cell]; exact (uh HREC k u hu).2 j v hv
      have hl:=run_loadAt_mid (P:=Tryz.prog) wa gu (k*19) 52 u.cs du hrg (uh HDU) (uh HDR) (usr_info huo)
      refine ZaF rfl rfl (v:=.agg u.cs.toArray) (w':=wa) ?_ (hJ.same (by show∃u:Usr,u∈d1.U∧(upd vals 14 _ 14)=.agg u.cs.toArray; rw [ZaU]; exact ⟨u,hm,rfl⟩))
      simp only [execOp,e69,hl,Sem.run_bind,Sem.run_pure,Result.andThen_ok]
     ·intro a vals wa hJ hout hin
      refine ZaF rfl rfl (v:=.pointer (some ⟨wa.heap.size,0,none⟩)) (w':=wa.alloc (.cells zUsr.cs.toArray 52)) ?_ (ZbE hJ _ (by show∃q:Nat,(upd vals 15 _ 15)=.pointer (some ⟨q,0,none⟩)∧Blk _ q 52 zUsr.cs.toArray∧w2.heap.size≤q; rw [ZaU]; exact ⟨_,rfl,Blk.new _ _ _,hJ.size⟩))
      simp [execOp,alloc_usr]
     intro vals ww hJw hRw
     simp only [puts,Act.put,zA,zB,zC]
     obtain ⟨u,hum,e14⟩ :∃u:Usr,u∈d1.U∧vals 14=.agg u.cs.toArray:=hRw 14 (by rfl)
     obtain ⟨q,e15,hbq,hq0⟩ :∃q:Nat,vals 15=.pointer (some ⟨q,0,none⟩)∧Blk ww q 52 zUsr.cs.toArray∧w2.heap.size≤q:=hRw 15 (by rfl)
     obtain ⟨huo,hun⟩:=(uh OKn).uok u hum
     rw [e14,e15]
     clear e14 e15 hRw
     refine tOz 16 rfl fun K hK=>?_
     refine Zaf (by rfl) 52 (.tmp 4) (.tmp 70) rfl q 52 _ u.cs.toArray rfl rfl hbq (Usr.size_eq huo) (usr_infoA huo) (fun v hv=>Usr.one v (by simpa using hv)) ?_
     intro w3 hb3 hg3
     have hS3:CJ w2 B g w3:=hJw.later (uh SIn).gsz ((Below.refl _ _).grown hg3 hJw.size (fun j hj=>by injection hj with hj; omega))
     have ST3:Hid (ST w w3 base B g gw U0 C0 kx kp (kn+1) d1):=jd ⟨_,_,_,_,_,_,(uh SIn).cj hS3,uh OKn,uh HU,uh HC⟩
     have HB3:=jd hb3
     have HUO:=jd (And.intro huo hun)
     clear hb3 hg3
     refine hK.out _ _ hS3 (fun _=>?_)
     clear hK K
     try simp only [Act.put]
     refine tDz ?_
     go_wp2_with fail
     go_meet
     exact ⟨q,u,rfl,uh HB3,(uh HUO).1,(uh HUO).2,uh ST3⟩
    case rest =>
     obtain ⟨w3,rfl⟩ :∃w3:World,w3=wc:=⟨_,rfl⟩
     obtain ⟨q4,u,rfl,hb4,huo,hun,h3⟩:=hcut
     have ST3:=jd h3
     have HB4:=jd hb4
     have HUO:=jd huo
     have HUN:=jd hun
     clear h3 ST2 hb4 huo hun HBB
     go_upto_region 3 with fail
     go_cut [5,6,7] from 71 to 85 (fun p b e W4=>∃ (q:Nat) (r:CRes),p=.pointer (some ⟨q,0,none⟩)∧Blk W4 q 65 r.c.cs.toArray∧CFine r∧e=.int .i64 r.code∧W4.ownsRow base 5 1 b r.b.length (bsV r.b)∧ST w W4 base B g gw U0 C0 kx kp (kn+1) d1)
     case first =>
      as_aux_lemma =>
      obtain ⟨As,cs,Au,cu,Ac,cc,Ax,cx,Ap,cp,V,si,ok,hU,hC⟩:=(uh ST3).open_
      have SIn:=jd si
      have OKn:=jd ok
      have HU:=jd hU
      have HC:=jd hC
      have hszW:=si.size
      have hgW:=si.gsz
      have hWN:=SI.bw si
      have HW:=jd hWN
      have HJ0:=jd ((CJ.start si.c:CJ w3 B g w3).drew)
      clear si ok hU hC hWN
      have hneq:q4≠g:=ZbG (uh SIn).c (uh HB4) (by decide)
      have HBQ:=jd (fun wz (hz:CJ w3 B g wz)=>hz.blk (uh HB4) hneq)
      have hub:base≤w3.heap.size:=by have:=(uh SIn).wd.gt; omega
      have hkl:=(uh HUO).key
      obtain ⟨dk,hdk,hdr⟩:=Za5
      have HDK:=jd hdk
      have HDR:=jd hdr
      have hS0:CJ w3 B g w3.drew:=uh HJ0
      clear hdk hdr hneq
      refine wp_region_noPanic (wp_region_held_drew (S:=fun wz=>CJ w3 B g wz) (by kernel_rfl) hS0 (fun _=>?_))
      refine tq 0 rfl hS0 ?_
      refine tJz (v:=.string ⟨u.name.toArray⟩) 1 rfl (Or.inl ⟨by rfl,fun wz hSw=>?_⟩) hS0 ?_
      ·have hq:wz.cell? ⟨q4,0,none⟩=some (.string ⟨u.name.toArray⟩):=(Usr.blk (uh HUO) (uh HBQ wz hSw)).name
       go_simp
      refine tq 2 rfl hS0 ?_
      refine tJz (v:=.agg (bsV u.key).toArray) 3 rfl (yieldsIf_load_mid (by rfl) 46 (.tmp 74) rfl q4 1 rfl (bsV u.key) dk (fun wz hSw j v hv=>(Usr.blk (uh HUO) (uh HBQ wz hSw)).key j v hv) (uh HDK) (uh HDR) (ZaV _ hkl)) hS0 ?_
      refine tq 4 rfl hS0 ?_
      refine tq 7 rfl hS0 ?_
      refine Zbk (i:=5) (j:=15) rfl rfl (by kernel_rfl) (fun K hK=>?_) (fun K hK=>?_)
      ·rw [if_pos (by rfl)]
       go_simp
       refine (Zav w3.drew B g 3 hS0.2 (by decide) (by decide)).mono ?_
       rintro e wa0 ⟨x77,rfl,x77a,x77b,hcN,hgN⟩
       have hS0_:CJ w3 B g wa0:=hS0.next hcN hgN
       have hw77:IntKind.i64.wrap (1+x77)=1+x77:=IntWalk.i64_in _ (by omega)
       clear hcN hgN x77b
       refine hK.out _ _ hS0_ (fun _=>?_)
       clear hK K
       try simp only [Act.put,zA,zB,zC]
       refine tq 6 rfl hS0_ ?_
       refine Zbk (i:=8) (j:=15) rfl rfl (by kernel_rfl) (fun K hK=>?_) (fun K hK=>?_)
       ·rw [if_pos (by rfl)]
        go_simp
        refine (Zav wa0 B g 4 hS0_.2 (by decide) (by decide)).mono ?_
        rintro e wa1 ⟨x80,rfl,x80a,x80b,hcN,hgN⟩
        have hS1_:CJ w3 B g wa1:=hS0_.next hcN hgN
        obtain ⟨n80,rfl⟩ :∃n:Nat,x80=(n:Int):=⟨x80.toNat,by omega⟩
        have hn80:n80 < 4:=by omega
        have hw80:IntKind.u64.wrap (n80:Int)=(n80:Int):=IntWalk.u64_in _ (by omega)
        clear hcN hgN x80b
        refine hK.out _ _ hS1_ (fun _=>?_)
        clear hK K
        try simp only [Act.put,zA,zB,zC]
        refine tq 9 rfl hS1_ ?_
        refine Zbk (i:=10) (j:=15) rfl rfl (by kernel_rfl) (fun K hK=>?_) (fun K hK=>?_)
        · rw [if_pos (by rfl)]
          go_simp
          refine (Zei wa1 u.name u.key (uh HUO).name (uh HUO).key (1+x77) n80 (by omega) _ rfl).mono ?_
          rintro e wa2 hpost
          obtain ⟨v,he,hv,hblN⟩:=hpost.v (Zdx _ _ _ _)
          obtain ⟨vb,hv1,hv2⟩:=hv
          subst hv1 he
          obtain ⟨r,hr⟩ :∃r,begC u.name u.key (1+x77) n80=r:=⟨_,rfl⟩
          have hcf:CFine r:=hr ▸ ⟨Zdx _ _ _ _,fun h0=>ZeW (uh HUN) (uh HUO).key (by omega) h0⟩
          rw [hr] at hv2 ⊢
          have HVB:=jd (Zak hv2 (Nat.le_trans hub hS1_.size))
          have HCF:=jd hcf
          have hgN_:(wa1).grownBy wa2 (some g):=Zah hblN _
          have hcN_:Zaq wa2 B g:=hS1_.2.below_ hblN
          have hgN:(wa1).grownBy wa2 (some g):=hgN_
          have hS2_:CJ w3 B g wa2:=hS1_.next hcN_ hgN
          clear hgN hgN_ hcN_ hv2 hblN hcf hpost hr
          refine hK.out _ _ hS2_ (fun _=>?_)
          clear hK K
          try simp only [Act.put,zA,zB,zC]
          refine tq 11 rfl hS2_ ?_
          refine tq 12 rfl hS2_ ?_
          refine tq 13 rfl hS2_ ?_
          refine tq 14 rfl hS2_ ?_
          refine tOz 15 rfl fun K hK=>?_
          refine Zas (by rfl) 65 rfl zCli.cs.toArray (Zaz _) ?_
          obtain ⟨wa3,hwn⟩ :∃wn,(wa2).alloc (.cells zCli.cs.toArray 65)=wn:=⟨_,rfl⟩
          have hblN:Below (wa2).heap.size (wa2) wa3:=hwn ▸ (Below.refl _ _).alloc (Nat.le_refl _) _
          have hgN:(wa2).grownBy wa3 (some g):=Zah hblN _
          have hS3_:CJ w3 B g wa3:=hS2_.next (hS2_.2.below_ hblN) hgN
          have HBV':Blk wa3 (wa2).heap.size 65 zCli.cs.toArray:=hwn ▸ Blk.new _ _ _
          have qz:w3.heap.size≤(wa2).heap.size:=hS2_.size
          obtain ⟨q,qe⟩ :∃q,(wa2).heap.size=q:=⟨_,rfl⟩
          rw [hwn,qe]
          rw [qe] at HBV' qz
          have HBV:=jd HBV'
          have qg:g < q:=by have:=(uh SIn).gsz; omega
          replace HVB:=jd (Zap (uh HVB) hgN (fun e=>by have:=Zaw (uh HVB) g e; omega))
          clear hwn hblN hgN HBV' qe
          refine hK.out _ _ hS3_ (fun _=>?_)
          clear hK K
          try simp only [Act.put,zA,zB,zC]
          refine tOz 16 rfl fun K hK=>?_
          refine Zaf (by rfl) 65 (.tmp 5) (.tmp 83) rfl q 65 _ r.c.cs.toArray rfl rfl (uh HBV) (Cli.size_eq (uh HCF).ok) (Zai (uh HCF).ok) (fun v hv=>Cli.one v (by simpa using hv)) ?_
          intro wa4 hb4 hg4
          have hS4_:CJ w3 B g wa4:=hS3_.later (uh SIn).gsz ((Below.refl _ _).grown hg4 hS3_.size (fun j hj=>by injection hj with hj; omega))
          have ST4:Hid (ST w wa4 base B g gw U0 C0 kx kp (kn+1) d1):=jd ⟨_,_,_,_,_,_,(uh SIn).cj hS4_,uh OKn,uh HU,uh HC⟩
          have HVB4:=jd (Zap (uh HVB) hg4 (Zad (uh HVB) (uh HBV) (by decide)))
          have HB5:=jd hb4
          clear hb4 hg4
          refine hK.out _ _ hS4_ (fun _=>?_)
          clear hK K
          try simp only [Act.put]
          refine tq 17 rfl hS4_ ?_
          refine tq 18 rfl hS4_ ?_
          refine tDz ?_
          go_wp2_with fail
          go_meet
          exact ⟨q,r,rfl,uh HB5,uh HCF,rfl,uh HVB4,uh ST4⟩
        · refine Zas (by rfl) 65 rfl zCli.cs.toArray (Zaz _) ?_
          obtain ⟨wa2,hwn⟩ :∃wn,(wa1).alloc (.cells zCli.cs.toArray 65)=wn:=⟨_,rfl⟩
          have hblN:Below (wa1).heap.size (wa1) wa2:=hwn ▸ (Below.refl _ _).alloc (Nat.le_refl _) _
          have hgN:(wa1).grownBy wa2 (some g):=Zah hblN _
          have hS2_:CJ w3 B g wa2:=hS1_.next (hS1_.2.below_ hblN) hgN
          have HBV':Blk wa2 (wa1).heap.size 65 zCli.cs.toArray:=hwn ▸ Blk.new _ _ _
          have qz:w3.heap.size≤(wa1).heap.size:=hS1_.size
          obtain ⟨q,qe⟩ :∃q,(wa1).heap.size=q:=⟨_,rfl⟩
          rw [hwn,qe]
          rw [qe] at HBV' qz
          have HBV:=jd HBV'
          have qg:g < q:=by have:=(uh SIn).gsz; omega
          clear hwn hblN hgN HBV' qe
          refine hK.out _ _ hS2_ (fun _=>?_)
          clear hK K
          try simp only [Act.put,zA,zB,zC]
          refine tCz 10 rfl fun K hK=>?_
          go_simp
          refine (Zei wa2 u.name u.key (uh HUO).name (uh HUO).key (1+x77) n80 (by omega) _ rfl).mono ?_
          rintro e wa3 hpost
          obtain ⟨v,he,hv,hblN⟩:=hpost.v (Zdx _ _ _ _)
          obtain ⟨vb,hv1,hv2⟩:=hv
          subst hv1 he
          obtain ⟨r,hr⟩ :∃r,begC u.name u.key (1+x77) n80=r:=⟨_,rfl⟩
          have hcf:CFine r:=hr ▸ ⟨Zdx _ _ _ _,fun h0=>ZeW (uh HUN) (uh HUO).key (by omega) h0⟩
          rw [hr] at hv2 ⊢
          have HVB:=jd (Zak hv2 (Nat.le_trans hub hS2_.size))
          have HCF:=jd hcf
          have hgN_:(wa2).grownBy wa3 (some g):=Zah hblN _
          have hcN_:Zaq wa3 B g:=hS2_.2.below_ hblN
          have hgN:(wa2).grownBy wa3 (some g):=hgN_
          have hS3_:CJ w3 B g wa3:=hS2_.next hcN_ hgN
          replace HBV:=jd ((uh HBV).gb hgN)
          clear hgN hgN_ hcN_ hv2 hblN hcf hpost hr
          refine hK.out _ _ hS3_ (fun _=>?_)
          clear hK K
          try simp only [Act.put,zA,zB,zC]
          refine tq 11 rfl hS3_ ?_
          refine tq 12 rfl hS3_ ?_
          refine tq 13 rfl hS3_ ?_
          refine tq 14 rfl hS3_ ?_
          refine tOz 16 rfl fun K hK=>?_
          refine Zaf (by rfl) 65 (.tmp 5) (.tmp 83) rfl q 65 _ r.c.cs.toArray rfl rfl (uh HBV) (Cli.size_eq (uh HCF).ok) (Zai (uh HCF).ok) (fun v hv=>Cli.one v (by simpa using hv)) ?_
          intro wa4 hb4 hg4
          have hS4_:CJ w3 B g wa4:=hS3_.later (uh SIn).gsz ((Below.refl _ _).grown hg4 hS3_.size (fun j hj=>by injection hj with hj; omega))
          have ST4:Hid (ST w wa4 base B g gw U0 C0 kx kp (kn+1) d1):=jd ⟨_,_,_,_,_,_,(uh SIn).cj hS4_,uh OKn,uh HU,uh HC⟩
          have HVB4:=jd (Zap (uh HVB) hg4 (Zad (uh HVB) (uh HBV) (by decide)))
          have HB5:=jd hb4
          clear hb4 hg4
          refine hK.out _ _ hS4_ (fun _=>?_)
          clear hK K
          try simp only [Act.put]
          refine tq 17 rfl hS4_ ?_
          refine tq 18 rfl hS4_ ?_
          refine tDz ?_
          go_wp2_with fail
          go_meet
          exact ⟨q,r,rfl,uh HB5,uh HCF,rfl,uh HVB4,uh ST4⟩
       ·refine Zas (by rfl) 65 rfl zCli.cs.toArray (Zaz _) ?_
        obtain ⟨wa1,hwn⟩ :∃wn,(wa0).alloc (.cells zCli.cs.toArray 65)=wn:=⟨_,rfl⟩
        have hblN:Below (wa0).heap.size (wa0) wa1:=hwn ▸ (Below.refl _ _).alloc (Nat.le_refl _) _
        have hgN:(wa0).grownBy wa1 (some g):=Zah hblN _
        have hS1_:CJ w3 B g wa1:=hS0_.next (hS0_.2.below_ hblN) hgN
        have HBV':Blk wa1 (wa0).heap.size 65 zCli.cs.toArray:=hwn ▸ Blk.new _ _ _
        have qz:w3.heap.size≤(wa0).heap.size:=hS0_.size
        obtain ⟨q,qe⟩ :∃q,(wa0).heap.size=q:=⟨_,rfl⟩
        rw [hwn,qe]
        rw [qe] at HBV' qz
        have HBV:=jd HBV'
        have qg:g < q:=by have:=(uh SIn).gsz; omega
        clear hwn hblN hgN HBV' qe
        refine hK.out _ _ hS1_ (fun _=>?_)
        clear hK K
        try simp only [Act.put,zA,zB,zC]
        refine tCz 8 rfl fun K hK=>?_
        go_simp
        refine (Zav wa1 B g 4 hS1_.2 (by decide) (by decide)).mono ?_
        rintro e wa2 ⟨x80,rfl,x80a,x80b,hcN,hgN⟩
        have hS2_:CJ w3 B g wa2:=hS1_.next hcN hgN
        replace HBV:=jd ((uh HBV).gb hgN)
        obtain ⟨n80,rfl⟩ :∃n:Nat,x80=(n:Int):=⟨x80.toNat,by omega⟩
        have hn80:n80 < 4:=by omega
        have hw80:IntKind.u64.wrap (n80:Int)=(n80:Int):=IntWalk.u64_in _ (by omega)
        clear hcN hgN x80b
        refine hK.out _ _ hS2_ (fun _=>?_)
        clear hK K
        try simp only [Act.put,zA,zB,zC]
        refine tq 9 rfl hS2_ ?_
        refine tCz 10 rfl fun K hK=>?_
        go_simp
        refine (Zei wa2 u.name u.key (uh HUO).name (uh HUO).key (1+x77) n80 (by omega) _ rfl).mono ?_
        rintro e wa3 hpost
        obtain ⟨v,he,hv,hblN⟩:=hpost.v (Zdx _ _ _ _)
        obtain ⟨vb,hv1,hv2⟩:=hv
        subst hv1 he
        obtain ⟨r,hr⟩ :∃r,begC u.name u.key (1+x77) n80=r:=⟨_,rfl⟩
        have hcf:CFine r:=hr ▸ ⟨Zdx _ _ _ _,fun h0=>ZeW (uh HUN) (uh HUO).key (by omega) h0⟩
        rw [hr] at hv2 ⊢
        have HVB:=jd (Zak hv2 (Nat.le_trans hub hS2_.size))
        have HCF:=jd hcf
        have hgN_:(wa2).grownBy wa3 (some g):=Zah hblN _
        have hcN_:Zaq wa3 B g:=hS2_.2.below_ hblN
        have hgN:(wa2).grownBy wa3 (some g):=hgN_
        have hS3_:CJ w3 B g wa3:=hS2_.next hcN_ hgN
        replace HBV:=jd ((uh HBV).gb hgN)
        clear hgN hgN_ hcN_ hv2 hblN hcf hpost hr
        refine hK.out _ _ hS3_ (fun _=>?_)
        clear hK K
        try simp only [Act.put,zA,zB,zC]
        refine tq 11 rfl hS3_ ?_
        refine tq 12 rfl hS3_ ?_
        refine tq 13 rfl hS3_ ?_
        refine tq 14 rfl hS3_ ?_
        refine tOz 16 rfl fun K hK=>?_
        refine Zaf (by rfl) 65 (.tmp 5) (.tmp 83) rfl q 65 _ r.c.cs.toArray rfl rfl (uh HBV) (Cli.size_eq (uh HCF).ok) (Zai (uh HCF).ok) (fun v hv=>Cli.one v (by simpa using hv)) ?_
        intro wa4 hb4 hg4
        have hS4_:CJ w3 B g wa4:=hS3_.later (uh SIn).gsz ((Below.refl _ _).grown hg4 hS3_.size (fun j hj=>by injection hj with hj; omega))
        have ST4:Hid (ST w wa4 base B g gw U0 C0 kx kp (kn+1) d1):=jd ⟨_,_,_,_,_,_,(uh SIn).cj hS4_,uh OKn,uh HU,uh HC⟩
        have HVB4:=jd (Zap (uh HVB) hg4 (Zad (uh HVB) (uh HBV) (by decide)))
        have HB5:=jd hb4
        clear hb4 hg4
        refine hK.out _ _ hS4_ (fun _=>?_)
        clear hK K
        try simp only [Act.put]
        refine tq 17 rfl hS4_ ?_
        refine tq 18 rfl hS4_ ?_
        refine tDz ?_
        go_wp2_with fail
        go_meet
        exact ⟨q,r,rfl,uh HB5,uh HCF,rfl,uh HVB4,uh ST4⟩
      ·refine Zas (by rfl) 65 rfl zCli.cs.toArray (Zaz _) ?_
       obtain ⟨wa0,hwn⟩ :∃wn,(w3.drew).alloc (.cells zCli.cs.toArray 65)=wn:=⟨_,rfl⟩
       have hblN:Below (w3.drew).heap.size (w3.drew) wa0:=hwn ▸ (Below.refl _ _).alloc (Nat.le_refl _) _
       have hgN:(w3.drew).grownBy wa0 (some g):=Zah hblN _
       have hS0_:CJ w3 B g wa0:=hS0.next (hS0.2.below_ hblN) hgN
       have HBV':Blk wa0 (w3.drew).heap.size 65 zCli.cs.toArray:=hwn ▸ Blk.new _ _ _
       have qz:w3.heap.size≤(w3.drew).heap.size:=hS0.size
       obtain ⟨q,qe⟩ :∃q,(w3.drew).heap.size=q:=⟨_,rfl⟩
       rw [hwn,qe]
       rw [qe] at HBV' qz
       have HBV:=jd HBV'
       have qg:g < q:=by have:=(uh SIn).gsz; omega
       clear hwn hblN hgN HBV' qe
       refine hK.out _ _ hS0_ (fun _=>?_)
       clear hK K
       try simp only [Act.put,zA,zB,zC]
       refine tCz 5 rfl fun K hK=>?_
       go_simp
       refine (Zav wa0 B g 3 hS0_.2 (by decide) (by decide)).mono ?_
       rintro e wa1 ⟨x77,rfl,x77a,x77b,hcN,hgN⟩
       have hS1_:CJ w3 B g wa1:=hS0_.next hcN hgN
       replace HBV:=jd ((uh HBV).gb hgN)
       have hw77:IntKind.i64.wrap (1+x77)=1+x77:=IntWalk.i64_in _ (by omega)
       clear hcN hgN x77b
       refine hK.out _ _ hS1_ (fun _=>?_)
       clear hK K
       try simp only [Act.put,zA,zB,zC]
       refine tq 6 rfl hS1_ ?_
       refine tCz 8 rfl fun K hK=>?_
       go_simp
       refine (Zav wa1 B g 4 hS1_.2 (by decide) (by decide)).mono ?_
       rintro e wa2 ⟨x80,rfl,x80a,x80b,hcN,hgN⟩
       have hS2_:CJ w3 B g wa2:=hS1_.next hcN hgN
       replace HBV:=jd ((uh HBV).gb hgN)
       obtain ⟨n80,rfl⟩ :∃n:Nat,x80=(n:Int):=⟨x80.toNat,by omega⟩
       have hn80:n80 < 4:=by omega
       have hw80:IntKind.u64.wrap (n80:Int)=(n80:Int):=IntWalk.u64_in _ (by omega)
       clear hcN hgN x80b
       refine hK.out _ _ hS2_ (fun _=>?_)
       clear hK K
       try simp only [Act.put,zA,zB,zC]
       refine tq 9 rfl hS2_ ?_
       refine tCz 10 rfl fun K hK=>?_
       go_simp
       refine (Zei wa2 u.name u.key (uh HUO).name (uh HUO).key (1+x77) n80 (by omega) _ rfl).mono ?_
       rintro e wa3 hpost
       obtain ⟨v,he,hv,hblN⟩:=hpost.v (Zdx _ _ _ _)
       obtain ⟨vb,hv1,hv2⟩:=hv
       subst hv1 he
       obtain ⟨r,hr⟩ :∃r,begC u.name u.key (1+x77) n80=r:=⟨_,rfl⟩
       have hcf:CFine r:=hr ▸ ⟨Zdx _ _ _ _,fun h0=>ZeW (uh HUN) (uh HUO).key (by omega) h0⟩
       rw [hr] at hv2 ⊢
       have HVB:=jd (Zak hv2 (Nat.le_trans hub hS2_.size))
       have HCF:=jd hcf
       have hgN_:(wa2).grownBy wa3 (some g):=Zah hblN _
       have hcN_:Zaq wa3 B g:=hS2_.2.below_ hblN
       have hgN:(wa2).grownBy wa3 (some g):=hgN_
       have hS3_:CJ w3 B g wa3:=hS2_.next hcN_ hgN
       replace HBV:=jd ((uh HBV).gb hgN)
       clear hgN hgN_ hcN_ hv2 hblN hcf hpost hr
       refine hK.out _ _ hS3_ (fun _=>?_)
       clear hK K
       try simp only [Act.put,zA,zB,zC]
       refine tq 11 rfl hS3_ ?_
       refine tq 12 rfl hS3_ ?_
       refine tq 13 rfl hS3_ ?_
       refine tq 14 rfl hS3_ ?_
       refine tOz 16 rfl fun K hK=>?_
       refine Zaf (by rfl) 65 (.tmp 5) (.tmp 83) rfl q 65 _ r.c.cs.toArray rfl rfl (uh HBV) (Cli.size_eq (uh HCF).ok) (Zai (uh HCF).ok) (fun v hv=>Cli.one v (by simpa using hv)) ?_
       intro wa4 hb4 hg4
       have hS4_:CJ w3 B g wa4:=hS3_.later (uh SIn).gsz ((Below.refl _ _).grown hg4 hS3_.size (fun j hj=>by injection hj with hj; omega))
       have ST4:Hid (ST w wa4 base B g gw U0 C0 kx kp (kn+1) d1):=jd ⟨_,_,_,_,_,_,(uh SIn).cj hS4_,uh OKn,uh HU,uh HC⟩
       have HVB4:=jd (Zap (uh HVB) hg4 (Zad (uh HVB) (uh HBV) (by decide)))
       have HB5:=jd hb4
       clear hb4 hg4
       refine hK.out _ _ hS4_ (fun _=>?_)
       clear hK K
       try simp only [Act.put]
       refine tq 17 rfl hS4_ ?_
       refine tq 18 rfl hS4_ ?_
       refine tDz ?_
       go_wp2_with fail
       go_meet
       exact ⟨q,r,rfl,uh HB5,uh HCF,rfl,uh HVB4,uh ST4⟩
     case rest =>
      obtain ⟨w4,rfl⟩ :∃w4:World,w4=wc:=⟨_,rfl⟩
      obtain ⟨q5,r,rfl,hb5,hcf,rfl,hvb,h4⟩:=hcut
      obtain ⟨A6,c6,hv6,hn6,hm6⟩:=Zac hvb
      subst hv6
      have ST4:=jd h4
      have HB5:=jd hb5
      have HCF:=jd hcf
      have HVB:=jd hvb
      clear h4 ST3 hb5 hcf hvb HB4 HUO HUN
      go_upto_if 87 with fail
      go_cut [] from 86 to 100 (fun W5=>∃ d2,ST w W5 base B g gw U0 C0 (kx+1) (kp+1) (kn+1) d2∧W5.ownsRow base 5 1 (.slice A6 r.b.length c6) r.b.length (bsV r.b)∧(r.code=0→∃ ys,d2.X=ys++[r.c]))
      case first =>
       as_aux_lemma =>
       by_cases hc0:r.code=0
       ·have e0:(r.code==0)=true:=by simp [hc0]
        have hfin:=(uh HCF).2 hc0
        have HFIN:=jd hfin
        have hro:=hfin.1
        have HRO:=jd hro
        clear hfin hro
        obtain ⟨As,cs,Au,cu,Ac,cc,Ax,cx,Ap,cp,V,si,ok,hU,hC⟩:=(uh ST4).open_
        have SIn:=jd si
        have OKn:=jd ok
        have HU:=jd hU
        have HC:=jd hC
        have hszW:=si.size
        have hgW:=si.gsz
        have hWN:=SI.bw si
        have HW:=jd hWN
        have HJ0:=jd ((CJ.start si.c:CJ w4 B g w4).drew)
        clear si ok hU hC hWN
        have hneq:q5≠g:=ZbG (uh SIn).c (uh HB5) (by decide)
        have HBQ:=jd (fun wz (hz:CJ w4 B g wz)=>hz.blk (uh HB5) hneq)
        have hxl:=(uh OKn).xlen
        obtain ⟨i0,hi,hz0,hz1,hz2⟩:=info_parts info_c
        obtain ⟨dk,hdk,hdr⟩:=Ze1
        have HDK:=jd hdk
        have HDR:=jd hdr
        clear hneq hdk hdr
        go_upto_region 5 with fail
        clear e0 hc0
        refine wp_region_noPanic (wp_region_held_drew (S:=fun _=>True) (by kernel_rfl) trivial (fun _=>?_))
        refine tq 0 rfl trivial ?_
        refine tq 1 rfl trivial ?_
        refine tq 2 rfl trivial ?_
        refine tq 3 rfl trivial ?_
        refine any_vals (CJ w4 B g) (CT g) (SteR w4.heap.size (.slice Ax d1.X.length cx) r.c) SteR.D [4,5,6] #[true,true,true,true,true,true,true,false,false,false,false] [(4,some 92),(5,some 93),(6,some 94)] 329 4 (by kernel_rfl) rfl (by kernel_rfl) (SteR.keep (by omega)) SteR.loc (fun _ _=>trivial) (uh HJ0) ⟨?_,?_,?_,trivial⟩ ?_ rfl
        · intro a vals wa hJ hout hin
          have e91:a.eval (.tmp 91)=.pointer (some ⟨gw,4,none⟩):=hout 91 (by kernel_rfl)
          refine ZaF rfl rfl (v:=.slice Ax d1.X.length cx) (w':=wa) ?_ (hJ.same (by show (upd vals 4 _ 4)=(.slice Ax d1.X.length cx); rw [ZaU]))
          have hq:wa.cell? ⟨gw,4,none⟩=some (.slice Ax d1.X.length cx):=(uh HW wa hJ).cell 4
          unfold execOp
          simp only [e91]
          go_simp
        · intro a vals wa hJ hout hin
          have e5:a.eval (.tmp 5)=.pointer (some ⟨q5,0,none⟩):=hout 5 (by kernel_rfl)
          have hl:=run_loadAt_mid (P:=Tryz.prog) wa q5 0 65 r.c.cs dk (blk_range (uh HBQ wa hJ)) (uh HDK) (uh HDR) (ZcB (uh HRO))
          refine ZaF rfl rfl (v:=.agg r.c.cs.toArray) (w':=wa) ?_ (hJ.same (by show (upd vals 5 _ 5)=.agg r.c.cs.toArray; rw [ZaU]))
          simp only [execOp,e5,hl,Sem.run_bind,Sem.run_pure,Result.andThen_ok]
        · intro a vals wa hJ hout hin
          have ev:vals 5=.agg r.c.cs.toArray:=(hin 5 93 (by kernel_rfl)).2
          have e93:a.eval (.tmp 93)=.agg r.c.cs.toArray:=by rw [← ev]; exact (hin 5 93 (by kernel_rfl)).1
          refine ZaF rfl rfl (v:=.slice (some ⟨wa.heap.size,0,none⟩) 1 1) (w':=wa.alloc (.cells r.c.cs.toArray 65)) ?_ (ZbE hJ _ (by show∃q:Nat,(upd vals 6 _ 6)=.slice (some ⟨q,0,none⟩) 1 1∧Blk _ q 65 r.c.cs.toArray∧w4.heap.size≤q; rw [ZaU]; exact ⟨_,rfl,Blk.new _ _ _,hJ.size⟩))
          simp [execOp,e93,run_slice_c wa r.c (uh HRO)]
        intro vals ww hJw hRw
        simp only [puts,Act.put,zA,zB,zC]
        have e4:vals 4=.slice Ax d1.X.length cx:=hRw 4 (by rfl)
        obtain ⟨q6,e6,hbq,hq6⟩ :∃q:Nat,vals 6=.slice (some ⟨q,0,none⟩) 1 1∧Blk ww q 65 r.c.cs.toArray∧w4.heap.size≤q:=hRw 6 (by rfl)
        rw [e4,e6]
        have SI5:=jd ((uh SIn).cj hJw)
        have HR6:=jd (Zaj.of_new hbq (Cli.len (uh HRO)))
        have HVB5:=jd (Zap (uh HVB) hJw.1 (fun e=>by have:=Zaw (uh HVB) g e; omega))
        have hbs5:base≤ww.heap.size:=by have:=(uh SI5).wd.gt; omega
        clear e4 e6 hRw
        refine tOz 7 rfl fun K hK=>?_
        refine ZaJ ww rfl (.tmp 92) (.tmp 94) 34 rfl base 65 i0 _ 41 96 Tryz.underlying34 hi hz0 hz1 hz2 zc_size (by omega) (.slice Ax d1.X.length cx) d1.X.length (d1.X.flatMap Cli.cs) rfl (uh SI5).wd.m.x _ (some ⟨q6,0,none⟩) 1 1 r.c.cs rfl (uh HR6) (fun v hv=>Cli.one v hv) (by unfold maxLen; omega) (by omega) hbs5 ?_
        intro v7 w7 ho7 hg7 _
        obtain ⟨A7,c7,hv7,_,_⟩:=Zac ho7
        subst hv7
        have HX7:Hid (w7.ownsRow base 65 41 (.slice A7 (d1.X.length+1) c7) (d1.X++[r.c]).length ((d1.X++[r.c]).flatMap Cli.cs)):=jd (by rw [List.length_append,List.flatMap_append]; simpa using ho7)
        have HB7:=jd ((uh SI5).wd.blk.grown hg7 (Zad (uh SI5).wd.m.x (uh SI5).wd.blk (by decide)).symm)
        have HVB7:=jd (World.ownsRow.kept (uh HVB5) hg7 (Za9 (uh HVB5) (uh SI5).wd.m.x (by decide)))
        have HG7:=jd hg7
        clear ho7 hg7 hJw
        refine hK.out _ _ trivial (fun _=>?_)
        clear hK K
        try simp only [Act.put]
        refine tq 8 rfl trivial ?_
        refine tq 9 rfl trivial ?_
        refine tOz 10 rfl fun K hK=>?_
        refine Zao (by rfl) 34 (.tmp 97) (.tmp 95) rfl gw 4 37 _ (.slice A7 (d1.X.length+1) c7) [.slice A7 (d1.X.length+1) c7] [.slice As d1.L.length cs,.int .u32 (d1.nx:Int),.slice Au d1.U.length cu,.slice Ac d1.C.length cc,.slice A7 (d1.X.length+1) c7,.slice Ap d1.P.length cp,.int .i64 d1.now] rfl rfl (uh HB7) rfl (by simp [ZaQ]) (by kernel_rfl) (one1 rfl) rfl ?_
        intro w8 hb8 hg8
        have SI8:Hid (SI w w8 base B g gw { d1 with X:=d1.X++[r.c] } (.slice As d1.L.length cs) (.slice Au d1.U.length cu) (.slice Ac d1.C.length cc) (.slice A7 (d1.X.length+1) c7) (.slice Ap d1.P.length cp) V):=jd ((uh SI5).newX hgb (by omega) (uh HG7) (uh HX7) hb8 hg8)
        have OK8:=jd ((uh OKn).pushX (uh HFIN).1 (uh HFIN).2.1)
        have HVB8:=jd (World.ownsRow.kept (uh HVB7) hg8 (.inr (Zad (uh HVB7) (uh HB7) (by decide))))
        clear hb8 hg8
        refine hK.out _ _ trivial (fun _=>?_)
        clear hK K
        try simp only [Act.put]
        refine tDz ?_
        go_wp2_with fail
        have hpl8:d1.P.length≤1000:=by have:=(uh OKn).plen; omega
        refine (add_cx w8 base gw { d1 with X:=d1.X++[r.c] } _ _ _ _ _ V (uh SI8).wd hbw hpl8 _ r.b (uh HVB8)).mono ?_
        rintro e w9 hadd
        obtain rfl:=hadd.1
        obtain ⟨vp9,V9,hsi9⟩:=(uh SI8).add hgb hadd
        have ST9:Hid (ST w w9 base B g gw U0 C0 (kx+1) (kp+1) (kn+1) { d1 with X:=d1.X++[r.c],P:=d1.P++[r.b] }):=jd ⟨_,_,_,_,_,_,hsi9,(uh OK8).pushP (uh HFIN).2.2.1 (uh HFIN).2.2.2.1,uh HU,uh HC⟩
        have HVB9:=jd (ZcM (uh HVB8) hadd ⟨_,(uh SI8).wd.blk⟩)
        clear hadd hsi9
        go_wp2_with fail
        go_meet
        exact ⟨_,uh ST9,uh HVB9,fun _=>⟨_,rfl⟩⟩
       ·have e0:(r.code==0)=false:=by simp [hc0]
        have ST4':=jd (uh ST4).more
        go_wp2_with fail
        go_meet
        exact ⟨_,uh ST4',uh HVB,fun h=>absurd h hc0⟩
      case rest =>
       obtain ⟨w5,rfl⟩ :∃w5:World,w5=wc:=⟨_,rfl⟩
       obtain ⟨d2,h5,hvb,hys⟩:=hcut
       have ST5:=jd h5
       have HVB5:=jd hvb
       have HYS:=jd hys
       clear h5 hvb hys ST4 HB5 HVB
       go_upto_region 7 with fail
       go_cut [8,9,10] from 101 to 123 (fun p b e W6=>∃ (q:Nat) (rs:SRes) (vS:Value),p=.pointer (some ⟨q,0,none⟩)∧Blk W6 q 29 #[vS,.int .u32 (rs.nx:Int)]∧SFine r.b rs∧e=.int .i64 rs.code∧W6.ownsRow base 50 26 vS rs.L.length (Zat rs.L)∧W6.ownsRow base 5 1 b rs.bs.length (bsV rs.bs)∧ST w W6 base B g gw U0 C0 (kx+1) (kp+1) (kn+1) d2)
       case first =>
        as_aux_lemma =>
        obtain ⟨As,cs,Au,cu,Ac,cc,Ax,cx,Ap,cp,V,si,ok,hU,hC⟩:=(uh ST5).open_
        have SIn:=jd si
        have OKn:=jd ok
        have HU:=jd hU
        have HC:=jd hC
        have hszW:=si.size
        have hgW:=si.gsz
        have hWN:=SI.bw si
        have HW:=jd hWN
        have HJ0:=jd ((CJ.start si.c:CJ w5 B g w5).drew)
        clear si ok hU hC hWN
        have hub:base≤w5.heap.size:=by have:=(uh SIn).wd.gt; omega
        have hS0:CJ w5 B g w5.drew:=uh HJ0
        have hnb:=hn6
        have HTAB:=jd (uh OKn).tab
        have hL4:=(ZaZ.1 (uh HTAB).val).1
        have HWS:=jd (fun wz (hz:CJ w5 B g wz)=>(Zb1 (uh HW wz hz):wz.rangeAt gw 0 [.slice As d2.L.length cs,.int .u32 (d2.nx:Int)]))
        have HWA:=jd (fun wz (hz:CJ w5 B g wz)=>(Zfe (uh HW wz hz):wz.rangeAt gw 2 [.slice Au d2.U.length cu,.slice Ac d2.C.length cc]))
        refine wp_region_noPanic (wp_region_held_drew (S:=fun wz=>CJ w5 B g wz) (by kernel_rfl) hS0 (fun _=>?_))
        have HVBm:=jd (Zap (uh HVB5) (ZbW (World.grownBy.refl w5 (some g))) (Zbi (uh SIn).c (uh HVB5) (by decide)))
        refine tq 0 rfl hS0 ?_
        refine tq 1 rfl hS0 ?_
        refine tq 2 rfl hS0 ?_
        refine tJz (v:=.agg [.slice As d2.L.length cs,.int .u32 (d2.nx:Int)].toArray) 3 rfl (yieldsIf_load_mid (by rfl) 29 (.tmp 104) rfl gw 0 rfl [.slice As d2.L.length cs,.int .u32 (d2.nx:Int)] _ (uh HWS) Tryz.underlying29 rfl (by kernel_rfl)) hS0 ?_
        refine tq 4 rfl hS0 ?_
        refine tq 5 rfl hS0 ?_
        refine tq 6 rfl hS0 ?_
        refine tJz (v:=.agg [.slice Au d2.U.length cu,.slice Ac d2.C.length cc].toArray) 7 rfl (yieldsIf_load_mid (by rfl) 33 (.tmp 108) rfl gw 2 rfl [.slice Au d2.U.length cu,.slice Ac d2.C.length cc] _ (uh HWA) Tryz.underlying33 rfl (by kernel_rfl)) hS0 ?_
        refine tq 8 rfl hS0 ?_
        refine tq 10 rfl hS0 ?_
        refine tq 11 rfl hS0 ?_
        refine tq 14 rfl hS0 ?_
        refine tq 15 rfl hS0 ?_
        refine tq 16 rfl hS0 ?_
        refine tJz (v:=.int .i64 d2.now) 17 rfl (Or.inl ⟨by rfl,fun wz hSw=>?_⟩) hS0 ?_
        · have hq:wz.cell? ⟨gw,6,none⟩=some (.int .i64 d2.now):=(uh HW wz hSw).cell 6
          go_simp
        refine Zbk (i:=9) (j:=23) rfl rfl (by kernel_rfl) (fun K hK=>?_) (fun K hK=>?_)
        · rw [if_pos (by rfl)]
          go_simp
          refine (Zav w5.drew B g 2 hS0.2 (by decide) (by decide)).mono ?_
          rintro e wa0 ⟨x111,rfl,x111a,x111b,hcN,hgN⟩
          have hS0_:CJ w5 B g wa0:=hS0.next hcN hgN
          replace HVBm:=jd (Zap (uh HVBm) hgN (fun e=>by have:=Zaw (uh HVBm) g e; omega))
          clear hcN hgN x111b
          refine hK.out _ _ hS0_ (fun _=>?_)
          clear hK K
          try simp only [Act.put,zA,zB,zC]
          refine Zbk (i:=12) (j:=23) rfl rfl (by kernel_rfl) (fun K hK=>?_) (fun K hK=>?_)
          · rw [if_pos (by rfl)]
            go_simp
            refine (Zav wa0 B g 4 hS0_.2 (by decide) (by decide)).mono ?_
            rintro e wa1 ⟨x114,rfl,x114a,x114b,hcN,hgN⟩
            have hS1_:CJ w5 B g wa1:=hS0_.next hcN hgN
            replace HVBm:=jd (Zap (uh HVBm) hgN (fun e=>by have:=Zaw (uh HVBm) g e; omega))
            obtain ⟨n114,rfl⟩ :∃n:Nat,x114=(n:Int):=⟨x114.toNat,by omega⟩
            have hn114:n114 < 4:=by omega
            have hw114:IntKind.u64.wrap (n114:Int)=(n114:Int):=IntWalk.u64_in _ (by omega)
            clear hcN hgN x114b
            refine hK.out _ _ hS1_ (fun _=>?_)
            clear hK K
            try simp only [Act.put,zA,zB,zC]
            refine tq 13 rfl hS1_ ?_
            refine Zbk (i:=18) (j:=23) rfl rfl (by kernel_rfl) (fun K hK=>?_) (fun K hK=>?_)
            · rw [if_pos (by rfl)]
              go_simp
              refine (Zdq wa1 As d2.L.length cs d2.L d2.nx (Zbp ((uh SIn).cj hS1_).wd.m.s (uh HTAB).ok) (by omega) (uh HTAB).nx Au d2.U.length cu Ac d2.C.length cc d2.U d2.C (Zfi ((uh SIn).cj hS1_).wd.m.u (fun x hx=>((uh OKn).uok x hx).1)) (Zfh ((uh SIn).cj hS1_).wd.m.c) (by have:=(uh OKn).ulen; unfold maxLen; omega) (by have:=(uh OKn).clen; unfold maxLen; omega) x111 A6 r.b.length c6 r.b (Zaj.of_own (uh HVBm)) hnb hm6 n114 (by omega) d2.now _ rfl).mono ?_
              rintro e wa2 hpost
              obtain ⟨v,he,hv,hblN⟩:=hpost.v (ZbX _ _ _ _ _ _ _ _)
              obtain ⟨vS,vb,hv1,hv2,hv3⟩:=hv
              subst hv1 he
              obtain ⟨rs,hr⟩ :∃rs,ZbI d2.L d2.nx d2.U d2.C x111 r.b n114 d2.now=rs:=⟨_,rfl⟩
              have hcf:SFine r.b rs:=by
                refine ⟨hr ▸ ZbX _ _ _ _ _ _ _ _,fun h0=>?_⟩
                obtain ⟨h1,h2,_,_,_,_,h3⟩:=(uh HTAB).hello (fun x hx=>((uh OKn).uok x hx).1) (by omega) hr h0
                have h4:=(Zcy h3).1
                exact ⟨h1,by rw [h2,ZbA]; omega,by rw [h2,ZbA]; omega,⟨_,_,h2⟩,h4⟩
              rw [hr] at hv2 hv3 ⊢
              have HVS:=jd (Zak hv2 (Nat.le_trans hub hS1_.size))
              have HVC:=jd (Zak hv3 (Nat.le_trans hub hS1_.size))
              have HCF2:=jd hcf
              have hgN_:(wa1).grownBy wa2 (some g):=Zah hblN _
              have hcN_:Zaq wa2 B g:=hS1_.2.below_ hblN
              have hgN:(wa1).grownBy wa2 (some g):=hgN_
              have hS2_:CJ w5 B g wa2:=hS1_.next hcN_ hgN
              replace HVBm:=jd (Zap (uh HVBm) hgN (fun e=>by have:=Zaw (uh HVBm) g e; omega))
              clear hgN hgN_ hcN_ hv2 hv3 hblN hcf hpost hr
              refine hK.out _ _ hS2_ (fun _=>?_)
              clear hK K
              try simp only [Act.put,zA,zB,zC]
              refine tq 19 rfl hS2_ ?_
              refine tq 20 rfl hS2_ ?_
              refine tq 21 rfl hS2_ ?_
              refine tq 22 rfl hS2_ ?_
              refine tOz 23 rfl fun K hK=>?_
              refine Zas (by rfl) 29 rfl #[.slice none 0 0,.int .u32 0] (ZaB _) ?_
              obtain ⟨wa3,hwn⟩ :∃wn,(wa2).alloc (.cells #[.slice none 0 0,.int .u32 0] 29)=wn:=⟨_,rfl⟩
              have hblN:Below (wa2).heap.size (wa2) wa3:=hwn ▸ (Below.refl _ _).alloc (Nat.le_refl _) _
              have hgN:(wa2).grownBy wa3 (some g):=Zah hblN _
              have hS3_:CJ w5 B g wa3:=hS2_.next (hS2_.2.below_ hblN) hgN
              have HBV':Blk wa3 (wa2).heap.size 29 #[.slice none 0 0,.int .u32 0]:=hwn ▸ Blk.new _ _ _
              have qz:w5.heap.size≤(wa2).heap.size:=hS2_.size
              obtain ⟨q,qe⟩ :∃q,(wa2).heap.size=q:=⟨_,rfl⟩
              rw [hwn,qe]
              rw [qe] at HBV' qz
              have HBV:=jd HBV'
              have qg:g < q:=by have:=(uh SIn).gsz; omega
              replace HVBm:=jd (Zap (uh HVBm) hgN (fun e=>by have:=Zaw (uh HVBm) g e; omega))
              replace HVS:=jd (Zap (uh HVS) hgN (fun e=>by have:=Zaw (uh HVS) g e; omega))
              replace HVC:=jd (Zap (uh HVC) hgN (fun e=>by have:=Zaw (uh HVC) g e; omega))
              clear hwn hblN hgN HBV' qe
              refine hK.out _ _ hS3_ (fun _=>?_)
              clear hK K
              try simp only [Act.put,zA,zB,zC]
              refine tOz 24 rfl fun K hK=>?_
              refine Zaf (by rfl) 29 (.tmp 8) (.tmp 121) rfl q 29 _ #[vS,.int .u32 (rs.nx:Int)] rfl rfl (uh HBV) rfl (by kernel_rfl) (by intro v hv; simp at hv; rcases hv with rfl | rfl; exact Za6 (uh HVS); rfl) ?_
              intro wa4 hb4 hg4
              have hS4_:CJ w5 B g wa4:=hS3_.later (uh SIn).gsz ((Below.refl _ _).grown hg4 hS3_.size (fun j hj=>by injection hj with hj; omega))
              have ST6:Hid (ST w wa4 base B g gw U0 C0 (kx+1) (kp+1) (kn+1) d2):=jd ⟨_,_,_,_,_,_,(uh SIn).cj hS4_,uh OKn,uh HU,uh HC⟩
              have HVS4:=jd (Zap (uh HVS) hg4 (Zad (uh HVS) (uh HBV) (by decide)))
              have HVC4:=jd (Zap (uh HVC) hg4 (Zad (uh HVC) (uh HBV) (by decide)))
              have HB6:=jd hb4
              clear hb4 hg4
              refine hK.out _ _ hS4_ (fun _=>?_)
              clear hK K
              try simp only [Act.put]
              refine tq 25 rfl hS4_ ?_
              refine tq 26 rfl hS4_ ?_
              refine tDz ?_
              go_wp2_with fail
              go_meet
              exact ⟨q,rs,vS,rfl,uh HB6,uh HCF2,rfl,uh HVS4,uh HVC4,uh ST6⟩
            · refine Zas (by rfl) 29 rfl #[.slice none 0 0,.int .u32 0] (ZaB _) ?_
              obtain ⟨wa2,hwn⟩ :∃wn,(wa1).alloc (.cells #[.slice none 0 0,.int .u32 0] 29)=wn:=⟨_,rfl⟩
              have hblN:Below (wa1).heap.size (wa1) wa2:=hwn ▸ (Below.refl _ _).alloc (Nat.le_refl _) _
              have hgN:(wa1).grownBy wa2 (some g):=Zah hblN _
              have hS2_:CJ w5 B g wa2:=hS1_.next (hS1_.2.below_ hblN) hgN
              have HBV':Blk wa2 (wa1).heap.size 29 #[.slice none 0 0,.int .u32 0]:=hwn ▸ Blk.new _ _ _
              have qz:w5.heap.size≤(wa1).heap.size:=hS1_.size
              obtain ⟨q,qe⟩ :∃q,(wa1).heap.size=q:=⟨_,rfl⟩
              rw [hwn,qe]
              rw [qe] at HBV' qz
              have HBV:=jd HBV'
              have qg:g < q:=by have:=(uh SIn).gsz; omega
              replace HVBm:=jd (Zap (uh HVBm) hgN (fun e=>by have:=Zaw (uh HVBm) g e; omega))
              clear hwn hblN hgN HBV' qe
              refine hK.out _ _ hS2_ (fun _=>?_)
              clear hK K
              try simp only [Act.put,zA,zB,zC]
              refine tCz 18 rfl fun K hK=>?_
              go_simp
              refine (Zdq wa2 As d2.L.length cs d2.L d2.nx (Zbp ((uh SIn).cj hS2_).wd.m.s (uh HTAB).ok) (by omega) (uh HTAB).nx Au d2.U.length cu Ac d2.C.length cc d2.U d2.C (Zfi ((uh SIn).cj hS2_).wd.m.u (fun x hx=>((uh OKn).uok x hx).1)) (Zfh ((uh SIn).cj hS2_).wd.m.c) (by have:=(uh OKn).ulen; unfold maxLen; omega) (by have:=(uh OKn).clen; unfold maxLen; omega) x111 A6 r.b.length c6 r.b (Zaj.of_own (uh HVBm)) hnb hm6 n114 (by omega) d2.now _ rfl).mono ?_
              rintro e wa3 hpost
              obtain ⟨v,he,hv,hblN⟩:=hpost.v (ZbX _ _ _ _ _ _ _ _)
              obtain ⟨vS,vb,hv1,hv2,hv3⟩:=hv
              subst hv1 he
              obtain ⟨rs,hr⟩ :∃rs,ZbI d2.L d2.nx d2.U d2.C x111 r.b n114 d2.now=rs:=⟨_,rfl⟩
              have hcf:SFine r.b rs:=by
                refine ⟨hr ▸ ZbX _ _ _ _ _ _ _ _,fun h0=>?_⟩
                obtain ⟨h1,h2,_,_,_,_,h3⟩:=(uh HTAB).hello (fun x hx=>((uh OKn).uok x hx).1) (by omega) hr h0
                have h4:=(Zcy h3).1
                exact ⟨h1,by rw [h2,ZbA]; omega,by rw [h2,ZbA]; omega,⟨_,_,h2⟩,h4⟩
              rw [hr] at hv2 hv3 ⊢
              have HVS:=jd (Zak hv2 (Nat.le_trans hub hS2_.size))
              have HVC:=jd (Zak hv3 (Nat.le_trans hub hS2_.size))
              have HCF2:=jd hcf
              have hgN_:(wa2).grownBy wa3 (some g):=Zah hblN _
              have hcN_:Zaq wa3 B g:=hS2_.2.below_ hblN
              have hgN:(wa2).grownBy wa3 (some g):=hgN_
              have hS3_:CJ w5 B g wa3:=hS2_.next hcN_ hgN
              replace HVBm:=jd (Zap (uh HVBm) hgN (fun e=>by have:=Zaw (uh HVBm) g e; omega))
              replace HBV:=jd ((uh HBV).gb hgN)
              clear hgN hgN_ hcN_ hv2 hv3 hblN hcf hpost hr
              refine hK.out _ _ hS3_ (fun _=>?_)
              clear hK K
              try simp only [Act.put,zA,zB,zC]
              refine tq 19 rfl hS3_ ?_
              refine tq 20 rfl hS3_ ?_
              refine tq 21 rfl hS3_ ?_
              refine tq 22 rfl hS3_ ?_
              refine tOz 24 rfl fun K hK=>?_
              refine Zaf (by rfl) 29 (.tmp 8) (.tmp 121) rfl q 29 _ #[vS,.int .u32 (rs.nx:Int)] rfl rfl (uh HBV) rfl (by kernel_rfl) (by intro v hv; simp at hv; rcases hv with rfl | rfl; exact Za6 (uh HVS); rfl) ?_
              intro wa4 hb4 hg4
              have hS4_:CJ w5 B g wa4:=hS3_.later (uh SIn).gsz ((Below.refl _ _).grown hg4 hS3_.size (fun j hj=>by injection hj with hj; omega))
              have ST6:Hid (ST w wa4 base B g gw U0 C0 (kx+1) (kp+1) (kn+1) d2):=jd ⟨_,_,_,_,_,_,(uh SIn).cj hS4_,uh OKn,uh HU,uh HC⟩
              have HVS4:=jd (Zap (uh HVS) hg4 (Zad (uh HVS) (uh HBV) (by decide)))
              have HVC4:=jd (Zap (uh HVC) hg4 (Zad (uh HVC) (uh HBV) (by decide)))
              have HB6:=jd hb4
              clear hb4 hg4
              refine hK.out _ _ hS4_ (fun _=>?_)
              clear hK K
              try simp only [Act.put]
              refine tq 25 rfl hS4_ ?_
              refine tq 26 rfl hS4_ ?_
              refine tDz ?_
              go_wp2_with fail
              go_meet
              exact ⟨q,rs,vS,rfl,uh HB6,uh HCF2,rfl,uh HVS4,uh HVC4,uh ST6⟩
          · refine Zas (by rfl) 29 rfl #[.slice none 0 0,.int .u32 0] (ZaB _) ?_
            obtain ⟨wa1,hwn⟩ :∃wn,(wa0).alloc (.cells #[.slice none 0 0,.int .u32 0] 29)=wn:=⟨_,rfl⟩
            have hblN:Below (wa0).heap.size (wa0) wa1:=hwn ▸ (Below.refl _ _).alloc (Nat.le_refl _) _
            have hgN:(wa0).grownBy wa1 (some g):=Zah hblN _
            have hS1_:CJ w5 B g wa1:=hS0_.next (hS0_.2.below_ hblN) hgN
            have HBV':Blk wa1 (wa0).heap.size 29 #[.slice none 0 0,.int .u32 0]:=hwn ▸ Blk.new _ _ _
            have qz:w5.heap.size≤(wa0).heap.size:=hS0_.size
            obtain ⟨q,qe⟩ :∃q,(wa0).heap.size=q:=⟨_,rfl⟩
            rw [hwn,qe]
            rw [qe] at HBV' qz
            have HBV:=jd HBV'
            have qg:g < q:=by have:=(uh SIn).gsz; omega
            replace HVBm:=jd (Zap (uh HVBm) hgN (fun e=>by have:=Zaw (uh HVBm) g e; omega))
            clear hwn hblN hgN HBV' qe
            refine hK.out _ _ hS1_ (fun _=>?_)
            clear hK K
            try simp only [Act.put,zA,zB,zC]
            refine tCz 12 rfl fun K hK=>?_
            go_simp
            refine (Zav wa1 B g 4 hS1_.2 (by decide) (by decide)).mono ?_
            rintro e wa2 ⟨x114,rfl,x114a,x114b,hcN,hgN⟩
            have hS2_:CJ w5 B g wa2:=hS1_.next hcN hgN
            replace HVBm:=jd (Zap (uh HVBm) hgN (fun e=>by have:=Zaw (uh HVBm) g e; omega))
            replace HBV:=jd ((uh HBV).gb hgN)
            obtain ⟨n114,rfl⟩ :∃n:Nat,x114=(n:Int):=⟨x114.toNat,by omega⟩
            have hn114:n114 < 4:=by omega
            have hw114:IntKind.u64.wrap (n114:Int)=(n114:Int):=IntWalk.u64_in _ (by omega)
            clear hcN hgN x114b
            refine hK.out _ _ hS2_ (fun _=>?_)
            clear hK K
            try simp only [Act.put,zA,zB,zC]
            refine tq 13 rfl hS2_ ?_
            refine tCz 18 rfl fun K hK=>?_
            go_simp
            refine (Zdq wa2 As d2.L.length cs d2.L d2.nx (Zbp ((uh SIn).cj hS2_).wd.m.s (uh HTAB).ok) (by omega) (uh HTAB).nx Au d2.U.length cu Ac d2.C.length cc d2.U d2.C (Zfi ((uh SIn).cj hS2_).wd.m.u (fun x hx=>((uh OKn).uok x hx).1)) (Zfh ((uh SIn).cj hS2_).wd.m.c) (by have:=(uh OKn).ulen; unfold maxLen; omega) (by have:=(uh OKn).clen; unfold maxLen; omega) x111 A6 r.b.length c6 r.b (Zaj.of_own (uh HVBm)) hnb hm6 n114 (by omega) d2.now _ rfl).mono ?_
            rintro e wa3 hpost
            obtain ⟨v,he,hv,hblN⟩:=hpost.v (ZbX _ _ _ _ _ _ _ _)
            obtain ⟨vS,vb,hv1,hv2,hv3⟩:=hv
            subst hv1 he
            obtain ⟨rs,hr⟩ :∃rs,ZbI d2.L d2.nx d2.U d2.C x111 r.b n114 d2.now=rs:=⟨_,rfl⟩
            have hcf:SFine r.b rs:=by
              refine ⟨hr ▸ ZbX _ _ _ _ _ _ _ _,fun h0=>?_⟩
              obtain ⟨h1,h2,_,_,_,_,h3⟩:=(uh HTAB).hello (fun x hx=>((uh OKn).uok x hx).1) (by omega) hr h0
              have h4:=(Zcy h3).1
              exact ⟨h1,by rw [h2,ZbA]; omega,by rw [h2,ZbA]; omega,⟨_,_,h2⟩,h4⟩
            rw [hr] at hv2 hv3 ⊢
            have HVS:=jd (Zak hv2 (Nat.le_trans hub hS2_.size))
            have HVC:=jd (Zak hv3 (Nat.le_trans hub hS2_.size))
            have HCF2:=jd hcf
            have hgN_:(wa2).grownBy wa3 (some g):=Zah hblN _
            have hcN_:Zaq wa3 B g:=hS2_.2.below_ hblN
            have hgN:(wa2).grownBy wa3 (some g):=hgN_
            have hS3_:CJ w5 B g wa3:=hS2_.next hcN_ hgN
            replace HVBm:=jd (Zap (uh HVBm) hgN (fun e=>by have:=Zaw (uh HVBm) g e; omega))
            replace HBV:=jd ((uh HBV).gb hgN)
            clear hgN hgN_ hcN_ hv2 hv3 hblN hcf hpost hr
            refine hK.out _ _ hS3_ (fun _=>?_)
            clear hK K
            try simp only [Act.put,zA,zB,zC]
            refine tq 19 rfl hS3_ ?_
            refine tq 20 rfl hS3_ ?_
            refine tq 21 rfl hS3_ ?_
            refine tq 22 rfl hS3_ ?_
            refine tOz 24 rfl fun K hK=>?_
            refine Zaf (by rfl) 29 (.tmp 8) (.tmp 121) rfl q 29 _ #[vS,.int .u32 (rs.nx:Int)] rfl rfl (uh HBV) rfl (by kernel_rfl) (by intro v hv; simp at hv; rcases hv with rfl | rfl; exact Za6 (uh HVS); rfl) ?_
            intro wa4 hb4 hg4
            have hS4_:CJ w5 B g wa4:=hS3_.later (uh SIn).gsz ((Below.refl _ _).grown hg4 hS3_.size (fun j hj=>by injection hj with hj; omega))
            have ST6:Hid (ST w wa4 base B g gw U0 C0 (kx+1) (kp+1) (kn+1) d2):=jd ⟨_,_,_,_,_,_,(uh SIn).cj hS4_,uh OKn,uh HU,uh HC⟩
            have HVS4:=jd (Zap (uh HVS) hg4 (Zad (uh HVS) (uh HBV) (by decide)))
            have HVC4:=jd (Zap (uh HVC) hg4 (Zad (uh HVC) (uh HBV) (by decide)))
            have HB6:=jd hb4
            clear hb4 hg4
            refine hK.out _ _ hS4_ (fun _=>?_)
            clear hK K
            try simp only [Act.put]
            refine tq 25 rfl hS4_ ?_
            refine tq 26 rfl hS4_ ?_
            refine tDz ?_
            go_wp2_with fail
            go_meet
            exact ⟨q,rs,vS,rfl,uh HB6,uh HCF2,rfl,uh HVS4,uh HVC4,uh ST6⟩
        · refine Zas (by rfl) 29 rfl #[.slice none 0 0,.int .u32 0] (ZaB _) ?_
          obtain ⟨wa0,hwn⟩ :∃wn,(w5.drew).alloc (.cells #[.slice none 0 0,.int .u32 0] 29)=wn:=⟨_,rfl⟩
          have hblN:Below (w5.drew).heap.size (w5.drew) wa0:=hwn ▸ (Below.refl _ _).alloc (Nat.le_refl _) _
          have hgN:(w5.drew).grownBy wa0 (some g):=Zah hblN _
          have hS0_:CJ w5 B g wa0:=hS0.next (hS0.2.below_ hblN) hgN
          have HBV':Blk wa0 (w5.drew).heap.size 29 #[.slice none 0 0,.int .u32 0]:=hwn ▸ Blk.new _ _ _
          have qz:w5.heap.size≤(w5.drew).heap.size:=hS0.size
          obtain ⟨q,qe⟩ :∃q,(w5.drew).heap.size=q:=⟨_,rfl⟩
          rw [hwn,qe]
          rw [qe] at HBV' qz
          have HBV:=jd HBV'
          have qg:g < q:=by have:=(uh SIn).gsz; omega
          replace HVBm:=jd (Zap (uh HVBm) hgN (fun e=>by have:=Zaw (uh HVBm) g e; omega))
          clear hwn hblN hgN HBV' qe
          refine hK.out _ _ hS0_ (fun _=>?_)
          clear hK K
          try simp only [Act.put,zA,zB,zC]
          refine tCz 9 rfl fun K hK=>?_
          go_simp
          refine (Zav wa0 B g 2 hS0_.2 (by decide) (by decide)).mono ?_
          rintro e wa1 ⟨x111,rfl,x111a,x111b,hcN,hgN⟩
          have hS1_:CJ w5 B g wa1:=hS0_.next hcN hgN
          replace HVBm:=jd (Zap (uh HVBm) hgN (fun e=>by have:=Zaw (uh HVBm) g e; omega))
          replace HBV:=jd ((uh HBV).gb hgN)
          clear hcN hgN x111b
          refine hK.out _ _ hS1_ (fun _=>?_)
          clear hK K
          try simp only [Act.put,zA,zB,zC]
          refine tCz 12 rfl fun K hK=>?_
          go_simp
          refine (Zav wa1 B g 4 hS1_.2 (by decide) (by decide)).mono ?_
          rintro e wa2 ⟨x114,rfl,x114a,x114b,hcN,hgN⟩
          have hS2_:CJ w5 B g wa2:=hS1_.next hcN hgN
          replace HVBm:=jd (Zap (uh HVBm) hgN (fun e=>by have:=Zaw (uh HVBm) g e; omega))
          replace HBV:=jd ((uh HBV).gb hgN)
          obtain ⟨n114,rfl⟩ :∃n:Nat,x114=(n:Int):=⟨x114.toNat,by omega⟩
          have hn114:n114 < 4:=by omega
          have hw114:IntKind.u64.wrap (n114:Int)=(n114:Int):=IntWalk.u64_in _ (by omega)
          clear hcN hgN x114b
          refine hK.out _ _ hS2_ (fun _=>?_)
          clear hK K
          try simp only [Act.put,zA,zB,zC]
          refine tq 13 rfl hS2_ ?_
          refine tCz 18 rfl fun K hK=>?_
          go_simp
          refine (Zdq wa2 As d2.L.length cs d2.L d2.nx (Zbp ((uh SIn).cj hS2_).wd.m.s (uh HTAB).ok) (by omega) (uh HTAB).nx Au d2.U.length cu Ac d2.C.length cc d2.U d2.C (Zfi ((uh SIn).cj hS2_).wd.m.u (fun x hx=>((uh OKn).uok x hx).1)) (Zfh ((uh SIn).cj hS2_).wd.m.c) (by have:=(uh OKn).ulen; unfold maxLen; omega) (by have:=(uh OKn).clen; unfold maxLen; omega) x111 A6 r.b.length c6 r.b (Zaj.of_own (uh HVBm)) hnb hm6 n114 (by omega) d2.now _ rfl).mono ?_
          rintro e wa3 hpost
          obtain ⟨v,he,hv,hblN⟩:=hpost.v (ZbX _ _ _ _ _ _ _ _)
          obtain ⟨vS,vb,hv1,hv2,hv3⟩:=hv
          subst hv1 he
          obtain ⟨rs,hr⟩ :∃rs,ZbI d2.L d2.nx d2.U d2.C x111 r.b n114 d2.now=rs:=⟨_,rfl⟩
          have hcf:SFine r.b rs:=by
            refine ⟨hr ▸ ZbX _ _ _ _ _ _ _ _,fun h0=>?_⟩
            obtain ⟨h1,h2,_,_,_,_,h3⟩:=(uh HTAB).hello (fun x hx=>((uh OKn).uok x hx).1) (by omega) hr h0
            have h4:=(Zcy h3).1
            exact ⟨h1,by rw [h2,ZbA]; omega,by rw [h2,ZbA]; omega,⟨_,_,h2⟩,h4⟩
          rw [hr] at hv2 hv3 ⊢
          have HVS:=jd (Zak hv2 (Nat.le_trans hub hS2_.size))
          have HVC:=jd (Zak hv3 (Nat.le_trans hub hS2_.size))
          have HCF2:=jd hcf
          have hgN_:(wa2).grownBy wa3 (some g):=Zah hblN _
          have hcN_:Zaq wa3 B g:=hS2_.2.below_ hblN
          have hgN:(wa2).grownBy wa3 (some g):=hgN_
          have hS3_:CJ w5 B g wa3:=hS2_.next hcN_ hgN
          replace HVBm:=jd (Zap (uh HVBm) hgN (fun e=>by have:=Zaw (uh HVBm) g e; omega))
          replace HBV:=jd ((uh HBV).gb hgN)
          clear hgN hgN_ hcN_ hv2 hv3 hblN hcf hpost hr
          refine hK.out _ _ hS3_ (fun _=>?_)
          clear hK K
          try simp only [Act.put,zA,zB,zC]
          refine tq 19 rfl hS3_ ?_
          refine tq 20 rfl hS3_ ?_
          refine tq 21 rfl hS3_ ?_
          refine tq 22 rfl hS3_ ?_
          refine tOz 24 rfl fun K hK=>?_
          refine Zaf (by rfl) 29 (.tmp 8) (.tmp 121) rfl q 29 _ #[vS,.int .u32 (rs.nx:Int)] rfl rfl (uh HBV) rfl (by kernel_rfl) (by intro v hv; simp at hv; rcases hv with rfl | rfl; exact Za6 (uh HVS); rfl) ?_
          intro wa4 hb4 hg4
          have hS4_:CJ w5 B g wa4:=hS3_.later (uh SIn).gsz ((Below.refl _ _).grown hg4 hS3_.size (fun j hj=>by injection hj with hj; omega))
          have ST6:Hid (ST w wa4 base B g gw U0 C0 (kx+1) (kp+1) (kn+1) d2):=jd ⟨_,_,_,_,_,_,(uh SIn).cj hS4_,uh OKn,uh HU,uh HC⟩
          have HVS4:=jd (Zap (uh HVS) hg4 (Zad (uh HVS) (uh HBV) (by decide)))
          have HVC4:=jd (Zap (uh HVC) hg4 (Zad (uh HVC) (uh HBV) (by decide)))
          have HB6:=jd hb4
          clear hb4 hg4
          refine hK.out _ _ hS4_ (fun _=>?_)
          clear hK K
          try simp only [Act.put]
          refine tq 25 rfl hS4_ ?_
          refine tq 26 rfl hS4_ ?_
          refine tDz ?_
          go_wp2_with fail
          go_meet
          exact ⟨q,rs,vS,rfl,uh HB6,uh HCF2,rfl,uh HVS4,uh HVC4,uh ST6⟩
       case rest =>
        obtain ⟨w6,rfl⟩ :∃w6:World,w6=wc:=⟨_,rfl⟩
        obtain ⟨q8,rs,vS,rfl,hb6,hcf,rfl,hvs,hvc,h6⟩:=hcut
        have ST6:=jd h6
        have HB6:=jd hb6
        have HCF2:=jd hcf
        have HVS:=jd hvs
        have HVC:=jd hvc
        clear h6 ST5 hb6 hcf hvs hvc
        by_cases hs0:rs.code=0
        case neg =>
          have e0:(rs.code==0)=false:=by simp [hs0]
          have ST7:=jd (uh ST6).more2
          go_wp2_with fail
          go_end0
          exact ⟨rfl,_,uh ST7⟩
        have e0:(rs.code==0)=true:=by simp [hs0]
        obtain ⟨htab,hbl0,hbl1,hch,hrb⟩:=(uh HCF2).2 hs0
        have hr0:r.code=0:=by
          rcases Decidable.em (r.code=0) with h | h
          · exact h
          · rw [((uh HCF).1 h).2] at hrb; simp at hrb
        have HR0:=jd hr0
        have HTAB:=jd htab
        have HCH:=jd hch
        have hnq:q8≠g:=ZbG (uh ST6).codes (uh HB6) (by decide)
        clear hs0 htab hch hrb hr0
        obtain ⟨As,cs,Au,cu,Ac,cc,Ax,cx,Ap,cp,V,si,ok,hU,hC⟩:=(uh ST6).open_
        have SIn:=jd si
        have OKn:=jd ok
        have HU:=jd hU
        have HC:=jd hC
        have hszW:=si.size
        have hgW:=si.gsz
        have hWN:=SI.bw si
        have HW:=jd hWN
        have HJ0:=jd ((CJ.start si.c:CJ w6 B g w6).drew)
        clear si ok hU hC hWN
        have HB0:=jd ((uh SIn).wd.blk)
        obtain ⟨Av,cv,hvv,_,_⟩:=Zac (uh HVS)
        subst hvv
        go_wp2_with (first
          | (refine wpList_load_row rfl 29 _ rfl q8 rfl 29 _ _ _ (uh HB6) Tryz.underlying29 rfl (by kernel_rfl) ?_)
          | (refine Zal rfl 29 (.tmp 129) (.tmp 127) rfl gw 0 37 _ (.agg #[.slice Av rs.L.length cv,.int .u32 (rs.nx:Int)]) [.slice Av rs.L.length cv,.int .u32 (rs.nx:Int)] [.slice Av rs.L.length cv,.int .u32 (rs.nx:Int),.slice Au d2.U.length cu,.slice Ac d2.C.length cc,.slice Ax d2.X.length cx,.slice Ap d2.P.length cp,.int .i64 d2.now] rfl rfl (uh HB0) rfl (by simp [ZaQ]) (by kernel_rfl) (oZz rfl rfl) rfl ?_
             intro w7 hb7 hg7
             have SI7:Hid (SI w w7 base B g gw { d2 with L:=rs.L,nx:=rs.nx } (.slice Av rs.L.length cv) (.slice Au d2.U.length cu) (.slice Ac d2.C.length cc) (.slice Ax d2.X.length cx) (.slice Ap d2.P.length cp) V):=jd ((uh SIn).put (by omega) hb7 hg7 ((uh SIn).wd.m.setS (uh HVS)))
             have OK7:=jd ((uh OKn).setS (uh HTAB))
             have HVC7:=jd (World.ownsRow.kept (uh HVC) hg7 (.inr (Zad (uh HVC) (uh HB0) (by decide))))
             clear hb7 hg7)
          | fail)
        have hpl7:d2.P.length≤1000:=by have:=(uh OKn).plen; omega
        obtain ⟨A9,c9,hv9,hn9,hm9⟩:=Zac (uh HVC7)
        subst hv9
        refine (add_cx w7 base gw { d2 with L:=rs.L,nx:=rs.nx } _ _ _ _ _ V (uh SI7).wd hbw hpl7 _ rs.bs (uh HVC7)).mono ?_
        rintro e w8 hadd
        obtain rfl:=hadd.1
        obtain ⟨vp8,V8,hsi8⟩:=(uh SI7).add hgb hadd
        obtain ⟨d3,hd3⟩ :∃d3:Wd,d3={ d2 with L:=rs.L,nx:=rs.nx,P:=d2.P++[rs.bs] }:=⟨_,rfl⟩
        have ST8:Hid (ST w w8 base B g gw U0 C0 (kx+1) (kp+1+1) (kn+1) d3):=jd (hd3 ▸ ⟨_,_,_,_,_,_,hsi8,(uh OK7).pushP hbl0 hbl1,uh HU,uh HC⟩)
        have HVC8:=jd (ZcM (uh HVC7) hadd ⟨_,(uh SI7).wd.blk⟩)
        obtain ⟨ys,hys⟩:=(uh HYS) (uh HR0)
        have HX3:Hid (d3.X=ys++[r.c]):=jd (by rw [hd3]; exact hys)
        clear hadd hsi8 hd3 SIn OKn HU HC HW HJ0 HB0 SI7 OK7 HVC7 hys ST6 hnq
        go_upto_region 11 with fail
        go_cut [9] from 133 to 161 (fun b W9=>∃ (bs:List UInt8),bs.length=13∧W9.ownsRow base 5 1 b bs.length (bsV bs)∧∃ d4,ST w W9 base B g gw U0 C0 (kx+1) (kp+1+1) (kn+1) d4)
        case first =>
          as_aux_lemma =>
          obtain ⟨As,cs,Au,cu,Ac,cc,Ax,cx,Ap,cp,V,si,ok,hU,hC⟩:=(uh ST8).open_
          have SIn:=jd si
          have OKn:=jd ok
          have HU:=jd hU
          have HC:=jd hC
          have hszW:=si.size
          have hgW:=si.gsz
          have hWN:=SI.bw si
          have HW:=jd hWN
          have HJ0:=jd ((CJ.start si.c:CJ w8 B g w8).drew)
          clear si ok hU hC hWN
          obtain ⟨rok,ruok,_,_,rop,rcl⟩:=(uh HCF).2 (uh HR0)
          have hxl:d3.X.length=ys.length+1:=by rw [uh HX3]; simp
          have hk:d3.X[ys.length]?=some r.c:=by rw [uh HX3]; simp
          obtain ⟨gx,cx2,cur,hvx,hgx,hbx,hsx,hnx,hmx,_,htx,hfit,hrec⟩:=own_rec (uh SIn).wd.m.x (by decide) (fun x hx=>Cli.len ((uh OKn).xok x hx).1) hk
          injection hvx with hA _ hcx
          subst hA hcx
          have HRG:=jd (show w8.drew.rangeAt gx (ys.length*41) r.c.cs from fun j v hv=>by rw [show w8.drew.cell? ⟨gx,ys.length*41+j,none⟩=w8.cell? ⟨gx,ys.length*41+j,none⟩ from rfl,hbx.cell]; exact hrec j v hv)
          obtain ⟨nxx,nonce,hch⟩:=uh HCH
          obtain ⟨an0,anok,anu,anl⟩:=answ_fine rok rcl rop hch
          have HK:=jd hk
          have HBX:=jd hbx
          have HROK:=jd rok
          have HAN0:=jd an0
          have HANOK:=jd anok
          have HTX:=jd htx
          have HFIT:=jd hfit
          have HANU:=jd anu
          have HANL:=jd anl
          obtain ⟨dk,hdk,hdr⟩:=Ze1
          have HDK:=jd hdk
          have HDR:=jd hdr
          have hyl:(ys.length:Int)≤1000:=by have:=(uh OKn).xlen; omega
          have hyx:(d3.X.length:Int)=(ys.length:Int)+1:=by omega
          have HYX:=jd hyx
          have hw1:IntKind.i64.wrap ((d3.X.length:Int) - 1)=(ys.length:Int):=by rw [hyx]; rw [show (ys.length:Int)+1 - 1=(ys.length:Int) by omega]; exact IntWalk.i64_in _ (by omega)
          have hlt:(ys.length:Int) < (d3.X.length:Int):=by omega
          have hS0:Blk w8.drew gw 37 (ZaQ d3 (.slice As d3.L.length cs) (.slice Au d3.U.length cu) (.slice Ac d3.C.length cc) (.slice (some ⟨gx,0,none⟩) d3.X.length cx) (.slice Ap d3.P.length cp)):=(uh SIn).wd.blk
          clear hk hbx hrec an0 anok htx hfit rok ruok rop rcl anu anl hch hdk hdr hyx hxl
          refine wp_region_noPanic (wp_region_held_drew (S:=fun wz=>Blk wz gw 37 (ZaQ d3 (.slice As d3.L.length cs) (.slice Au d3.U.length cu) (.slice Ac d3.C.length cc) (.slice (some ⟨gx,0,none⟩) d3.X.length cx) (.slice Ap d3.P.length cp))) (by kernel_rfl) hS0 (fun _=>?_))
          refine tq 0 rfl hS0 ?_
          refine tq 1 rfl hS0 ?_
          refine tq 2 rfl hS0 ?_
          refine tJz (v:=.slice (some ⟨gx,0,none⟩) d3.X.length cx) 3 rfl (Or.inl ⟨by rfl,fun wz hSw=>?_⟩) hS0 ?_
          · have hq:wz.cell? ⟨gw,4,none⟩=some (.slice (some ⟨gx,0,none⟩) d3.X.length cx):=hSw.cell 4
            go_simp
          refine tq 4 rfl hS0 ?_
          refine tq 5 rfl hS0 ?_
          refine tq 6 rfl hS0 ?_
          refine tJz (v:=.slice (some ⟨gx,0,none⟩) d3.X.length cx) 7 rfl (Or.inl ⟨by rfl,fun wz hSw=>?_⟩) hS0 ?_
          · have hq:wz.cell? ⟨gw,4,none⟩=some (.slice (some ⟨gx,0,none⟩) d3.X.length cx):=hSw.cell 4
            go_simp
          refine tq 8 rfl hS0 ?_
          refine tJz (v:=.int .i64 (ys.length:Int)) 9 rfl (Or.inl ⟨by rfl,fun wz hSw=>?_⟩) hS0 ?_
          · skip
            go_simp
          refine tq 10 rfl hS0 ?_
          refine tq 11 rfl hS0 ?_
          refine tq 12 rfl hS0 ?_
          refine tJz (v:=.slice (some ⟨gx,0,none⟩) d3.X.length cx) 13 rfl (Or.inl ⟨by rfl,fun wz hSw=>?_⟩) hS0 ?_
          · have hq:wz.cell? ⟨gw,4,none⟩=some (.slice (some ⟨gx,0,none⟩) d3.X.length cx):=hSw.cell 4
            go_simp
          refine tq 14 rfl hS0 ?_
          refine tq 15 rfl hS0 ?_
          refine tq 16 rfl hS0 ?_
          refine tJz (v:=.slice (some ⟨gx,0,none⟩) d3.X.length cx) 17 rfl (Or.inl ⟨by rfl,fun wz hSw=>?_⟩) hS0 ?_
          · have hq:wz.cell? ⟨gw,4,none⟩=some (.slice (some ⟨gx,0,none⟩) d3.X.length cx):=hSw.cell 4
            go_simp
          refine tq 18 rfl hS0 ?_
          refine tJz (v:=.int .i64 (ys.length:Int)) 19 rfl (Or.inl ⟨by rfl,fun wz hSw=>?_⟩) hS0 ?_
          · skip
            go_simp
          refine tq 20 rfl hS0 ?_
          refine tq 22 rfl hS0 ?_
          refine tOz 21 rfl fun K hK=>?_
          refine step_load_mid (by rfl) 65 (.tmp 154) rfl gx (ys.length*41) rfl r.c.cs dk (uh HRG) (uh HDK) (uh HDR) (ZcB (uh HROK)) ?_
          refine hK.out _ _ hS0 (fun _=>?_)
          clear hK K
          try simp only [Act.put,zA,zB,zC]
          refine tCz 23 rfl fun K hK=>?_
          go_simp
          refine (ransw_sx w8.drew r.c (uh HROK) A9 rs.bs.length c9 rs.bs (Zaj.of_own (uh HVC8)) hn9 hm9 _ rfl).mono ?_
          rintro e w9 hpost
          obtain ⟨v,he,hv,hblN⟩:=hpost.v (answ_bad _ _)
          obtain ⟨vb,hv1,hv2⟩:=hv
          subst hv1 he
          obtain ⟨ra,hra⟩ :∃ra,Zec r.c rs.bs=ra:=⟨_,rfl⟩
          have HA1:Hid (ra.c.Ok∧ra.c.user=r.c.user∧ra.b.length=13):=jd (hra ▸ ⟨uh HANOK,uh HANU,uh HANL⟩)
          rw [hra] at hv2 ⊢
          have hbl9:Below w8.heap.size w8 w9:=((Below.refl _ _).drew).trans hblN
          have SI9:=jd ((uh SIn).below hbl9)
          have hub8:base≤w8.drew.heap.size:=by have:=(uh SIn).wd.gt; show base≤w8.heap.size; omega
          have HVA:=jd (Zak hv2 hub8)
          have HBX9:=jd ((uh HBX).below hbl9 (uh HBX).lt)
          clear hpost hv2 hblN hbl9 hra hub8
          refine hK.out _ _ (uh SI9).wd.blk (fun _=>?_)
          clear hK K
          try simp only [Act.put,zA,zB,zC]
          refine tq 24 rfl (uh SI9).wd.blk ?_
          refine tq 25 rfl (uh SI9).wd.blk ?_
          refine tq 26 rfl (uh SI9).wd.blk ?_
          refine tq 27 rfl (uh SI9).wd.blk ?_
          refine tq 28 rfl (uh SI9).wd.blk ?_
          refine tOz 29 rfl fun K hK=>?_
          refine Zao (by rfl) 65 (.tmp 161) (.tmp 158) rfl gx (ys.length*41) 65 cur (.agg ra.c.cs.toArray) ra.c.cs _ rfl rfl (uh HBX9) (by simp [Value.cells]) (by rw [Cli.len (uh HA1).1]; exact uh HFIT) (ZcB (uh HA1).1) (fun v hv=>Cli.one v hv) rfl ?_
          intro w10 hb10 hg10
          have HX10:Hid (w10.ownsRow base 65 41 (.slice (some ⟨gx,0,none⟩) d3.X.length cx) (d3.X.set ys.length ra.c).length ((d3.X.set ys.length ra.c).flatMap Cli.cs)):=jd (by
            have h:=Zc6 (cs:=Cli.cs) (by decide) (fun x hx=>Cli.len ((uh OKn).xok x hx).1) (uh HK) (Cli.len (uh HA1).1) hgx hsx hnx hmx rfl (uh HTX) hb10
            rw [List.length_set]; exact h)
          have hgx10:w9.grownBy w10 (Value.slice (some ⟨gx,0,none⟩) d3.X.length cx).ownBlock:=hg10
          have SI10:=jd ((uh SI9).setX hgb hgx10 (uh HX10) rfl)
          have hu10:ra.c.user.length≤17:=by rw [(uh HA1).2.1]; exact ((uh OKn).xok r.c (List.mem_of_getElem? (uh HK))).2
          have ST10:Hid (ST w w10 base B g gw U0 C0 (kx+1) (kp+1+1) (kn+1) { d3 with X:=d3.X.set ys.length ra.c }):=jd ⟨_,_,_,_,_,_,uh SI10,(uh OKn).setX (uh HA1).1 hu10,uh HU,uh HC⟩
          have HVA10:=jd (World.ownsRow.kept (uh HVA) hg10 (.inr (Zad (uh HVA) (uh HBX9) (by decide))))
          clear hb10 hg10 hgx10 hu10
          refine hK.out _ _ (uh SI10).wd.blk (fun _=>?_)
          clear hK K
          try simp only [Act.put]
          refine tq 30 rfl (uh SI10).wd.blk ?_
          refine tDz ?_
          go_wp2_with fail
          go_meet
          exact ⟨ra.b,(uh HA1).2.2,uh HVA10,_,uh ST10⟩
        case rest =>
          obtain ⟨w9,rfl⟩ :∃w9:World,w9=wc:=⟨_,rfl⟩
          obtain ⟨bs,hbs,hvb,d4,h9⟩:=hcut
          have ST9:=jd h9
          have HVB9:=jd hvb
          have HBS:=jd hbs
          clear hbs
          obtain ⟨A10,c10,hv10,_,_⟩:=Zac hvb
          subst hv10
          clear h9 ST8 hvb
          obtain ⟨As,cs,Au,cu,Ac,cc,Ax,cx,Ap,cp,V,si,ok,hU,hC⟩:=(uh ST9).open_
          have SI9:=jd si
          have OK9:=jd ok
          have HU:=jd hU
          have HC:=jd hC
          have hpl9:d4.P.length≤1000:=by have:=ok.plen; omega
          clear si ok hU hC
          go_wp2_with fail
          refine (add_cx w9 base gw d4 _ _ _ _ _ V (uh SI9).wd hbw hpl9 _ bs (uh HVB9)).mono ?_
          rintro e w10 hadd
          obtain rfl:=hadd.1
          obtain ⟨vp10,V10,hsi10⟩:=(uh SI9).add hgb hadd
          have ST10:Hid (∃ d5,ST w w10 base B g gw U0 C0 (kx+1) (kp+3) (kn+1) d5):=jd ⟨_,_,_,_,_,_,_,hsi10,(uh OK9).pushP (by rw [uh HBS]; omega) (by rw [uh HBS]; omega),uh HU,uh HC⟩
          clear hadd hsi10
          go_wp2_with fail
          go_end0
          exact ⟨rfl,uh ST10⟩
   case false =>
    as_aux_lemma =>
    have hxpos:=uh HBB rfl
    clear HBB
    go_upto_region 13 with fail
    go_cut [11] from 165 to 179 (fun v W3=>∃ k:Nat,v=.int .i64 (k:Int)∧k < d1.X.length∧ST w W3 base B g gw U0 C0 kx kp (kn+1) d1)
    case first =>
     as_aux_lemma =>
     obtain ⟨As,cs,Au,cu,Ac,cc,Ax,cx,Ap,cp,V,si,ok,hU,hC⟩:=(uh ST2).open_
     have SIn:=jd si
     have OKn:=jd ok
     have HU:=jd hU
     have HC:=jd hC
     have hszW:=si.size
     have hgW:=si.gsz
     have hWN:=SI.bw si
     have HW:=jd hWN
     have HJ0:=jd ((CJ.start si.c:CJ w2 B g w2).drew)
     clear si ok hU hC hWN
     have hS0:CJ w2 B g w2.drew:=uh HJ0
     have hx2:d1.X.length≤1000:=by have:=(uh OKn).xlen; omega
     have hl1:(1:Int)≤(d1.X.length:Int):=by omega
     have hl2:(d1.X.length:Int)≤1000:=by omega
     have hw0:IntKind.i64.wrap ((d1.X.length:Int) - 1)=(d1.X.length:Int) - 1:=IntWalk.i64_in _ (by omega)
     obtain ⟨m2,hm2⟩ :∃m2:Int,m2=if (2:Int) < (d1.X.length:Int) then 2 else (d1.X.length:Int):=⟨_,rfl⟩
     have hm2b:m2≤(d1.X.length:Int)∧1≤m2∧m2≤2:=by rw [hm2]; split<;>omega
     have hmin:(if (2:Int) < (d1.X.length:Int) then 2 else (d1.X.length:Int))=m2:=hm2.symm
     clear hm2
     refine wp_region_noPanic (wp_region_held_drew (S:=fun wz=>CJ w2 B g wz) (by kernel_rfl) hS0 (fun _=>?_))
     refine tq 0 rfl hS0 ?_
     refine tq 1 rfl hS0 ?_
     refine tq 2 rfl hS0 ?_
     refine tJz (v:=.slice Ax d1.X.length cx) 3 rfl (Or.inl ⟨by rfl,fun wz hSw=>?_⟩) hS0 ?_
     ·have hq:wz.cell? ⟨gw,4,none⟩=some (.slice Ax d1.X.length cx):=(uh HW wz hSw).cell 4
      go_simp
     refine tq 4 rfl hS0 ?_
     refine tq 5 rfl hS0 ?_
     refine tq 6 rfl hS0 ?_
     refine tq 7 rfl hS0 ?_
     refine tq 8 rfl hS0 ?_
     refine tq 9 rfl hS0 ?_
     refine tJz (v:=.slice Ax d1.X.length cx) 10 rfl (Or.inl ⟨by rfl,fun wz hSw=>?_⟩) hS0 ?_
     ·have hq:wz.cell? ⟨gw,4,none⟩=some (.slice Ax d1.X.length cx):=(uh HW wz hSw).cell 4
      go_simp
     refine tq 11 rfl hS0 ?_
     refine tq 12 rfl hS0 ?_
     refine tCz 13 rfl fun K hK=>?_
     go_simp
     refine (Zav w2.drew B g m2 hS0.2 (by omega) (by omega)).mono ?_
     rintro e wa0 ⟨x178,rfl,x178a,x178b,hcN,hgN⟩
     have hS0_:CJ w2 B g wa0:=hS0.next hcN hgN
     obtain ⟨k,hk⟩ :∃k:Nat,(d1.X.length:Int) - 1 - x178=(k:Int):=⟨((d1.X.length:Int) - 1 - x178).toNat,by omega⟩
     have hkl:k < d1.X.length:=by omega
     have hwk:IntKind.i64.wrap (k:Int)=(k:Int):=IntWalk.i64_in _ (by omega)
     clear hmin
     clear hcN hgN x178b
     refine hK.out _ _ hS0_ (fun _=>?_)
     clear hK K
     try simp only [Act.put,zA,zB,zC]
     refine tJz (v:=.int .i64 (k:Int)) 14 rfl (Or.inl ⟨by rfl,fun wz hSw=>?_⟩) hS0_ ?_
     ·skip
      go_simp
     refine tq 15 rfl hS0_ ?_
     refine tDz ?_
     have ST3:Hid (ST w wa0 base B g gw U0 C0 kx kp (kn+1) d1):=jd ⟨_,_,_,_,_,_,(uh SIn).cj hS0_,uh OKn,uh HU,uh HC⟩
     clear hk hwk hw0
     go_wp2_with fail
     go_meet
     exact ⟨k,rfl,hkl,uh ST3⟩
    case rest =>
     obtain ⟨w3,rfl⟩ :∃w3:World,w3=wc:=⟨_,rfl⟩
     obtain ⟨k,rfl,hkl,h3⟩:=hcut
     have ST3:=jd h3
     clear h3 ST2 hxpos
     go_upto_region 14 with fail
     go_cut [12] from 180 to 186 (fun v W4=>∃ (q:Nat) (x:Cli),v=.pointer (some ⟨q,0,none⟩)∧w.heap.size≤q∧Blk W4 q 65 x.cs.toArray∧d1.X[k]?=some x∧x.Ok∧x.user.length≤17∧ST w W4 base B g gw U0 C0 kx kp (kn+1) d1)
     case first =>
      as_aux_lemma =>
      obtain ⟨As,cs,Au,cu,Ac,cc,Ax,cx,Ap,cp,V,si,ok,hU,hC⟩:=(uh ST3).open_
      have SIn:=jd si
      have OKn:=jd ok
      have HU:=jd hU
      have HC:=jd hC
      have hszW:=si.size
      have hgW:=si.gsz
      have hWN:=SI.bw si
      have HW:=jd hWN
      have HJ0:=jd ((CJ.start si.c:CJ w3 B g w3).drew)
      clear si ok hU hC hWN
      obtain ⟨x,hk⟩ :∃x,d1.X[k]?=some x:=⟨_,List.getElem?_eq_getElem hkl⟩
      obtain ⟨hxo,hxu⟩:=(uh OKn).xok x (List.mem_of_getElem? hk)
      obtain ⟨gx,cur,hA,hgx,hbx,hsx,hnx,hmx,_,htx,hfit,hrg⟩:=own_idx (uh SIn).wd.m.x (fun x hx=>Cli.len ((uh OKn).xok x hx).1) hk
      subst hA
      have HRG:=jd hrg
      have HXO:=jd hxo
      have HXU:=jd hxu
      have HK:=jd hk
      have c4:w3.cell? ⟨gw,4,none⟩=some (.slice (some ⟨gx,0,none⟩) d1.X.length cx):=(uh SIn).wd.blk.cell 4
      have hk2:(k:Int) < (d1.X.length:Int):=by omega
      have hx2:(d1.X.length:Int)≤1000:=by have:=(uh OKn).xlen; omega
      have hgx3:gx < w3.heap.size:=hbx.lt
      obtain ⟨dk,hdk,hdr⟩:=Ze1
      have HDK:=jd hdk
      have HDR:=jd hdr
      obtain ⟨W4,hW4⟩ :∃W4,w3.alloc (.cells zCli.cs.toArray 65)=W4:=⟨_,rfl⟩
      have hbl:Below w3.heap.size w3 W4:=hW4 ▸ (Below.refl _ _).alloc (Nat.le_refl _) _
      have SI4:=jd ((uh SIn).below hbl)
      have HB4:=jd (hW4 ▸ Blk.new w3 _ _:Blk W4 w3.heap.size 65 zCli.cs.toArray)
      have HW4:=jd hW4
      clear hk hrg hxo hxu hbx htx hdk hdr hbl hW4
      go_wp2_with (first
       | (refine wpList_load_mid rfl 65 (.tmp 185) rfl gx (k*41) rfl x.cs dk (uh HRG) (uh HDK) (uh HDR) (ZcB (uh HXO)) ?_)
       |(refine Zag rfl 65 rfl zCli.cs.toArray w3.heap.size rfl (Zaz _) ?_
         rw [uh HW4])
       |(refine Zaa rfl 65 (.tmp 12) (.tmp 186) rfl w3.heap.size 65 _ x.cs.toArray rfl rfl (uh HB4) (Cli.size_eq (uh HXO)) (Zai (uh HXO)) (fun v hv=>Cli.one v (by simpa using hv)) ?_
         intro w5 hb5 hg5
         have hng5:(Value.slice (some ⟨gx,0,none⟩) d1.X.length cx).ownBlock≠some w3.heap.size:=fun e=>by
           have e9:gx=w3.heap.size:=by simpa [Value.ownBlock] using e
           omega
         have ST5:Hid (ST w w5 base B g gw U0 C0 kx kp (kn+1) d1):=jd ⟨_,_,_,_,_,_,(uh SI4).storeC (uh HB4) hg5 (by omega) hgl hng5,uh OKn,uh HU,uh HC⟩
         have HB5:=jd hb5
         clear hb5 hg5)
       | fail)
      go_meet
      exact ⟨w3.heap.size,x,rfl,by omega,uh HB5,uh HK,uh HXO,uh HXU,uh ST5⟩
     case rest =>
      obtain ⟨w4,rfl⟩ :∃w4:World,w4=wc:=⟨_,rfl⟩
      obtain ⟨q12,x,rfl,hq12,hb12,hk,hxo,hxu,h4⟩:=hcut
      have ST4:=jd h4
      have HB4:=jd hb12
      have HK:=jd hk
      have HXO:=jd hxo
      have HXU:=jd hxu
      clear h4 ST3 hb12 hk hxo hxu
      go_wp2_with fail
      refine (Zav w4 B g 6 (uh ST4).codes (by decide) (by decide)).mono ?_
      rintro e w5 ⟨r,rfl,hr0,hr1,hc5,hg5⟩
      have hn12:q12≠g:=by omega
      have HB5:=jd ((uh HB4).gb hg5)
      have ST5:=jd ((uh ST4).cj ⟨hg5,hc5⟩)
      clear hc5 hg5 ST4 HB4
      have h6:(r=0∨r=1)∨r=2∨r=3∨r=4∨r=5:=by omega
      rcases h6 with h6 | rfl | rfl | rfl | rfl
      ·rcases h6 with rfl | rfl
       all_goals
        as_aux_lemma =>
        go_upto_region 18 with fail
        go_cut [13,14,15] from 189 to 207 (fun p b e W6=>∃ (q:Nat) (rs:SRes) (vS:Value),p=.pointer (some ⟨q,0,none⟩)∧Blk W6 q 29 #[vS,.int .u32 (rs.nx:Int)]∧PFine rs∧e=.int .i64 rs.code∧W6.ownsRow base 50 26 vS rs.L.length (Zat rs.L)∧W6.ownsRow base 5 1 b rs.bs.length (bsV rs.bs)∧Blk W6 q12 65 x.cs.toArray∧ST w W6 base B g gw U0 C0 kx kp (kn+1) d1)
        case first =>
          as_aux_lemma =>
          obtain ⟨As,cs,Au,cu,Ac,cc,Ax,cx,Ap,cp,V,si,ok,hU,hC⟩:=(uh ST5).open_
          have SIn:=jd si
          have OKn:=jd ok
          have HU:=jd hU
          have HC:=jd hC
          have hszW:=si.size
          have hgW:=si.gsz
          have hWN:=SI.bw si
          have HW:=jd hWN
          have HJ0:=jd ((CJ.start si.c:CJ w5 B g w5).drew)
          clear si ok hU hC hWN
          have hub:base≤w5.heap.size:=by have:=(uh SIn).wd.gt; omega
          have hS0:CJ w5 B g w5.drew:=uh HJ0
          have HTAB:=jd (uh OKn).tab
          have hL4:=(ZaZ.1 (uh HTAB).val).1
          have HWS:=jd (fun wz (hz:CJ w5 B g wz)=>(Zb1 (uh HW wz hz):wz.rangeAt gw 0 [.slice As d1.L.length cs,.int .u32 (d1.nx:Int)]))
          have HBX:=jd (fun wz (hz:CJ w5 B g wz)=>hz.blk (uh HB5) hn12)
          have HV12:Hid (Blk w5.drew q12 65 x.cs.toArray):=HB5
          refine wp_region_noPanic (wp_region_held_drew (S:=fun wz=>CJ w5 B g wz) (by kernel_rfl) hS0 (fun _=>?_))
          refine tq 0 rfl hS0 ?_
          refine tq 1 rfl hS0 ?_
          refine tq 2 rfl hS0 ?_
          refine tJz (v:=.agg [.slice As d1.L.length cs,.int .u32 (d1.nx:Int)].toArray) 3 rfl (yieldsIf_load_mid (by rfl) 29 (.tmp 195) rfl gw 0 rfl [.slice As d1.L.length cs,.int .u32 (d1.nx:Int)] _ (uh HWS) Tryz.underlying29 rfl (by kernel_rfl)) hS0 ?_
          refine tq 4 rfl hS0 ?_
          refine tq 5 rfl hS0 ?_
          refine tq 7 rfl hS0 ?_
          refine tq 8 rfl hS0 ?_
          refine tq 9 rfl hS0 ?_
          refine tJz (v:=.int .i64 d1.now) 10 rfl (Or.inl ⟨by rfl,fun wz hSw=>?_⟩) hS0 ?_
          · have hq:wz.cell? ⟨gw,6,none⟩=some (.int .i64 d1.now):=(uh HW wz hSw).cell 6
            go_simp
          refine Zbk (i:=6) (j:=16) rfl rfl (by kernel_rfl) (fun K hK=>?_) (fun K hK=>?_)
          · rw [if_pos (by rfl)]
            go_simp
            refine (ZdV w5.drew B g base gw d1 _ _ _ _ _ V hS0.2 ((uh SIn).cj hS0).wd (uh OKn).pok (by have:=(uh OKn).plen; omega)).mono ?_
            rintro e wa0 hpost
            obtain ⟨v,bp,he,bp0,bp1,ho,hjN⟩:=hpost
            obtain ⟨Abp,cbp,hvb,hnbp,hmbp⟩:=Zac ho
            subst hvb he
            have HPK:=jd (Zak ho (Nat.le_trans hub hS0.size))
            have hgN_:=hjN.1
            have hcN_:=hjN.2
            have hgN:(w5.drew).grownBy wa0 (some g):=hgN_
            have hS0_:CJ w5 B g wa0:=hS0.next hcN_ hgN
            replace HV12:=jd ((uh HV12).gb hgN)
            clear hgN hgN_ hcN_ ho hjN
            refine hK.out _ _ hS0_ (fun _=>?_)
            clear hK K
            try simp only [Act.put,zA,zB,zC]
            refine Zbk (i:=11) (j:=16) rfl rfl (by kernel_rfl) (fun K hK=>?_) (fun K hK=>?_)
            · rw [if_pos (by rfl)]
              go_simp
              refine (Zd5 wa0 As d1.L.length cs d1.L d1.nx (Zbp ((uh SIn).cj hS0_).wd.m.s (uh HTAB).ok) (by omega) (uh HTAB).nx Abp bp.length cbp bp (Zaj.of_own (uh HPK)) hnbp hmbp d1.now _ rfl).mono ?_
              rintro e wa1 hpost
              obtain ⟨v,he,hv,hblN⟩:=hpost.v (Zci _ _ _ _)
              obtain ⟨vS,vb,hv1,hv2,hv3⟩:=hv
              subst hv1 he
              obtain ⟨rs,hr⟩ :∃rs,ZbN d1.L d1.nx bp d1.now=rs:=⟨_,rfl⟩
              have hcf:PFine rs:=⟨hr ▸ Zci _ _ _ _,fun h0=>by
                obtain ⟨h1,h2,_⟩:=(uh HTAB).proof hr h0
                exact ⟨h1,by omega,by omega⟩⟩
              rw [hr] at hv2 hv3 ⊢
              have HVS:=jd (Zak hv2 (Nat.le_trans hub hS0_.size))
              have HVC:=jd (Zak hv3 (Nat.le_trans hub hS0_.size))
              have HCF2:=jd hcf
              have hgN_:(wa0).grownBy wa1 (some g):=Zah hblN _
              have hcN_:Zaq wa1 B g:=hS0_.2.below_ hblN
              have hgN:(wa0).grownBy wa1 (some g):=hgN_
              have hS1_:CJ w5 B g wa1:=hS0_.next hcN_ hgN
              replace HV12:=jd ((uh HV12).gb hgN)
              replace HPK:=jd (Zap (uh HPK) hgN (fun e=>by have:=Zaw (uh HPK) g e; omega))
              clear hgN hgN_ hcN_ hv2 hv3 hblN hcf hpost hr
              refine hK.out _ _ hS1_ (fun _=>?_)
              clear hK K
              try simp only [Act.put,zA,zB,zC]
              refine tq 12 rfl hS1_ ?_
              refine tq 13 rfl hS1_ ?_
              refine tq 14 rfl hS1_ ?_
              refine tq 15 rfl hS1_ ?_
              refine tOz 16 rfl fun K hK=>?_
              refine Zas (by rfl) 29 rfl #[.slice none 0 0,.int .u32 0] (ZaB _) ?_
              obtain ⟨wa2,hwn⟩ :∃wn,(wa1).alloc (.cells #[.slice none 0 0,.int .u32 0] 29)=wn:=⟨_,rfl⟩
              have hblN:Below (wa1).heap.size (wa1) wa2:=hwn ▸ (Below.refl _ _).alloc (Nat.le_refl _) _
              have hgN:(wa1).grownBy wa2 (some g):=Zah hblN _
              have hS2_:CJ w5 B g wa2:=hS1_.next (hS1_.2.below_ hblN) hgN
              have HBV':Blk wa2 (wa1).heap.size 29 #[.slice none 0 0,.int .u32 0]:=hwn ▸ Blk.new _ _ _
              have qz:w5.heap.size≤(wa1).heap.size:=hS1_.size
              obtain ⟨q,qe⟩ :∃q,(wa1).heap.size=q:=⟨_,rfl⟩
              rw [hwn,qe]
              rw [qe] at HBV' qz
              have HBV:=jd HBV'
              have qg:g < q:=by have:=(uh SIn).gsz; omega
              replace HV12:=jd ((uh HV12).gb hgN)
              replace HPK:=jd (Zap (uh HPK) hgN (fun e=>by have:=Zaw (uh HPK) g e; omega))
              replace HVS:=jd (Zap (uh HVS) hgN (fun e=>by have:=Zaw (uh HVS) g e; omega))
              replace HVC:=jd (Zap (uh HVC) hgN (fun e=>by have:=Zaw (uh HVC) g e; omega))
              clear hwn hblN hgN HBV' qe
              refine hK.out _ _ hS2_ (fun _=>?_)
              clear hK K
              try simp only [Act.put,zA,zB,zC]
              refine tOz 17 rfl fun K hK=>?_
              refine Zaf (by rfl) 29 (.tmp 13) (.tmp 205) rfl q 29 _ #[vS,.int .u32 (rs.nx:Int)] rfl rfl (uh HBV) rfl (by kernel_rfl) (by intro v hv; simp at hv; rcases hv with rfl | rfl; exact Za6 (uh HVS); rfl) ?_
              intro wa3 hb4 hg4
              have hS3_:CJ w5 B g wa3:=hS2_.later (uh SIn).gsz ((Below.refl _ _).grown hg4 hS2_.size (fun j hj=>by injection hj with hj; omega))
              have ST6:Hid (ST w wa3 base B g gw U0 C0 kx kp (kn+1) d1):=jd ⟨_,_,_,_,_,_,(uh SIn).cj hS3_,uh OKn,uh HU,uh HC⟩
              have HVS4:=jd (Zap (uh HVS) hg4 (Zad (uh HVS) (uh HBV) (by decide)))
              have HV124:=jd ((uh HV12).grown hg4 (fun e=>(uh HV12).ne_ (uh HBV) (by decide) (by injection e)))
              have HVC4:=jd (Zap (uh HVC) hg4 (Zad (uh HVC) (uh HBV) (by decide)))
              have HB6:=jd hb4
              clear hb4 hg4
              refine hK.out _ _ hS3_ (fun _=>?_)
              clear hK K
              try simp only [Act.put]
              refine tq 18 rfl hS3_ ?_
              refine tq 19 rfl hS3_ ?_
              refine tDz ?_
              go_wp2_with fail
              go_meet
              exact ⟨q,rs,vS,rfl,uh HB6,uh HCF2,rfl,uh HVS4,uh HVC4,uh HV124,uh ST6⟩
            · refine Zas (by rfl) 29 rfl #[.slice none 0 0,.int .u32 0] (ZaB _) ?_
              obtain ⟨wa1,hwn⟩ :∃wn,(wa0).alloc (.cells #[.slice none 0 0,.int .u32 0] 29)=wn:=⟨_,rfl⟩
              have hblN:Below (wa0).heap.size (wa0) wa1:=hwn ▸ (Below.refl _ _).alloc (Nat.le_refl _) _
              have hgN:(wa0).grownBy wa1 (some g):=Zah hblN _
              have hS1_:CJ w5 B g wa1:=hS0_.next (hS0_.2.below_ hblN) hgN
              have HBV':Blk wa1 (wa0).heap.size 29 #[.slice none 0 0,.int .u32 0]:=hwn ▸ Blk.new _ _ _
              have qz:w5.heap.size≤(wa0).heap.size:=hS0_.size
              obtain ⟨q,qe⟩ :∃q,(wa0).heap.size=q:=⟨_,rfl⟩
              rw [hwn,qe]
              rw [qe] at HBV' qz
              have HBV:=jd HBV'
              have qg:g < q:=by have:=(uh SIn).gsz; omega
              replace HV12:=jd ((uh HV12).gb hgN)
              replace HPK:=jd (Zap (uh HPK) hgN (fun e=>by have:=Zaw (uh HPK) g e; omega))
              clear hwn hblN hgN HBV' qe
              refine hK.out _ _ hS1_ (fun _=>?_)
              clear hK K
              try simp only [Act.put,zA,zB,zC]
              refine tCz 11 rfl fun K hK=>?_
              go_simp
              refine (Zd5 wa1 As d1.L.length cs d1.L d1.nx (Zbp ((uh SIn).cj hS1_).wd.m.s (uh HTAB).ok) (by omega) (uh HTAB).nx Abp bp.length cbp bp (Zaj.of_own (uh HPK)) hnbp hmbp d1.now _ rfl).mono ?_
              rintro e wa2 hpost
              obtain ⟨v,he,hv,hblN⟩:=hpost.v (Zci _ _ _ _)
              obtain ⟨vS,vb,hv1,hv2,hv3⟩:=hv
              subst hv1 he
              obtain ⟨rs,hr⟩ :∃rs,ZbN d1.L d1.nx bp d1.now=rs:=⟨_,rfl⟩
              have hcf:PFine rs:=⟨hr ▸ Zci _ _ _ _,fun h0=>by
                obtain ⟨h1,h2,_⟩:=(uh HTAB).proof hr h0
                exact ⟨h1,by omega,by omega⟩⟩
              rw [hr] at hv2 hv3 ⊢
              have HVS:=jd (Zak hv2 (Nat.le_trans hub hS1_.size))
              have HVC:=jd (Zak hv3 (Nat.le_trans hub hS1_.size))
              have HCF2:=jd hcf
              have hgN_:(wa1).grownBy wa2 (some g):=Zah hblN _
              have hcN_:Zaq wa2 B g:=hS1_.2.below_ hblN
              have hgN:(wa1).grownBy wa2 (some g):=hgN_
              have hS2_:CJ w5 B g wa2:=hS1_.next hcN_ hgN
              replace HV12:=jd ((uh HV12).gb hgN)
              replace HPK:=jd (Zap (uh HPK) hgN (fun e=>by have:=Zaw (uh HPK) g e; omega))
              replace HBV:=jd ((uh HBV).gb hgN)
              clear hgN hgN_ hcN_ hv2 hv3 hblN hcf hpost hr
              refine hK.out _ _ hS2_ (fun _=>?_)
              clear hK K
              try simp only [Act.put,zA,zB,zC]
              refine tq 12 rfl hS2_ ?_
              refine tq 13 rfl hS2_ ?_
              refine tq 14 rfl hS2_ ?_
              refine tq 15 rfl hS2_ ?_
              refine tOz 17 rfl fun K hK=>?_
              refine Zaf (by rfl) 29 (.tmp 13) (.tmp 205) rfl q 29 _ #[vS,.int .u32 (rs.nx:Int)] rfl rfl (uh HBV) rfl (by kernel_rfl) (by intro v hv; simp at hv; rcases hv with rfl | rfl; exact Za6 (uh HVS); rfl) ?_
              intro wa3 hb4 hg4
              have hS3_:CJ w5 B g wa3:=hS2_.later (uh SIn).gsz ((Below.refl _ _).grown hg4 hS2_.size (fun j hj=>by injection hj with hj; omega))
              have ST6:Hid (ST w wa3 base B g gw U0 C0 kx kp (kn+1) d1):=jd ⟨_,_,_,_,_,_,(uh SIn).cj hS3_,uh OKn,uh HU,uh HC⟩
              have HVS4:=jd (Zap (uh HVS) hg4 (Zad (uh HVS) (uh HBV) (by decide)))
              have HV124:=jd ((uh HV12).grown hg4 (fun e=>(uh HV12).ne_ (uh HBV) (by decide) (by injection e)))
              have HVC4:=jd (Zap (uh HVC) hg4 (Zad (uh HVC) (uh HBV) (by decide)))
              have HB6:=jd hb4
              clear hb4 hg4
              refine hK.out _ _ hS3_ (fun _=>?_)
              clear hK K
              try simp only [Act.put]
              refine tq 18 rfl hS3_ ?_
              refine tq 19 rfl hS3_ ?_
              refine tDz ?_
              go_wp2_with fail
              go_meet
              exact ⟨q,rs,vS,rfl,uh HB6,uh HCF2,rfl,uh HVS4,uh HVC4,uh HV124,uh ST6⟩
          · refine Zas (by rfl) 29 rfl #[.slice none 0 0,.int .u32 0] (ZaB _) ?_
            obtain ⟨wa0,hwn⟩ :∃wn,(w5.drew).alloc (.cells #[.slice none 0 0,.int .u32 0] 29)=wn:=⟨_,rfl⟩
            have hblN:Below (w5.drew).heap.size (w5.drew) wa0:=hwn ▸ (Below.refl _ _).alloc (Nat.le_refl _) _
            have hgN:(w5.drew).grownBy wa0 (some g):=Zah hblN _
            have hS0_:CJ w5 B g wa0:=hS0.next (hS0.2.below_ hblN) hgN
            have HBV':Blk wa0 (w5.drew).heap.size 29 #[.slice none 0 0,.int .u32 0]:=hwn ▸ Blk.new _ _ _
            have qz:w5.heap.size≤(w5.drew).heap.size:=hS0.size
            obtain ⟨q,qe⟩ :∃q,(w5.drew).heap.size=q:=⟨_,rfl⟩
            rw [hwn,qe]
            rw [qe] at HBV' qz
            have HBV:=jd HBV'
            have qg:g < q:=by have:=(uh SIn).gsz; omega
            replace HV12:=jd ((uh HV12).gb hgN)
            clear hwn hblN hgN HBV' qe
            refine hK.out _ _ hS0_ (fun _=>?_)
            clear hK K
            try simp only [Act.put,zA,zB,zC]
            refine tCz 6 rfl fun K hK=>?_
            go_simp
            refine (ZdV wa0 B g base gw d1 _ _ _ _ _ V hS0_.2 ((uh SIn).cj hS0_).wd (uh OKn).pok (by have:=(uh OKn).plen; omega)).mono ?_
            rintro e wa1 hpost
            obtain ⟨v,bp,he,bp0,bp1,ho,hjN⟩:=hpost
            obtain ⟨Abp,cbp,hvb,hnbp,hmbp⟩:=Zac ho
            subst hvb he
            have HPK:=jd (Zak ho (Nat.le_trans hub hS0_.size))
            have hgN_:=hjN.1
            have hcN_:=hjN.2
            have hgN:(wa0).grownBy wa1 (some g):=hgN_
            have hS1_:CJ w5 B g wa1:=hS0_.next hcN_ hgN
            replace HV12:=jd ((uh HV12).gb hgN)
            replace HBV:=jd ((uh HBV).gb hgN)
            clear hgN hgN_ hcN_ ho hjN
            refine hK.out _ _ hS1_ (fun _=>?_)
            clear hK K
            try simp only [Act.put,zA,zB,zC]
            refine tCz 11 rfl fun K hK=>?_
            go_simp
            refine (Zd5 wa1 As d1.L.length cs d1.L d1.nx (Zbp ((uh SIn).cj hS1_).wd.m.s (uh HTAB).ok) (by omega) (uh HTAB).nx Abp bp.length cbp bp (Zaj.of_own (uh HPK)) hnbp hmbp d1.now _ rfl).mono ?_
            rintro e wa2 hpost
            obtain ⟨v,he,hv,hblN⟩:=hpost.v (Zci _ _ _ _)
            obtain ⟨vS,vb,hv1,hv2,hv3⟩:=hv
            subst hv1 he
            obtain ⟨rs,hr⟩ :∃rs,ZbN d1.L d1.nx bp d1.now=rs:=⟨_,rfl⟩
            have hcf:PFine rs:=⟨hr ▸ Zci _ _ _ _,fun h0=>by
              obtain ⟨h1,h2,_⟩:=(uh HTAB).proof hr h0
              exact ⟨h1,by omega,by omega⟩⟩
            rw [hr] at hv2 hv3 ⊢
            have HVS:=jd (Zak hv2 (Nat.le_trans hub hS1_.size))
            have HVC:=jd (Zak hv3 (Nat.le_trans hub hS1_.size))
            have HCF2:=jd hcf
            have hgN_:(wa1).grownBy wa2 (some g):=Zah hblN _
            have hcN_:Zaq wa2 B g:=hS1_.2.below_ hblN
            have hgN:(wa1).grownBy wa2 (some g):=hgN_
            have hS2_:CJ w5 B g wa2:=hS1_.next hcN_ hgN
            replace HV12:=jd ((uh HV12).gb hgN)
            replace HBV:=jd ((uh HBV).gb hgN)
            replace HPK:=jd (Zap (uh HPK) hgN (fun e=>by have:=Zaw (uh HPK) g e; omega))
            clear hgN hgN_ hcN_ hv2 hv3 hblN hcf hpost hr
            refine hK.out _ _ hS2_ (fun _=>?_)
            clear hK K
            try simp only [Act.put,zA,zB,zC]
            refine tq 12 rfl hS2_ ?_
            refine tq 13 rfl hS2_ ?_
            refine tq 14 rfl hS2_ ?_
            refine tq 15 rfl hS2_ ?_
            refine tOz 17 rfl fun K hK=>?_
            refine Zaf (by rfl) 29 (.tmp 13) (.tmp 205) rfl q 29 _ #[vS,.int .u32 (rs.nx:Int)] rfl rfl (uh HBV) rfl (by kernel_rfl) (by intro v hv; simp at hv; rcases hv with rfl | rfl; exact Za6 (uh HVS); rfl) ?_
            intro wa3 hb4 hg4
            have hS3_:CJ w5 B g wa3:=hS2_.later (uh SIn).gsz ((Below.refl _ _).grown hg4 hS2_.size (fun j hj=>by injection hj with hj; omega))
            have ST6:Hid (ST w wa3 base B g gw U0 C0 kx kp (kn+1) d1):=jd ⟨_,_,_,_,_,_,(uh SIn).cj hS3_,uh OKn,uh HU,uh HC⟩
            have HVS4:=jd (Zap (uh HVS) hg4 (Zad (uh HVS) (uh HBV) (by decide)))
            have HV124:=jd ((uh HV12).grown hg4 (fun e=>(uh HV12).ne_ (uh HBV) (by decide) (by injection e)))
            have HVC4:=jd (Zap (uh HVC) hg4 (Zad (uh HVC) (uh HBV) (by decide)))
            have HB6:=jd hb4
            clear hb4 hg4
            refine hK.out _ _ hS3_ (fun _=>?_)
            clear hK K
            try simp only [Act.put]
            refine tq 18 rfl hS3_ ?_
            refine tq 19 rfl hS3_ ?_
            refine tDz ?_
            go_wp2_with fail
            go_meet
            exact ⟨q,rs,vS,rfl,uh HB6,uh HCF2,rfl,uh HVS4,uh HVC4,uh HV124,uh ST6⟩
        case rest =>
          obtain ⟨w6,rfl⟩ :∃w6:World,w6=wc:=⟨_,rfl⟩
          obtain ⟨q13,rs,vS,rfl,hb6,hcf,rfl,hvs,hvc,hv12,h6⟩:=hcut
          have ST6:=jd h6
          have HB6:=jd hb6
          have HCF2:=jd hcf
          have HVS:=jd hvs
          have HVC:=jd hvc
          have HV12:=jd hv12
          clear h6 ST5 hb6 hcf hvs hvc HB5 hv12
          by_cases hs0:rs.code=0
          case neg =>
            have e0:(rs.code==0)=false:=by simp [hs0]
            go_wp2_with fail
            go_end0
            exact ⟨rfl,_,(uh ST6).le (by omega) (by omega) (by omega)⟩
          have e0:(rs.code==0)=true:=by simp [hs0]
          obtain ⟨htab,hbl0,hbl1⟩:=(uh HCF2).2 hs0
          have HTAB:=jd htab
          clear hs0 htab
          obtain ⟨As,cs,Au,cu,Ac,cc,Ax,cx,Ap,cp,V,si,ok,hU,hC⟩:=(uh ST6).open_
          have SIn:=jd si
          have OKn:=jd ok
          have HU:=jd hU
          have HC:=jd hC
          have hszW:=si.size
          have hgW:=si.gsz
          have hWN:=SI.bw si
          have HW:=jd hWN
          have HJ0:=jd ((CJ.start si.c:CJ w6 B g w6).drew)
          clear si ok hU hC hWN
          have HB0:=jd ((uh SIn).wd.blk)
          obtain ⟨Av,cv,hvv,_,_⟩:=Zac (uh HVS)
          subst hvv
          go_wp2_with (first
            | (refine wpList_load_row rfl 29 _ rfl q13 rfl 29 _ _ _ (uh HB6) Tryz.underlying29 rfl (by kernel_rfl) ?_)
            | (refine Zal rfl 29 (.tmp 213) (.tmp 211) rfl gw 0 37 _ (.agg #[.slice Av rs.L.length cv,.int .u32 (rs.nx:Int)]) [.slice Av rs.L.length cv,.int .u32 (rs.nx:Int)] [.slice Av rs.L.length cv,.int .u32 (rs.nx:Int),.slice Au d1.U.length cu,.slice Ac d1.C.length cc,.slice Ax d1.X.length cx,.slice Ap d1.P.length cp,.int .i64 d1.now] rfl rfl (uh HB0) rfl (by simp [ZaQ]) (by kernel_rfl) (oZz rfl rfl) rfl ?_
               intro w7 hb7 hg7
               have SI7:Hid (SI w w7 base B g gw { d1 with L:=rs.L,nx:=rs.nx } (.slice Av rs.L.length cv) (.slice Au d1.U.length cu) (.slice Ac d1.C.length cc) (.slice Ax d1.X.length cx) (.slice Ap d1.P.length cp) V):=jd ((uh SIn).put (by omega) hb7 hg7 ((uh SIn).wd.m.setS (uh HVS)))
               have OK7:=jd ((uh OKn).setS (uh HTAB))
               have HVC7:=jd (World.ownsRow.kept (uh HVC) hg7 (.inr (Zad (uh HVC) (uh HB0) (by decide))))
               have HV12_7:=jd ((uh HV12).grown hg7 (fun e=>(uh HV12).ne_ (uh HB0) (by decide) (by injection e)))
               clear hb7 hg7)
            | fail)
          have hpl7:d1.P.length≤1000:=by have:=(uh OKn).plen; omega
          obtain ⟨A9,c9,hv9,hn9,hm9⟩:=Zac (uh HVC7)
          subst hv9
          refine (add_cx w7 base gw { d1 with L:=rs.L,nx:=rs.nx } _ _ _ _ _ V (uh SI7).wd hbw hpl7 _ rs.bs (uh HVC7)).mono ?_
          rintro e w8 hadd
          obtain rfl:=hadd.1
          obtain ⟨vp8,V8,hsi8⟩:=(uh SI7).add hgb hadd
          obtain ⟨d2,hd2⟩ :∃d2:Wd,d2={ d1 with L:=rs.L,nx:=rs.nx,P:=d1.P++[rs.bs] }:=⟨_,rfl⟩
          have HD2:Hid (d2.X=d1.X):=jd (by rw [hd2])
          have SI8:Hid (SI w w8 base B g gw d2 (.slice Av rs.L.length cv) (.slice Au d2.U.length cu) (.slice Ac d2.C.length cc) (.slice Ax d2.X.length cx) vp8 V8):=jd (hd2 ▸ hsi8)
          have OK8:Hid (WdOk d2 kx (kp+1) (kn+1)):=jd (hd2 ▸ (uh OK7).pushP hbl0 hbl1)
          replace HU:Hid (d2.U=U0):=jd (by rw [hd2]; exact uh HU)
          replace HC:Hid (d2.C=C0):=jd (by rw [hd2]; exact uh HC)
          have HVC8:=jd (ZcM (uh HVC7) hadd ⟨_,(uh SI7).wd.blk⟩)
          have HV12_8:=jd (hadd.keep (uh HV12_7) ((uh HV12_7).ne_ (uh SI7).wd.blk (by decide)) (by decide))
          clear hadd hsi8 hd2 HW HJ0 SIn OKn SI7 OK7 HVC7 HB0 e0 ST6 HV12_7
          have hn12w:q12≠gw:=(uh HV12_8).ne_ (uh SI8).wd.blk (by decide)
          obtain ⟨ra,hra⟩ :∃ra,ZdL x rs.bs=ra:=⟨_,rfl⟩
          have HRA:=jd hra
          have hrao:ra.2.Ok:=by
            by_cases h0:ra.1=0
            · exact hra ▸ (acpt_fine (uh HXO) (by rw [hra]; exact h0)).1
            · have:=acpt_bad x rs.bs (by rw [hra]; exact h0)
              rw [hra] at this
              rw [this]
              exact Zau
          have HRAO:=jd hrao
          clear hra hrao
          go_upto_region 22 with fail
          go_cut [16,17] from 217 to 222 (fun p e W9=>∃ q:Nat,p=.pointer (some ⟨q,0,none⟩)∧e=.int .i64 ra.1∧Blk W9 q 65 ra.2.cs.toArray∧STq w W9 base B g gw U0 C0 kx (kp+1) (kn+1) d2 q)
          case first =>
            as_aux_lemma =>
            have HOKx:=uh HXO
            go_wp2_with (first
              | (refine wpList_load_row rfl 65 _ rfl q12 rfl 65 _ _ _ (uh HV12_8) Tryz.underlying65 rfl (Zai (uh HXO)) ?_)
              | fail)
            refine (racpt_sx w8 x (uh HXO) A9 rs.bs.length c9 rs.bs (Zaj.of_own (uh HVC8)) hn9 hm9 _ (uh HRA)).mono ?_
            rintro e w9 ⟨rfl,hb9⟩
            have SI9:=jd ((uh SI8).below hb9)
            have hs9:w8.heap.size≤w9.heap.size:=hb9.size
            obtain ⟨W10,hW10⟩ :∃W10,w9.alloc (.cells zCli.cs.toArray 65)=W10:=⟨_,rfl⟩
            have hbl:Below w9.heap.size w9 W10:=hW10 ▸ (Below.refl _ _).alloc (Nat.le_refl _) _
            have SI10:=jd ((uh SI9).below hbl)
            have HB10:=jd (hW10 ▸ Blk.new w9 _ _:Blk W10 w9.heap.size 65 zCli.cs.toArray)
            have HW10:=jd hW10
            have hxlt:∀ j,(Value.slice Ax d2.X.length cx).ownBlock=some j→j < w8.heap.size:=fun j hj=>((uh SI8).wd.m.x.lt j hj).2
            clear hb9 hW10 hbl
            go_wp2_with (first
              | (refine Zag rfl 65 rfl zCli.cs.toArray w9.heap.size rfl (Zaz _) ?_
                 rw [uh HW10])
              | (refine Zaa rfl 65 (.tmp 16) (.tmp 221) rfl w9.heap.size 65 _ ra.2.cs.toArray rfl rfl (uh HB10) (Cli.size_eq (uh HRAO)) (Zai (uh HRAO)) (fun v hv=>Cli.one v (by simpa using hv)) ?_
                 intro w11 hb11 hg11
                 have hnx11:(Value.slice Ax d2.X.length cx).ownBlock≠some w9.heap.size:=fun e=>by have:=hxlt _ e; omega
                 have ST11:Hid (STq w w11 base B g gw U0 C0 kx (kp+1) (kn+1) d2 w9.heap.size):=jd ⟨_,_,_,_,_,_,(uh SI10).storeC (uh HB10) hg11 (by have:=(uh SI8).size; omega) hgl hnx11,uh OK8,uh HU,uh HC,hnx11⟩
                 have HB11:=jd hb11
                 clear hb11 hg11)
              | fail)
            go_meet
            exact ⟨w9.heap.size,rfl,rfl,uh HB11,uh ST11⟩
          case rest =>
            obtain ⟨w9,rfl⟩ :∃w9:World,w9=wc:=⟨_,rfl⟩
            obtain ⟨q16,rfl,rfl,hb9,h9⟩:=hcut
            have ST9:=jd h9
            have HB9:=jd hb9
            clear h9 hb9 SI8 OK8 HU HC
            by_cases ha0:ra.1=0
            case neg =>
              have e1:(ra.1==0)=false:=by simp [ha0]
              go_wp2_with fail
              go_end0
              exact ⟨rfl,_,(uh ST9).st.le (by omega) (by omega) (by omega)⟩
            have e1:(ra.1==0)=true:=by simp [ha0]
            have hru:ra.2.user=x.user:=by
              have:=(acpt_fine (uh HXO) (by rw [uh HRA]; exact ha0)).2
              rwa [uh HRA] at this
            have HRU:=jd hru
            have HKX:Hid (d2.X[k]?=some x):=jd (by rw [uh HD2]; exact uh HK)
            clear ha0 hru
            go_upto_region 24 with fail
            clear e1
            obtain ⟨As,cs,Au,cu,Ac,cc,Ax,cx,Ap,cp,V,si,ok,hU,hC,hnyq⟩:=(uh ST9).open_
            have SIn:=jd si
            have OKn:=jd ok
            have HU:=jd hU
            have HC:=jd hC
            have hszW:=si.size
            have hgW:=si.gsz
            have hWN:=SI.bw si
            have HW:=jd hWN
            have HJ0:=jd ((CJ.start si.c:CJ w9 B g w9).drew)
            clear si ok hU hC hWN
            obtain ⟨gx,cur,hA,hgx,hbx,hsx,hnx,hmx,_,htx,hfit,_⟩:=own_idx (uh SIn).wd.m.x (fun x hx=>Cli.len ((uh OKn).xok x hx).1) (uh HKX)
            subst hA
            have HBX:=jd hbx
            have HTX:=jd htx
            have HFIT:=jd hfit
            have hklx:k < d2.X.length:=(List.getElem?_eq_some_iff.1 (uh HKX)).1
            have hk2:(k:Int) < (d2.X.length:Int):=by omega
            have hx2:(d2.X.length:Int)≤1000:=by have:=(uh OKn).xlen; omega
            have hny:gx≠q16:=fun e=>hnyq (by rw [e]; rfl)
            have hS0:Blk w9.drew gw 37 (ZaQ d2 (.slice As d2.L.length cs) (.slice Au d2.U.length cu) (.slice Ac d2.C.length cc) (.slice (some ⟨gx,0,none⟩) d2.X.length cx) (.slice Ap d2.P.length cp))∧Blk w9.drew q16 65 ra.2.cs.toArray:=⟨(uh SIn).wd.blk,uh HB9⟩
            clear hbx htx hfit
            refine wp_region_noPanic (wp_region_held_drew (S:=fun wz=>Blk wz gw 37 (ZaQ d2 (.slice As d2.L.length cs) (.slice Au d2.U.length cu) (.slice Ac d2.C.length cc) (.slice (some ⟨gx,0,none⟩) d2.X.length cx) (.slice Ap d2.P.length cp))∧Blk wz q16 65 ra.2.cs.toArray) (by kernel_rfl) hS0 (fun _=>?_))
            refine tq 0 rfl hS0 ?_
            refine tq 1 rfl hS0 ?_
            refine tq 2 rfl hS0 ?_
            refine tJz (v:=.slice (some ⟨gx,0,none⟩) d2.X.length cx) 3 rfl (Or.inl ⟨by rfl,fun wz hSw=>?_⟩) hS0 ?_
            · have hq:wz.cell? ⟨gw,4,none⟩=some (.slice (some ⟨gx,0,none⟩) d2.X.length cx):=hSw.1.cell 4
              go_simp
            refine tq 4 rfl hS0 ?_
            refine ZdA (i:=5)  rfl (by kernel_rfl) (by kernel_rfl) (by kernel_rfl) (Zar 65 (.tmp 16) (by rfl) rfl q16 rfl 65 ra.2.cs.toArray _ (fun _ h=>h.2) Tryz.underlying65 rfl (Zai (uh HRAO))) hS0 ?_
            simp only [Act.put,zA,zB,zC]
            refine tq 6 rfl hS0 ?_
            refine tOz 7 rfl fun K hK=>?_
            refine Zao (by rfl) 65 (.tmp 231) (.tmp 230) rfl gx (k*41) 65 cur (.agg ra.2.cs.toArray) ra.2.cs _ rfl rfl (uh HBX) (by simp [Value.cells]) (by rw [Cli.len (uh HRAO)]; exact uh HFIT) (ZcB (uh HRAO)) (fun v hv=>Cli.one v hv) rfl ?_
            intro w20 hb20 hg20
            have HX20:Hid (w20.ownsRow base 65 41 (.slice (some ⟨gx,0,none⟩) d2.X.length cx) (d2.X.set k ra.2).length ((d2.X.set k ra.2).flatMap Cli.cs)):=jd (by
              have h:=Zc6 (cs:=Cli.cs) (by decide) (fun x hx=>Cli.len ((uh OKn).xok x hx).1) (uh HKX) (Cli.len (uh HRAO)) hgx hsx hnx hmx rfl (uh HTX) hb20
              rw [List.length_set]; exact h)
            have hgx20:w9.grownBy w20 (Value.slice (some ⟨gx,0,none⟩) d2.X.length cx).ownBlock:=Zfd hg20
            have SI20:=jd ((uh SIn).setX hgb hgx20 (uh HX20) rfl)
            have OKX:=jd ((uh OKn).setX (i:=k) (uh HRAO) (by rw [uh HRU]; exact uh HXU))
            have HG20:=jd hg20
            have hS20:Blk w20 gw 37 (ZaQ d2 (.slice As d2.L.length cs) (.slice Au d2.U.length cu) (.slice Ac d2.C.length cc) (.slice (some ⟨gx,0,none⟩) d2.X.length cx) (.slice Ap d2.P.length cp))∧Blk w20 q16 65 ra.2.cs.toArray:=⟨(uh SI20).wd.blk,(uh HB9).grown hgx20 (fun e=>hny (by injection e with e; exact e.symm))⟩
            have STX:Hid (ST w w20 base B g gw U0 C0 kx (kp+1) (kn+1) { d2 with X:=d2.X.set k ra.2 }):=jd ⟨_,_,_,_,_,_,uh SI20,uh OKX,uh HU,uh HC⟩
            clear hb20 hg20 hgx20
            refine hK.out _ _ hS20 (fun _=>?_)
            clear hK K
            try simp only [Act.put]
            refine tDz ?_
            go_wp2_with fail
            go_end0
            exact ⟨rfl,_,(uh STX).le (by omega) (by omega) (by omega)⟩
      ·as_aux_lemma =>
       go_upto_region 26 with fail
       go_cut [18,19,20] from 189 to 243 (fun p b e W6=>∃ (q:Nat) (rs:CRes),p=.pointer (some ⟨q,0,none⟩)∧Blk W6 q 65 rs.c.cs.toArray∧QFine rs∧e=.int .i64 rs.code∧W6.ownsRow base 5 1 b rs.b.length (bsV rs.b)∧STq w W6 base B g gw U0 C0 kx kp (kn+1) d1 q)
       case first =>
        as_aux_lemma =>
        obtain ⟨As,cs,Au,cu,Ac,cc,Ax,cx,Ap,cp,V,si,ok,hU,hC⟩:=(uh ST5).open_
        have SIn:=jd si
        have OKn:=jd ok
        have HU:=jd hU
        have HC:=jd hC
        have hszW:=si.size
        have hgW:=si.gsz
        have hWN:=SI.bw si
        have HW:=jd hWN
        have HJ0:=jd ((CJ.start si.c:CJ w5 B g w5).drew)
        clear si ok hU hC hWN
        have hub:base≤w5.heap.size:=by have:=(uh SIn).wd.gt; omega
        have hS0:CJ w5 B g w5.drew:=uh HJ0
        have HTAB:=jd (uh OKn).tab
        have hL4:=(ZaZ.1 (uh HTAB).val).1
        have HWS:=jd (fun wz (hz:CJ w5 B g wz)=>(Zb1 (uh HW wz hz):wz.rangeAt gw 0 [.slice As d1.L.length cs,.int .u32 (d1.nx:Int)]))
        have HBX:=jd (fun wz (hz:CJ w5 B g wz)=>hz.blk (uh HB5) hn12)
        have HV12:Hid (Blk w5.drew q12 65 x.cs.toArray):=HB5
        refine wp_region_noPanic (wp_region_held_drew (S:=fun wz=>CJ w5 B g wz) (by kernel_rfl) hS0 (fun _=>?_))
        refine ZdA (i:=0)  rfl (by kernel_rfl) (by kernel_rfl) (by kernel_rfl) (Zar 65 (.tmp 12) (by rfl) rfl q12 rfl 65 x.cs.toArray _ (uh HBX) Tryz.underlying65 rfl (Zai (uh HXO))) hS0 ?_
        simp only [Act.put,zA,zB,zC]
        refine tq 1 rfl hS0 ?_
        refine tq 3 rfl hS0 ?_
        refine Zbk (i:=2) (j:=10) rfl rfl (by kernel_rfl) (fun K hK=>?_) (fun K hK=>?_)
        · rw [if_pos (by rfl)]
          go_simp
          refine (Zav w5.drew B g 2 hS0.2 (by decide) (by decide)).mono ?_
          rintro e wa0 ⟨x237,rfl,x237a,x237b,hcN,hgN⟩
          have hS0_:CJ w5 B g wa0:=hS0.next hcN hgN
          obtain ⟨kb,rfl⟩:=Zdv x237a (show x237 < 256 by omega)
          clear hcN hgN x237b
          refine hK.out _ _ hS0_ (fun _=>?_)
          clear hK K
          try simp only [Act.put,zA,zB,zC]
          refine Zbk (i:=4) (j:=10) rfl rfl (by kernel_rfl) (fun K hK=>?_) (fun K hK=>?_)
          · rw [if_pos (by rfl)]
            go_simp
            refine (ZcH wa0 B g 5 hS0_.2 (by decide)).mono ?_
            rintro e wa1 hpost
            obtain ⟨v,bp,he,hbn,ho,hjN⟩:=hpost
            obtain ⟨Abp,cbp,hvb,hnbp,hmbp⟩:=Zac ho
            subst hvb he
            have HPK:=jd (Zak ho (Nat.le_trans hub hS0_.size))
            have hgN_:=hjN.1
            have hcN_:=hjN.2
            have hgN:(wa0).grownBy wa1 (some g):=hgN_
            have hS1_:CJ w5 B g wa1:=hS0_.next hcN_ hgN
            clear hgN hgN_ hcN_ ho hjN
            refine hK.out _ _ hS1_ (fun _=>?_)
            clear hK K
            try simp only [Act.put,zA,zB,zC]
            refine Zbk (i:=5) (j:=10) rfl rfl (by kernel_rfl) (fun K hK=>?_) (fun K hK=>?_)
            · rw [if_pos (by rfl)]
              go_simp
              refine (ZeT wa1 x (uh HXO) kb Abp bp.length cbp bp (Zaj.of_own (uh HPK)) (by unfold maxLen; omega) _ rfl).mono ?_
              rintro e wa2 hpost
              obtain ⟨v,he,hv,hblN⟩:=hpost.v (ZcI _ _ _)
              obtain ⟨vb,hv1,hv2⟩:=hv
              subst hv1 he
              obtain ⟨rs,hr⟩ :∃rs,ZcG x kb bp=rs:=⟨_,rfl⟩
              have hcf:QFine rs:=by
                subst hr
                refine ⟨?_,fun h0=>?_⟩
                · by_cases h0:(ZcG x kb bp).code=0
                  · exact (Zck (uh HXO) h0).1
                  · rw [(ZcI _ _ _ h0).1]; exact Zau
                · obtain ⟨_,h2,h3⟩:=Zck (uh HXO) h0
                  exact ⟨by rw [h2]; exact uh HXU,by omega,by omega⟩
              rw [hr] at hv2 ⊢
              have HVC:=jd (Zak hv2 (Nat.le_trans hub hS1_.size))
              have HCF2:=jd hcf
              have hgN_:(wa1).grownBy wa2 (some g):=Zah hblN _
              have hcN_:Zaq wa2 B g:=hS1_.2.below_ hblN
              have hgN:(wa1).grownBy wa2 (some g):=hgN_
              have hS2_:CJ w5 B g wa2:=hS1_.next hcN_ hgN
              replace HPK:=jd (Zap (uh HPK) hgN (fun e=>by have:=Zaw (uh HPK) g e; omega))
              clear hgN hgN_ hcN_ hv2 hblN hcf hpost hr
              refine hK.out _ _ hS2_ (fun _=>?_)
              clear hK K
              try simp only [Act.put,zA,zB,zC]
              refine tq 6 rfl hS2_ ?_
              refine tq 7 rfl hS2_ ?_
              refine tq 8 rfl hS2_ ?_
              refine tq 9 rfl hS2_ ?_
              refine tOz 10 rfl fun K hK=>?_
              refine Zas (by rfl) 65 rfl zCli.cs.toArray (Zaz _) ?_
              obtain ⟨wa3,hwn⟩ :∃wn,(wa2).alloc (.cells zCli.cs.toArray 65)=wn:=⟨_,rfl⟩
              have hblN:Below (wa2).heap.size (wa2) wa3:=hwn ▸ (Below.refl _ _).alloc (Nat.le_refl _) _
              have hgN:(wa2).grownBy wa3 (some g):=Zah hblN _
              have hS3_:CJ w5 B g wa3:=hS2_.next (hS2_.2.below_ hblN) hgN
              have HBV':Blk wa3 (wa2).heap.size 65 zCli.cs.toArray:=hwn ▸ Blk.new _ _ _
              have qz:w5.heap.size≤(wa2).heap.size:=hS2_.size
              obtain ⟨q,qe⟩ :∃q,(wa2).heap.size=q:=⟨_,rfl⟩
              rw [hwn,qe]
              rw [qe] at HBV' qz
              have HBV:=jd HBV'
              have qg:g < q:=by have:=(uh SIn).gsz; omega
              replace HPK:=jd (Zap (uh HPK) hgN (fun e=>by have:=Zaw (uh HPK) g e; omega))
              replace HVC:=jd (Zap (uh HVC) hgN (fun e=>by have:=Zaw (uh HVC) g e; omega))
              clear hwn hblN hgN HBV' qe
              refine hK.out _ _ hS3_ (fun _=>?_)
              clear hK K
              try simp only [Act.put,zA,zB,zC]
              refine tOz 11 rfl fun K hK=>?_
              refine Zaf (by rfl) 65 (.tmp 18) (.tmp 241) rfl q 65 _ rs.c.cs.toArray rfl rfl (uh HBV) (Cli.size_eq (uh HCF2).1) (Zai (uh HCF2).1) (fun v hv=>Cli.one v (by simpa using hv)) ?_
              intro wa4 hb4 hg4
              have hS4_:CJ w5 B g wa4:=hS3_.later (uh SIn).gsz ((Below.refl _ _).grown hg4 hS3_.size (fun j hj=>by injection hj with hj; omega))
              have hnx6:(Value.slice Ax d1.X.length cx).ownBlock≠some q:=fun e=>by have:=(uh SIn).wd.m.x.lt _ e; omega
              have ST6:Hid (STq w wa4 base B g gw U0 C0 kx kp (kn+1) d1 q):=jd ⟨_,_,_,_,_,_,(uh SIn).cj hS4_,uh OKn,uh HU,uh HC,hnx6⟩
              have HVC4:=jd (Zap (uh HVC) hg4 (Zad (uh HVC) (uh HBV) (by decide)))
              have HB6:=jd hb4
              clear hb4 hg4
              refine hK.out _ _ hS4_ (fun _=>?_)
              clear hK K
              try simp only [Act.put]
              refine tq 12 rfl hS4_ ?_
              refine tq 13 rfl hS4_ ?_
              refine tDz ?_
              go_wp2_with fail
              go_meet
              exact ⟨q,rs,rfl,uh HB6,uh HCF2,rfl,uh HVC4,uh ST6⟩
            · refine Zas (by rfl) 65 rfl zCli.cs.toArray (Zaz _) ?_
              obtain ⟨wa2,hwn⟩ :∃wn,(wa1).alloc (.cells zCli.cs.toArray 65)=wn:=⟨_,rfl⟩
              have hblN:Below (wa1).heap.size (wa1) wa2:=hwn ▸ (Below.refl _ _).alloc (Nat.le_refl _) _
              have hgN:(wa1).grownBy wa2 (some g):=Zah hblN _
              have hS2_:CJ w5 B g wa2:=hS1_.next (hS1_.2.below_ hblN) hgN
              have HBV':Blk wa2 (wa1).heap.size 65 zCli.cs.toArray:=hwn ▸ Blk.new _ _ _
              have qz:w5.heap.size≤(wa1).heap.size:=hS1_.size
              obtain ⟨q,qe⟩ :∃q,(wa1).heap.size=q:=⟨_,rfl⟩
              rw [hwn,qe]
              rw [qe] at HBV' qz
              have HBV:=jd HBV'
              have qg:g < q:=by have:=(uh SIn).gsz; omega
              replace HPK:=jd (Zap (uh HPK) hgN (fun e=>by have:=Zaw (uh HPK) g e; omega))
              clear hwn hblN hgN HBV' qe
              refine hK.out _ _ hS2_ (fun _=>?_)
              clear hK K
              try simp only [Act.put,zA,zB,zC]
              refine tCz 5 rfl fun K hK=>?_
              go_simp
              refine (ZeT wa2 x (uh HXO) kb Abp bp.length cbp bp (Zaj.of_own (uh HPK)) (by unfold maxLen; omega) _ rfl).mono ?_
              rintro e wa3 hpost
              obtain ⟨v,he,hv,hblN⟩:=hpost.v (ZcI _ _ _)
              obtain ⟨vb,hv1,hv2⟩:=hv
              subst hv1 he
              obtain ⟨rs,hr⟩ :∃rs,ZcG x kb bp=rs:=⟨_,rfl⟩
              have hcf:QFine rs:=by
                subst hr
                refine ⟨?_,fun h0=>?_⟩
                · by_cases h0:(ZcG x kb bp).code=0
                  · exact (Zck (uh HXO) h0).1
                  · rw [(ZcI _ _ _ h0).1]; exact Zau
                · obtain ⟨_,h2,h3⟩:=Zck (uh HXO) h0
                  exact ⟨by rw [h2]; exact uh HXU,by omega,by omega⟩
              rw [hr] at hv2 ⊢
              have HVC:=jd (Zak hv2 (Nat.le_trans hub hS2_.size))
              have HCF2:=jd hcf
              have hgN_:(wa2).grownBy wa3 (some g):=Zah hblN _
              have hcN_:Zaq wa3 B g:=hS2_.2.below_ hblN
              have hgN:(wa2).grownBy wa3 (some g):=hgN_
              have hS3_:CJ w5 B g wa3:=hS2_.next hcN_ hgN
              replace HPK:=jd (Zap (uh HPK) hgN (fun e=>by have:=Zaw (uh HPK) g e; omega))
              replace HBV:=jd ((uh HBV).gb hgN)
              clear hgN hgN_ hcN_ hv2 hblN hcf hpost hr
              refine hK.out _ _ hS3_ (fun _=>?_)
              clear hK K
              try simp only [Act.put,zA,zB,zC]
              refine tq 6 rfl hS3_ ?_
              refine tq 7 rfl hS3_ ?_
              refine tq 8 rfl hS3_ ?_
              refine tq 9 rfl hS3_ ?_
              refine tOz 11 rfl fun K hK=>?_
              refine Zaf (by rfl) 65 (.tmp 18) (.tmp 241) rfl q 65 _ rs.c.cs.toArray rfl rfl (uh HBV) (Cli.size_eq (uh HCF2).1) (Zai (uh HCF2).1) (fun v hv=>Cli.one v (by simpa using hv)) ?_
              intro wa4 hb4 hg4
              have hS4_:CJ w5 B g wa4:=hS3_.later (uh SIn).gsz ((Below.refl _ _).grown hg4 hS3_.size (fun j hj=>by injection hj with hj; omega))
              have hnx6:(Value.slice Ax d1.X.length cx).ownBlock≠some q:=fun e=>by have:=(uh SIn).wd.m.x.lt _ e; omega
              have ST6:Hid (STq w wa4 base B g gw U0 C0 kx kp (kn+1) d1 q):=jd ⟨_,_,_,_,_,_,(uh SIn).cj hS4_,uh OKn,uh HU,uh HC,hnx6⟩
              have HVC4:=jd (Zap (uh HVC) hg4 (Zad (uh HVC) (uh HBV) (by decide)))
              have HB6:=jd hb4
              clear hb4 hg4
              refine hK.out _ _ hS4_ (fun _=>?_)
              clear hK K
              try simp only [Act.put]
              refine tq 12 rfl hS4_ ?_
              refine tq 13 rfl hS4_ ?_
              refine tDz ?_
              go_wp2_with fail
              go_meet
              exact ⟨q,rs,rfl,uh HB6,uh HCF2,rfl,uh HVC4,uh ST6⟩
          · refine Zas (by rfl) 65 rfl zCli.cs.toArray (Zaz _) ?_
            obtain ⟨wa1,hwn⟩ :∃wn,(wa0).alloc (.cells zCli.cs.toArray 65)=wn:=⟨_,rfl⟩
            have hblN:Below (wa0).heap.size (wa0) wa1:=hwn ▸ (Below.refl _ _).alloc (Nat.le_refl _) _
            have hgN:(wa0).grownBy wa1 (some g):=Zah hblN _
            have hS1_:CJ w5 B g wa1:=hS0_.next (hS0_.2.below_ hblN) hgN
            have HBV':Blk wa1 (wa0).heap.size 65 zCli.cs.toArray:=hwn ▸ Blk.new _ _ _
            have qz:w5.heap.size≤(wa0).heap.size:=hS0_.size
            obtain ⟨q,qe⟩ :∃q,(wa0).heap.size=q:=⟨_,rfl⟩
            rw [hwn,qe]
            rw [qe] at HBV' qz
            have HBV:=jd HBV'
            have qg:g < q:=by have:=(uh SIn).gsz; omega
            clear hwn hblN hgN HBV' qe
            refine hK.out _ _ hS1_ (fun _=>?_)
            clear hK K
            try simp only [Act.put,zA,zB,zC]
            refine tCz 4 rfl fun K hK=>?_
            go_simp
            refine (ZcH wa1 B g 5 hS1_.2 (by decide)).mono ?_
            rintro e wa2 hpost
            obtain ⟨v,bp,he,hbn,ho,hjN⟩:=hpost
            obtain ⟨Abp,cbp,hvb,hnbp,hmbp⟩:=Zac ho
            subst hvb he
            have HPK:=jd (Zak ho (Nat.le_trans hub hS1_.size))
            have hgN_:=hjN.1
            have hcN_:=hjN.2
            have hgN:(wa1).grownBy wa2 (some g):=hgN_
            have hS2_:CJ w5 B g wa2:=hS1_.next hcN_ hgN
            replace HBV:=jd ((uh HBV).gb hgN)
            clear hgN hgN_ hcN_ ho hjN
            refine hK.out _ _ hS2_ (fun _=>?_)
            clear hK K
            try simp only [Act.put,zA,zB,zC]
            refine tCz 5 rfl fun K hK=>?_
            go_simp
            refine (ZeT wa2 x (uh HXO) kb Abp bp.length cbp bp (Zaj.of_own (uh HPK)) (by unfold maxLen; omega) _ rfl).mono ?_
            rintro e wa3 hpost
            obtain ⟨v,he,hv,hblN⟩:=hpost.v (ZcI _ _ _)
            obtain ⟨vb,hv1,hv2⟩:=hv
            subst hv1 he
            obtain ⟨rs,hr⟩ :∃rs,ZcG x kb bp=rs:=⟨_,rfl⟩
            have hcf:QFine rs:=by
              subst hr
              refine ⟨?_,fun h0=>?_⟩
              · by_cases h0:(ZcG x kb bp).code=0
                · exact (Zck (uh HXO) h0).1
                · rw [(ZcI _ _ _ h0).1]; exact Zau
              · obtain ⟨_,h2,h3⟩:=Zck (uh HXO) h0
                exact ⟨by rw [h2]; exact uh HXU,by omega,by omega⟩
            rw [hr] at hv2 ⊢
            have HVC:=jd (Zak hv2 (Nat.le_trans hub hS2_.size))
            have HCF2:=jd hcf
            have hgN_:(wa2).grownBy wa3 (some g):=Zah hblN _
            have hcN_:Zaq wa3 B g:=hS2_.2.below_ hblN
            have hgN:(wa2).grownBy wa3 (some g):=hgN_
            have hS3_:CJ w5 B g wa3:=hS2_.next hcN_ hgN
            replace HBV:=jd ((uh HBV).gb hgN)
            replace HPK:=jd (Zap (uh HPK) hgN (fun e=>by have:=Zaw (uh HPK) g e; omega))
            clear hgN hgN_ hcN_ hv2 hblN hcf hpost hr
            refine hK.out _ _ hS3_ (fun _=>?_)
            clear hK K
            try simp only [Act.put,zA,zB,zC]
            refine tq 6 rfl hS3_ ?_
            refine tq 7 rfl hS3_ ?_
            refine tq 8 rfl hS3_ ?_
            refine tq 9 rfl hS3_ ?_
            refine tOz 11 rfl fun K hK=>?_
            refine Zaf (by rfl) 65 (.tmp 18) (.tmp 241) rfl q 65 _ rs.c.cs.toArray rfl rfl (uh HBV) (Cli.size_eq (uh HCF2).1) (Zai (uh HCF2).1) (fun v hv=>Cli.one v (by simpa using hv)) ?_
            intro wa4 hb4 hg4
            have hS4_:CJ w5 B g wa4:=hS3_.later (uh SIn).gsz ((Below.refl _ _).grown hg4 hS3_.size (fun j hj=>by injection hj with hj; omega))
            have hnx6:(Value.slice Ax d1.X.length cx).ownBlock≠some q:=fun e=>by have:=(uh SIn).wd.m.x.lt _ e; omega
            have ST6:Hid (STq w wa4 base B g gw U0 C0 kx kp (kn+1) d1 q):=jd ⟨_,_,_,_,_,_,(uh SIn).cj hS4_,uh OKn,uh HU,uh HC,hnx6⟩
            have HVC4:=jd (Zap (uh HVC) hg4 (Zad (uh HVC) (uh HBV) (by decide)))
            have HB6:=jd hb4
            clear hb4 hg4
            refine hK.out _ _ hS4_ (fun _=>?_)
            clear hK K
            try simp only [Act.put]
            refine tq 12 rfl hS4_ ?_
            refine tq 13 rfl hS4_ ?_
            refine tDz ?_
            go_wp2_with fail
            go_meet
            exact ⟨q,rs,rfl,uh HB6,uh HCF2,rfl,uh HVC4,uh ST6⟩
        · refine Zas (by rfl) 65 rfl zCli.cs.toArray (Zaz _) ?_
          obtain ⟨wa0,hwn⟩ :∃wn,(w5.drew).alloc (.cells zCli.cs.toArray 65)=wn:=⟨_,rfl⟩
          have hblN:Below (w5.drew).heap.size (w5.drew) wa0:=hwn ▸ (Below.refl _ _).alloc (Nat.le_refl _) _
          have hgN:(w5.drew).grownBy wa0 (some g):=Zah hblN _
          have hS0_:CJ w5 B g wa0:=hS0.next (hS0.2.below_ hblN) hgN
          have HBV':Blk wa0 (w5.drew).heap.size 65 zCli.cs.toArray:=hwn ▸ Blk.new _ _ _
          have qz:w5.heap.size≤(w5.drew).heap.size:=hS0.size
          obtain ⟨q,qe⟩ :∃q,(w5.drew).heap.size=q:=⟨_,rfl⟩
          rw [hwn,qe]
          rw [qe] at HBV' qz
          have HBV:=jd HBV'
          have qg:g < q:=by have:=(uh SIn).gsz; omega
          clear hwn hblN hgN HBV' qe
          refine hK.out _ _ hS0_ (fun _=>?_)
          clear hK K
          try simp only [Act.put,zA,zB,zC]
          refine tCz 2 rfl fun K hK=>?_
          go_simp
          refine (Zav wa0 B g 2 hS0_.2 (by decide) (by decide)).mono ?_
          rintro e wa1 ⟨x237,rfl,x237a,x237b,hcN,hgN⟩
          have hS1_:CJ w5 B g wa1:=hS0_.next hcN hgN
          replace HBV:=jd ((uh HBV).gb hgN)
          obtain ⟨kb,rfl⟩:=Zdv x237a (show x237 < 256 by omega)
          clear hcN hgN x237b
          refine hK.out _ _ hS1_ (fun _=>?_)
          clear hK K
          try simp only [Act.put,zA,zB,zC]
          refine tCz 4 rfl fun K hK=>?_
          go_simp
          refine (ZcH wa1 B g 5 hS1_.2 (by decide)).mono ?_
          rintro e wa2 hpost
          obtain ⟨v,bp,he,hbn,ho,hjN⟩:=hpost
          obtain ⟨Abp,cbp,hvb,hnbp,hmbp⟩:=Zac ho
          subst hvb he
          have HPK:=jd (Zak ho (Nat.le_trans hub hS1_.size))
          have hgN_:=hjN.1
          have hcN_:=hjN.2
          have hgN:(wa1).grownBy wa2 (some g):=hgN_
          have hS2_:CJ w5 B g wa2:=hS1_.next hcN_ hgN
          replace HBV:=jd ((uh HBV).gb hgN)
          clear hgN hgN_ hcN_ ho hjN
          refine hK.out _ _ hS2_ (fun _=>?_)
          clear hK K
          try simp only [Act.put,zA,zB,zC]
          refine tCz 5 rfl fun K hK=>?_
          go_simp
          refine (ZeT wa2 x (uh HXO) kb Abp bp.length cbp bp (Zaj.of_own (uh HPK)) (by unfold maxLen; omega) _ rfl).mono ?_
          rintro e wa3 hpost
          obtain ⟨v,he,hv,hblN⟩:=hpost.v (ZcI _ _ _)
          obtain ⟨vb,hv1,hv2⟩:=hv
          subst hv1 he
          obtain ⟨rs,hr⟩ :∃rs,ZcG x kb bp=rs:=⟨_,rfl⟩
          have hcf:QFine rs:=by
            subst hr
            refine ⟨?_,fun h0=>?_⟩
            · by_cases h0:(ZcG x kb bp).code=0
              · exact (Zck (uh HXO) h0).1
              · rw [(ZcI _ _ _ h0).1]; exact Zau
            · obtain ⟨_,h2,h3⟩:=Zck (uh HXO) h0
              exact ⟨by rw [h2]; exact uh HXU,by omega,by omega⟩
          rw [hr] at hv2 ⊢
          have HVC:=jd (Zak hv2 (Nat.le_trans hub hS2_.size))
          have HCF2:=jd hcf
          have hgN_:(wa2).grownBy wa3 (some g):=Zah hblN _
          have hcN_:Zaq wa3 B g:=hS2_.2.below_ hblN
          have hgN:(wa2).grownBy wa3 (some g):=hgN_
          have hS3_:CJ w5 B g wa3:=hS2_.next hcN_ hgN
          replace HBV:=jd ((uh HBV).gb hgN)
          replace HPK:=jd (Zap (uh HPK) hgN (fun e=>by have:=Zaw (uh HPK) g e; omega))
          clear hgN hgN_ hcN_ hv2 hblN hcf hpost hr
          refine hK.out _ _ hS3_ (fun _=>?_)
          clear hK K
          try simp only [Act.put,zA,zB,zC]
          refine tq 6 rfl hS3_ ?_
          refine tq 7 rfl hS3_ ?_
          refine tq 8 rfl hS3_ ?_
          refine tq 9 rfl hS3_ ?_
          refine tOz 11 rfl fun K hK=>?_
          refine Zaf (by rfl) 65 (.tmp 18) (.tmp 241) rfl q 65 _ rs.c.cs.toArray rfl rfl (uh HBV) (Cli.size_eq (uh HCF2).1) (Zai (uh HCF2).1) (fun v hv=>Cli.one v (by simpa using hv)) ?_
          intro wa4 hb4 hg4
          have hS4_:CJ w5 B g wa4:=hS3_.later (uh SIn).gsz ((Below.refl _ _).grown hg4 hS3_.size (fun j hj=>by injection hj with hj; omega))
          have hnx6:(Value.slice Ax d1.X.length cx).ownBlock≠some q:=fun e=>by have:=(uh SIn).wd.m.x.lt _ e; omega
          have ST6:Hid (STq w wa4 base B g gw U0 C0 kx kp (kn+1) d1 q):=jd ⟨_,_,_,_,_,_,(uh SIn).cj hS4_,uh OKn,uh HU,uh HC,hnx6⟩
          have HVC4:=jd (Zap (uh HVC) hg4 (Zad (uh HVC) (uh HBV) (by decide)))
          have HB6:=jd hb4
          clear hb4 hg4
          refine hK.out _ _ hS4_ (fun _=>?_)
          clear hK K
          try simp only [Act.put]
          refine tq 12 rfl hS4_ ?_
          refine tq 13 rfl hS4_ ?_
          refine tDz ?_
          go_wp2_with fail
          go_meet
          exact ⟨q,rs,rfl,uh HB6,uh HCF2,rfl,uh HVC4,uh ST6⟩
       case rest =>
        obtain ⟨w6,rfl⟩ :∃w6:World,w6=wc:=⟨_,rfl⟩
        obtain ⟨q18,rs,rfl,hb6,hcf,rfl,hvc,h6⟩:=hcut
        have ST6:=jd h6
        have HB6:=jd hb6
        have HCF2:=jd hcf
        obtain ⟨A9,c9,hv9,hn9,hm9⟩:=Zac hvc
        subst hv9
        have HVC:=jd hvc
        clear h6 ST5 hb6 hcf hvc HB5
        by_cases hs0:rs.code=0
        case neg =>
          have e0:(rs.code==0)=false:=by simp [hs0]
          go_wp2_with fail
          go_end0
          exact ⟨rfl,_,(uh ST6).st.le (by omega) (by omega) (by omega)⟩
        have e0:(rs.code==0)=true:=by simp [hs0]
        obtain ⟨hru,hrb0,hrb1⟩:=(uh HCF2).2 hs0
        have HRU:=jd hru
        have HKX:=HK
        clear hs0 hru
        go_upto_region 28 with fail
        clear e0
        obtain ⟨As,cs,Au,cu,Ac,cc,Ax,cx,Ap,cp,V,si,ok,hU,hC,hnyq⟩:=(uh ST6).open_
        have SIn:=jd si
        have OKn:=jd ok
        have HU:=jd hU
        have HC:=jd hC
        have hszW:=si.size
        have hgW:=si.gsz
        have hWN:=SI.bw si
        have HW:=jd hWN
        have HJ0:=jd ((CJ.start si.c:CJ w6 B g w6).drew)
        clear si ok hU hC hWN
        obtain ⟨gx,cur,hA,hgx,hbx,hsx,hnx,hmx,_,htx,hfit,_⟩:=own_idx (uh SIn).wd.m.x (fun x hx=>Cli.len ((uh OKn).xok x hx).1) (uh HKX)
        subst hA
        have HBX:=jd hbx
        have HTX:=jd htx
        have HFIT:=jd hfit
        have hklx:k < d1.X.length:=(List.getElem?_eq_some_iff.1 (uh HKX)).1
        have hk2:(k:Int) < (d1.X.length:Int):=by omega
        have hx2:(d1.X.length:Int)≤1000:=by have:=(uh OKn).xlen; omega
        have hny:gx≠q18:=fun e=>hnyq (by rw [e]; rfl)
        have hS0:Blk w6.drew gw 37 (ZaQ d1 (.slice As d1.L.length cs) (.slice Au d1.U.length cu) (.slice Ac d1.C.length cc) (.slice (some ⟨gx,0,none⟩) d1.X.length cx) (.slice Ap d1.P.length cp))∧Blk w6.drew q18 65 rs.c.cs.toArray:=⟨(uh SIn).wd.blk,uh HB6⟩
        clear hbx htx hfit
        refine wp_region_noPanic (wp_region_held_drew (S:=fun wz=>Blk wz gw 37 (ZaQ d1 (.slice As d1.L.length cs) (.slice Au d1.U.length cu) (.slice Ac d1.C.length cc) (.slice (some ⟨gx,0,none⟩) d1.X.length cx) (.slice Ap d1.P.length cp))∧Blk wz q18 65 rs.c.cs.toArray) (by kernel_rfl) hS0 (fun _=>?_))
        refine tq 0 rfl hS0 ?_
        refine tq 1 rfl hS0 ?_
        refine tq 2 rfl hS0 ?_
        refine tJz (v:=.slice (some ⟨gx,0,none⟩) d1.X.length cx) 3 rfl (Or.inl ⟨by rfl,fun wz hSw=>?_⟩) hS0 ?_
        · have hq:wz.cell? ⟨gw,4,none⟩=some (.slice (some ⟨gx,0,none⟩) d1.X.length cx):=hSw.1.cell 4
          go_simp
        refine tq 4 rfl hS0 ?_
        refine ZdA (i:=5)  rfl (by kernel_rfl) (by kernel_rfl) (by kernel_rfl) (Zar 65 (.tmp 18) (by rfl) rfl q18 rfl 65 rs.c.cs.toArray _ (fun _ h=>h.2) Tryz.underlying65 rfl (Zai (uh HCF2).1)) hS0 ?_
        simp only [Act.put,zA,zB,zC]
        refine tq 6 rfl hS0 ?_
        refine tOz 7 rfl fun K hK=>?_
        refine Zao (by rfl) 65 (.tmp 252) (.tmp 251) rfl gx (k*41) 65 cur (.agg rs.c.cs.toArray) rs.c.cs _ rfl rfl (uh HBX) (by simp [Value.cells]) (by rw [Cli.len (uh HCF2).1]; exact uh HFIT) (ZcB (uh HCF2).1) (fun v hv=>Cli.one v hv) rfl ?_
        intro w20 hb20 hg20
        have HX20:Hid (w20.ownsRow base 65 41 (.slice (some ⟨gx,0,none⟩) d1.X.length cx) (d1.X.set k rs.c).length ((d1.X.set k rs.c).flatMap Cli.cs)):=jd (by
          have h:=Zc6 (cs:=Cli.cs) (by decide) (fun x hx=>Cli.len ((uh OKn).xok x hx).1) (uh HKX) (Cli.len (uh HCF2).1) hgx hsx hnx hmx rfl (uh HTX) hb20
          rw [List.length_set]; exact h)
        have hgx20:w6.grownBy w20 (Value.slice (some ⟨gx,0,none⟩) d1.X.length cx).ownBlock:=Zfd hg20
        have SI20:=jd ((uh SIn).setX hgb hgx20 (uh HX20) rfl)
        have HVCX:=jd (World.ownsRow.kept (uh HVC) hgx20 (.inr (Zad (uh HVC) (uh HBX) (by decide))))
        have OKX:=jd ((uh OKn).setX (i:=k) (uh HCF2).1 (uh HRU))
        have HG20:=jd hg20
        have hS20:Blk w20 gw 37 (ZaQ d1 (.slice As d1.L.length cs) (.slice Au d1.U.length cu) (.slice Ac d1.C.length cc) (.slice (some ⟨gx,0,none⟩) d1.X.length cx) (.slice Ap d1.P.length cp))∧Blk w20 q18 65 rs.c.cs.toArray:=⟨(uh SI20).wd.blk,(uh HB6).grown hgx20 (fun e=>hny (by injection e with e; exact e.symm))⟩
        have STX:Hid (ST w w20 base B g gw U0 C0 kx kp (kn+1) { d1 with X:=d1.X.set k rs.c }):=jd ⟨_,_,_,_,_,_,uh SI20,uh OKX,uh HU,uh HC⟩
        clear hb20 hg20 hgx20
        refine hK.out _ _ hS20 (fun _=>?_)
        clear hK K
        try simp only [Act.put]
        refine tDz ?_
        go_wp2_with fail
        have hplX:d1.P.length≤1000:=by have:=(uh OKn).plen; omega
        refine (add_cx w20 base gw { d1 with X:=d1.X.set k rs.c } _ _ _ _ _ V (uh SI20).wd hbw hplX _ rs.b (uh HVCX)).mono ?_
        rintro e w21 hadd
        obtain rfl:=hadd.1
        obtain ⟨vp21,V21,hsi21⟩:=(uh SI20).add hgb hadd
        have ST21:Hid (ST w w21 base B g gw U0 C0 kx (kp+1) (kn+1) { d1 with X:=d1.X.set k rs.c,P:=d1.P++[rs.b] }):=jd ⟨_,_,_,_,_,_,hsi21,(uh OKX).pushP hrb0 hrb1,uh HU,uh HC⟩
        clear hadd hsi21
        go_wp2_with fail
        go_end0
        exact ⟨rfl,_,(uh ST21).le (by omega) (by omega) (by omega)⟩
      ·as_aux_lemma =>
       go_upto_region 31 with fail
       go_cut [21,22,23,24,25] from 189 to 275 (fun p _ _ _ e W6=>∃ (q:Nat) (rs:RRes) (vS:Value),p=.pointer (some ⟨q,0,none⟩)∧Blk W6 q 29 #[vS,.int .u32 (rs.nx:Int)]∧(rs.e=0→ZbQ rs.L rs.nx)∧e=.int .i64 rs.e∧W6.ownsRow base 50 26 vS rs.L.length (Zat rs.L)∧ST w W6 base B g gw U0 C0 kx kp (kn+1) d1)
       case first =>
        as_aux_lemma =>
        obtain ⟨As,cs,Au,cu,Ac,cc,Ax,cx,Ap,cp,V,si,ok,hU,hC⟩:=(uh ST5).open_
        have SIn:=jd si
        have OKn:=jd ok
        have HU:=jd hU
        have HC:=jd hC
        have hszW:=si.size
        have hgW:=si.gsz
        have hWN:=SI.bw si
        have HW:=jd hWN
        have HJ0:=jd ((CJ.start si.c:CJ w5 B g w5).drew)
        clear si ok hU hC hWN
        have hub:base≤w5.heap.size:=by have:=(uh SIn).wd.gt; omega
        have hS0:CJ w5 B g w5.drew:=uh HJ0
        have HTAB:=jd (uh OKn).tab
        have hL4:=(ZaZ.1 (uh HTAB).val).1
        have HWS:=jd (fun wz (hz:CJ w5 B g wz)=>(Zb1 (uh HW wz hz):wz.rangeAt gw 0 [.slice As d1.L.length cs,.int .u32 (d1.nx:Int)]))
        have HBX:=jd (fun wz (hz:CJ w5 B g wz)=>hz.blk (uh HB5) hn12)
        have HV12:Hid (Blk w5.drew q12 65 x.cs.toArray):=HB5
        refine wp_region_noPanic (wp_region_held_drew (S:=fun wz=>CJ w5 B g wz) (by kernel_rfl) hS0 (fun _=>?_))
        refine tq 0 rfl hS0 ?_
        refine tq 1 rfl hS0 ?_
        refine tq 2 rfl hS0 ?_
        refine tJz (v:=.agg [.slice As d1.L.length cs,.int .u32 (d1.nx:Int)].toArray) 3 rfl (yieldsIf_load_mid (by rfl) 29 (.tmp 261) rfl gw 0 rfl [.slice As d1.L.length cs,.int .u32 (d1.nx:Int)] _ (uh HWS) Tryz.underlying29 rfl (by kernel_rfl)) hS0 ?_
        refine tq 4 rfl hS0 ?_
        refine tq 5 rfl hS0 ?_
        refine tq 7 rfl hS0 ?_
        refine tq 8 rfl hS0 ?_
        refine tq 9 rfl hS0 ?_
        refine tJz (v:=.int .i64 d1.now) 10 rfl (Or.inl ⟨by rfl,fun wz hSw=>?_⟩) hS0 ?_
        · have hq:wz.cell? ⟨gw,6,none⟩=some (.int .i64 d1.now):=(uh HW wz hSw).cell 6
          go_simp
        refine Zbk (i:=6) (j:=18) rfl rfl (by kernel_rfl) (fun K hK=>?_) (fun K hK=>?_)
        · rw [if_pos (by rfl)]
          go_simp
          refine (ZdV w5.drew B g base gw d1 _ _ _ _ _ V hS0.2 ((uh SIn).cj hS0).wd (uh OKn).pok (by have:=(uh OKn).plen; omega)).mono ?_
          rintro e wa0 hpost
          obtain ⟨v,bp,he,bp0,bp1,ho,hjN⟩:=hpost
          obtain ⟨Abp,cbp,hvb,hnbp,hmbp⟩:=Zac ho
          subst hvb he
          have HPK:=jd (Zak ho (Nat.le_trans hub hS0.size))
          have hgN_:=hjN.1
          have hcN_:=hjN.2
          have hgN:(w5.drew).grownBy wa0 (some g):=hgN_
          have hS0_:CJ w5 B g wa0:=hS0.next hcN_ hgN
          replace HV12:=jd ((uh HV12).gb hgN)
          clear hgN hgN_ hcN_ ho hjN
          refine hK.out _ _ hS0_ (fun _=>?_)
          clear hK K
          try simp only [Act.put,zA,zB,zC]
          refine Zbk (i:=11) (j:=18) rfl rfl (by kernel_rfl) (fun K hK=>?_) (fun K hK=>?_)
          · rw [if_pos (by rfl)]
            go_simp
            refine (ZeN wa0 As d1.L.length cs d1.L d1.nx (Zbp ((uh SIn).cj hS0_).wd.m.s (uh HTAB).ok) (by omega) (uh HTAB).nx Abp bp.length cbp bp (Zaj.of_own (uh HPK)) hnbp hmbp d1.now _ rfl).mono ?_
            rintro e wa1 hpost
            obtain ⟨v,he,hv,hblN⟩:=hpost.v (ZeQ _ _ _ _)
            obtain ⟨vS,x2,x3,x4,hv1,hv2⟩:=hv
            subst hv1 he
            obtain ⟨rs,hr⟩ :∃rs,Zcj d1.L d1.nx bp d1.now=rs:=⟨_,rfl⟩
            have hcf:rs.e=0→ZbQ rs.L rs.nx:=fun h0=>(uh HTAB).recv hr h0
            rw [hr] at hv2 ⊢
            have HVS:=jd (Zak hv2 (Nat.le_trans hub hS0_.size))
            have HCF2:=jd hcf
            have hgN_:(wa0).grownBy wa1 (some g):=Zah hblN _
            have hcN_:Zaq wa1 B g:=hS0_.2.below_ hblN
            have hgN:(wa0).grownBy wa1 (some g):=hgN_
            have hS1_:CJ w5 B g wa1:=hS0_.next hcN_ hgN
            replace HV12:=jd ((uh HV12).gb hgN)
            replace HPK:=jd (Zap (uh HPK) hgN (fun e=>by have:=Zaw (uh HPK) g e; omega))
            clear hgN hgN_ hcN_ hv2 hblN hcf hpost hr
            refine hK.out _ _ hS1_ (fun _=>?_)
            clear hK K
            try simp only [Act.put,zA,zB,zC]
            refine tq 12 rfl hS1_ ?_
            refine tq 13 rfl hS1_ ?_
            refine tq 14 rfl hS1_ ?_
            refine tq 15 rfl hS1_ ?_
            refine tq 16 rfl hS1_ ?_
            refine tq 17 rfl hS1_ ?_
            refine tOz 18 rfl fun K hK=>?_
            refine Zas (by rfl) 29 rfl #[.slice none 0 0,.int .u32 0] (ZaB _) ?_
            obtain ⟨wa2,hwn⟩ :∃wn,(wa1).alloc (.cells #[.slice none 0 0,.int .u32 0] 29)=wn:=⟨_,rfl⟩
            have hblN:Below (wa1).heap.size (wa1) wa2:=hwn ▸ (Below.refl _ _).alloc (Nat.le_refl _) _
            have hgN:(wa1).grownBy wa2 (some g):=Zah hblN _
            have hS2_:CJ w5 B g wa2:=hS1_.next (hS1_.2.below_ hblN) hgN
            have HBV':Blk wa2 (wa1).heap.size 29 #[.slice none 0 0,.int .u32 0]:=hwn ▸ Blk.new _ _ _
            have qz:w5.heap.size≤(wa1).heap.size:=hS1_.size
            obtain ⟨q,qe⟩ :∃q,(wa1).heap.size=q:=⟨_,rfl⟩
            rw [hwn,qe]
            rw [qe] at HBV' qz
            have HBV:=jd HBV'
            have qg:g < q:=by have:=(uh SIn).gsz; omega
            replace HV12:=jd ((uh HV12).gb hgN)
            replace HPK:=jd (Zap (uh HPK) hgN (fun e=>by have:=Zaw (uh HPK) g e; omega))
            replace HVS:=jd (Zap (uh HVS) hgN (fun e=>by have:=Zaw (uh HVS) g e; omega))
            clear hwn hblN hgN HBV' qe
            refine hK.out _ _ hS2_ (fun _=>?_)
            clear hK K
            try simp only [Act.put,zA,zB,zC]
            refine tOz 19 rfl fun K hK=>?_
            refine Zaf (by rfl) 29 (.tmp 21) (.tmp 271) rfl q 29 _ #[vS,.int .u32 (rs.nx:Int)] rfl rfl (uh HBV) rfl (by kernel_rfl) (by intro v hv; simp at hv; rcases hv with rfl | rfl; exact Za6 (uh HVS); rfl) ?_
            intro wa3 hb4 hg4
            have hS3_:CJ w5 B g wa3:=hS2_.later (uh SIn).gsz ((Below.refl _ _).grown hg4 hS2_.size (fun j hj=>by injection hj with hj; omega))
            have ST6:Hid (ST w wa3 base B g gw U0 C0 kx kp (kn+1) d1):=jd ⟨_,_,_,_,_,_,(uh SIn).cj hS3_,uh OKn,uh HU,uh HC⟩
            have HVS4:=jd (Zap (uh HVS) hg4 (Zad (uh HVS) (uh HBV) (by decide)))
            have HV124:=jd ((uh HV12).grown hg4 (fun e=>(uh HV12).ne_ (uh HBV) (by decide) (by injection e)))
            have HB6:=jd hb4
            clear hb4 hg4
            refine hK.out _ _ hS3_ (fun _=>?_)
            clear hK K
            try simp only [Act.put]
            refine tq 20 rfl hS3_ ?_
            refine tq 21 rfl hS3_ ?_
            refine tq 22 rfl hS3_ ?_
            refine tq 23 rfl hS3_ ?_
            refine tDz ?_
            go_wp2_with fail
            go_meet
            exact ⟨q,rs,vS,rfl,uh HB6,uh HCF2,rfl,uh HVS4,uh ST6⟩
          · refine Zas (by rfl) 29 rfl #[.slice none 0 0,.int .u32 0] (ZaB _) ?_
            obtain ⟨wa1,hwn⟩ :∃wn,(wa0).alloc (.cells #[.slice none 0 0,.int .u32 0] 29)=wn:=⟨_,rfl⟩
            have hblN:Below (wa0).heap.size (wa0) wa1:=hwn ▸ (Below.refl _ _).alloc (Nat.le_refl _) _
            have hgN:(wa0).grownBy wa1 (some g):=Zah hblN _
            have hS1_:CJ w5 B g wa1:=hS0_.next (hS0_.2.below_ hblN) hgN
            have HBV':Blk wa1 (wa0).heap.size 29 #[.slice none 0 0,.int .u32 0]:=hwn ▸ Blk.new _ _ _
            have qz:w5.heap.size≤(wa0).heap.size:=hS0_.size
            obtain ⟨q,qe⟩ :∃q,(wa0).heap.size=q:=⟨_,rfl⟩
            rw [hwn,qe]
            rw [qe] at HBV' qz
            have HBV:=jd HBV'
            have qg:g < q:=by have:=(uh SIn).gsz; omega
            replace HV12:=jd ((uh HV12).gb hgN)
            replace HPK:=jd (Zap (uh HPK) hgN (fun e=>by have:=Zaw (uh HPK) g e; omega))
            clear hwn hblN hgN HBV' qe
            refine hK.out _ _ hS1_ (fun _=>?_)
            clear hK K
            try simp only [Act.put,zA,zB,zC]
            refine tCz 11 rfl fun K hK=>?_
            go_simp
            refine (ZeN wa1 As d1.L.length cs d1.L d1.nx (Zbp ((uh SIn).cj hS1_).wd.m.s (uh HTAB).ok) (by omega) (uh HTAB).nx Abp bp.length cbp bp (Zaj.of_own (uh HPK)) hnbp hmbp d1.now _ rfl).mono ?_
            rintro e wa2 hpost
            obtain ⟨v,he,hv,hblN⟩:=hpost.v (ZeQ _ _ _ _)
            obtain ⟨vS,x2,x3,x4,hv1,hv2⟩:=hv
            subst hv1 he
            obtain ⟨rs,hr⟩ :∃rs,Zcj d1.L d1.nx bp d1.now=rs:=⟨_,rfl⟩
            have hcf:rs.e=0→ZbQ rs.L rs.nx:=fun h0=>(uh HTAB).recv hr h0
            rw [hr] at hv2 ⊢
            have HVS:=jd (Zak hv2 (Nat.le_trans hub hS1_.size))
            have HCF2:=jd hcf
            have hgN_:(wa1).grownBy wa2 (some g):=Zah hblN _
            have hcN_:Zaq wa2 B g:=hS1_.2.below_ hblN
            have hgN:(wa1).grownBy wa2 (some g):=hgN_
            have hS2_:CJ w5 B g wa2:=hS1_.next hcN_ hgN
            replace HV12:=jd ((uh HV12).gb hgN)
            replace HPK:=jd (Zap (uh HPK) hgN (fun e=>by have:=Zaw (uh HPK) g e; omega))
            replace HBV:=jd ((uh HBV).gb hgN)
            clear hgN hgN_ hcN_ hv2 hblN hcf hpost hr
            refine hK.out _ _ hS2_ (fun _=>?_)
            clear hK K
            try simp only [Act.put,zA,zB,zC]
            refine tq 12 rfl hS2_ ?_
            refine tq 13 rfl hS2_ ?_
            refine tq 14 rfl hS2_ ?_
            refine tq 15 rfl hS2_ ?_
            refine tq 16 rfl hS2_ ?_
            refine tq 17 rfl hS2_ ?_
            refine tOz 19 rfl fun K hK=>?_
            refine Zaf (by rfl) 29 (.tmp 21) (.tmp 271) rfl q 29 _ #[vS,.int .u32 (rs.nx:Int)] rfl rfl (uh HBV) rfl (by kernel_rfl) (by intro v hv; simp at hv; rcases hv with rfl | rfl; exact Za6 (uh HVS); rfl) ?_
            intro wa3 hb4 hg4
            have hS3_:CJ w5 B g wa3:=hS2_.later (uh SIn).gsz ((Below.refl _ _).grown hg4 hS2_.size (fun j hj=>by injection hj with hj; omega))
            have ST6:Hid (ST w wa3 base B g gw U0 C0 kx kp (kn+1) d1):=jd ⟨_,_,_,_,_,_,(uh SIn).cj hS3_,uh OKn,uh HU,uh HC⟩
            have HVS4:=jd (Zap (uh HVS) hg4 (Zad (uh HVS) (uh HBV) (by decide)))
            have HV124:=jd ((uh HV12).grown hg4 (fun e=>(uh HV12).ne_ (uh HBV) (by decide) (by injection e)))
            have HB6:=jd hb4
            clear hb4 hg4
            refine hK.out _ _ hS3_ (fun _=>?_)
            clear hK K
            try simp only [Act.put]
            refine tq 20 rfl hS3_ ?_
            refine tq 21 rfl hS3_ ?_
            refine tq 22 rfl hS3_ ?_
            refine tq 23 rfl hS3_ ?_
            refine tDz ?_
            go_wp2_with fail
            go_meet
            exact ⟨q,rs,vS,rfl,uh HB6,uh HCF2,rfl,uh HVS4,uh ST6⟩
        · refine Zas (by rfl) 29 rfl #[.slice none 0 0,.int .u32 0] (ZaB _) ?_
          obtain ⟨wa0,hwn⟩ :∃wn,(w5.drew).alloc (.cells #[.slice none 0 0,.int .u32 0] 29)=wn:=⟨_,rfl⟩
          have hblN:Below (w5.drew).heap.size (w5.drew) wa0:=hwn ▸ (Below.refl _ _).alloc (Nat.le_refl _) _
          have hgN:(w5.drew).grownBy wa0 (some g):=Zah hblN _
          have hS0_:CJ w5 B g wa0:=hS0.next (hS0.2.below_ hblN) hgN
          have HBV':Blk wa0 (w5.drew).heap.size 29 #[.slice none 0 0,.int .u32 0]:=hwn ▸ Blk.new _ _ _
          have qz:w5.heap.size≤(w5.drew).heap.size:=hS0.size
          obtain ⟨q,qe⟩ :∃q,(w5.drew).heap.size=q:=⟨_,rfl⟩
          rw [hwn,qe]
          rw [qe] at HBV' qz
          have HBV:=jd HBV'
          have qg:g < q:=by have:=(uh SIn).gsz; omega
          replace HV12:=jd ((uh HV12).gb hgN)
          clear hwn hblN hgN HBV' qe
          refine hK.out _ _ hS0_ (fun _=>?_)
          clear hK K
          try simp only [Act.put,zA,zB,zC]
          refine tCz 6 rfl fun K hK=>?_
          go_simp
          refine (ZdV wa0 B g base gw d1 _ _ _ _ _ V hS0_.2 ((uh SIn).cj hS0_).wd (uh OKn).pok (by have:=(uh OKn).plen; omega)).mono ?_
          rintro e wa1 hpost
          obtain ⟨v,bp,he,bp0,bp1,ho,hjN⟩:=hpost
          obtain ⟨Abp,cbp,hvb,hnbp,hmbp⟩:=Zac ho
          subst hvb he
          have HPK:=jd (Zak ho (Nat.le_trans hub hS0_.size))
          have hgN_:=hjN.1
          have hcN_:=hjN.2
          have hgN:(wa0).grownBy wa1 (some g):=hgN_
          have hS1_:CJ w5 B g wa1:=hS0_.next hcN_ hgN
          replace HV12:=jd ((uh HV12).gb hgN)
          replace HBV:=jd ((uh HBV).gb hgN)
          clear hgN hgN_ hcN_ ho hjN
          refine hK.out _ _ hS1_ (fun _=>?_)
          clear hK K
          try simp only [Act.put,zA,zB,zC]
          refine tCz 11 rfl fun K hK=>?_
          go_simp
          refine (ZeN wa1 As d1.L.length cs d1.L d1.nx (Zbp ((uh SIn).cj hS1_).wd.m.s (uh HTAB).ok) (by omega) (uh HTAB).nx Abp bp.length cbp bp (Zaj.of_own (uh HPK)) hnbp hmbp d1.now _ rfl).mono ?_
          rintro e wa2 hpost
          obtain ⟨v,he,hv,hblN⟩:=hpost.v (ZeQ _ _ _ _)
          obtain ⟨vS,x2,x3,x4,hv1,hv2⟩:=hv
          subst hv1 he
          obtain ⟨rs,hr⟩ :∃rs,Zcj d1.L d1.nx bp d1.now=rs:=⟨_,rfl⟩
          have hcf:rs.e=0→ZbQ rs.L rs.nx:=fun h0=>(uh HTAB).recv hr h0
          rw [hr] at hv2 ⊢
          have HVS:=jd (Zak hv2 (Nat.le_trans hub hS1_.size))
          have HCF2:=jd hcf
          have hgN_:(wa1).grownBy wa2 (some g):=Zah hblN _
          have hcN_:Zaq wa2 B g:=hS1_.2.below_ hblN
          have hgN:(wa1).grownBy wa2 (some g):=hgN_
          have hS2_:CJ w5 B g wa2:=hS1_.next hcN_ hgN
          replace HV12:=jd ((uh HV12).gb hgN)
          replace HBV:=jd ((uh HBV).gb hgN)
          replace HPK:=jd (Zap (uh HPK) hgN (fun e=>by have:=Zaw (uh HPK) g e; omega))
          clear hgN hgN_ hcN_ hv2 hblN hcf hpost hr
          refine hK.out _ _ hS2_ (fun _=>?_)
          clear hK K
          try simp only [Act.put,zA,zB,zC]
          refine tq 12 rfl hS2_ ?_
          refine tq 13 rfl hS2_ ?_
          refine tq 14 rfl hS2_ ?_
          refine tq 15 rfl hS2_ ?_
          refine tq 16 rfl hS2_ ?_
          refine tq 17 rfl hS2_ ?_
          refine tOz 19 rfl fun K hK=>?_
          refine Zaf (by rfl) 29 (.tmp 21) (.tmp 271) rfl q 29 _ #[vS,.int .u32 (rs.nx:Int)] rfl rfl (uh HBV) rfl (by kernel_rfl) (by intro v hv; simp at hv; rcases hv with rfl | rfl; exact Za6 (uh HVS); rfl) ?_
          intro wa3 hb4 hg4
          have hS3_:CJ w5 B g wa3:=hS2_.later (uh SIn).gsz ((Below.refl _ _).grown hg4 hS2_.size (fun j hj=>by injection hj with hj; omega))
          have ST6:Hid (ST w wa3 base B g gw U0 C0 kx kp (kn+1) d1):=jd ⟨_,_,_,_,_,_,(uh SIn).cj hS3_,uh OKn,uh HU,uh HC⟩
          have HVS4:=jd (Zap (uh HVS) hg4 (Zad (uh HVS) (uh HBV) (by decide)))
          have HV124:=jd ((uh HV12).grown hg4 (fun e=>(uh HV12).ne_ (uh HBV) (by decide) (by injection e)))
          have HB6:=jd hb4
          clear hb4 hg4
          refine hK.out _ _ hS3_ (fun _=>?_)
          clear hK K
          try simp only [Act.put]
          refine tq 20 rfl hS3_ ?_
          refine tq 21 rfl hS3_ ?_
          refine tq 22 rfl hS3_ ?_
          refine tq 23 rfl hS3_ ?_
          refine tDz ?_
          go_wp2_with fail
          go_meet
          exact ⟨q,rs,vS,rfl,uh HB6,uh HCF2,rfl,uh HVS4,uh ST6⟩
       case rest =>
        obtain ⟨w6,rfl⟩ :∃w6:World,w6=wc:=⟨_,rfl⟩
        obtain ⟨q21,rs,vS,rfl,hb6,hcf,rfl,hvs,h6⟩:=hcut
        have ST6:=jd h6
        have HB6:=jd hb6
        have HCF2:=jd hcf
        have HVS:=jd hvs
        clear h6 ST5 hb6 hcf hvs HB5
        by_cases hs0:rs.e=0
        case neg =>
          have e0:(rs.e==0)=false:=by simp [hs0]
          go_wp2_with fail
          go_end0
          exact ⟨rfl,_,(uh ST6).le (by omega) (by omega) (by omega)⟩
        have e0:(rs.e==0)=true:=by simp [hs0]
        have htab:=(uh HCF2) hs0
        have HTAB:=jd htab
        clear hs0 htab
        obtain ⟨As,cs,Au,cu,Ac,cc,Ax,cx,Ap,cp,V,si,ok,hU,hC⟩:=(uh ST6).open_
        have SIn:=jd si
        have OKn:=jd ok
        have HU:=jd hU
        have HC:=jd hC
        have hszW:=si.size
        have hgW:=si.gsz
        have hWN:=SI.bw si
        have HW:=jd hWN
        have HJ0:=jd ((CJ.start si.c:CJ w6 B g w6).drew)
        clear si ok hU hC hWN
        have HB0:=jd ((uh SIn).wd.blk)
        obtain ⟨Av,cv,hvv,_,_⟩:=Zac (uh HVS)
        subst hvv
        go_wp2_with (first
          | (refine wpList_load_row rfl 29 _ rfl q21 rfl 29 _ _ _ (uh HB6) Tryz.underlying29 rfl (by kernel_rfl) ?_)
          | (refine Zal rfl 29 (.tmp 281) (.tmp 279) rfl gw 0 37 _ (.agg #[.slice Av rs.L.length cv,.int .u32 (rs.nx:Int)]) [.slice Av rs.L.length cv,.int .u32 (rs.nx:Int)] [.slice Av rs.L.length cv,.int .u32 (rs.nx:Int),.slice Au d1.U.length cu,.slice Ac d1.C.length cc,.slice Ax d1.X.length cx,.slice Ap d1.P.length cp,.int .i64 d1.now] rfl rfl (uh HB0) rfl (by simp [ZaQ]) (by kernel_rfl) (oZz rfl rfl) rfl ?_
             intro w7 hb7 hg7
             have SI7:Hid (SI w w7 base B g gw { d1 with L:=rs.L,nx:=rs.nx } (.slice Av rs.L.length cv) (.slice Au d1.U.length cu) (.slice Ac d1.C.length cc) (.slice Ax d1.X.length cx) (.slice Ap d1.P.length cp) V):=jd ((uh SIn).put (by omega) hb7 hg7 ((uh SIn).wd.m.setS (uh HVS)))
             have OK7:=jd ((uh OKn).setS (uh HTAB))
             clear hb7 hg7)
          | fail)
        have ST7:Hid (ST w w7 base B g gw U0 C0 kx kp (kn+1) { d1 with L:=rs.L,nx:=rs.nx }):=jd ⟨_,_,_,_,_,_,uh SI7,uh OK7,uh HU,uh HC⟩
        go_end0
        exact ⟨rfl,_,(uh ST7).le (by omega) (by omega) (by omega)⟩
      ·as_aux_lemma =>
       go_upto_region 35 with fail
       go_cut [26,27,28] from 189 to 298 (fun p b e W6=>∃ (q:Nat) (rs:SRes) (vS:Value),p=.pointer (some ⟨q,0,none⟩)∧Blk W6 q 29 #[vS,.int .u32 (rs.nx:Int)]∧PFine rs∧e=.int .i64 rs.code∧W6.ownsRow base 50 26 vS rs.L.length (Zat rs.L)∧W6.ownsRow base 5 1 b rs.bs.length (bsV rs.bs)∧ST w W6 base B g gw U0 C0 kx kp (kn+1) d1)
       case first =>
        as_aux_lemma =>
        obtain ⟨As,cs,Au,cu,Ac,cc,Ax,cx,Ap,cp,V,si,ok,hU,hC⟩:=(uh ST5).open_
        have SIn:=jd si
        have OKn:=jd ok
        have HU:=jd hU
        have HC:=jd hC
        have hszW:=si.size
        have hgW:=si.gsz
        have hWN:=SI.bw si
        have HW:=jd hWN
        have HJ0:=jd ((CJ.start si.c:CJ w5 B g w5).drew)
        clear si ok hU hC hWN
        have hub:base≤w5.heap.size:=by have:=(uh SIn).wd.gt; omega
        have hS0:CJ w5 B g w5.drew:=uh HJ0
        have HTAB:=jd (uh OKn).tab
        have hL4:=(ZaZ.1 (uh HTAB).val).1
        have HWS:=jd (fun wz (hz:CJ w5 B g wz)=>(Zb1 (uh HW wz hz):wz.rangeAt gw 0 [.slice As d1.L.length cs,.int .u32 (d1.nx:Int)]))
        have HBX:=jd (fun wz (hz:CJ w5 B g wz)=>hz.blk (uh HB5) hn12)
        have HV12:Hid (Blk w5.drew q12 65 x.cs.toArray):=HB5
        refine wp_region_noPanic (wp_region_held_drew (S:=fun wz=>CJ w5 B g wz) (by kernel_rfl) hS0 (fun _=>?_))
        refine tq 0 rfl hS0 ?_
        refine tq 1 rfl hS0 ?_
        refine tq 2 rfl hS0 ?_
        refine tJz (v:=.agg [.slice As d1.L.length cs,.int .u32 (d1.nx:Int)].toArray) 3 rfl (yieldsIf_load_mid (by rfl) 29 (.tmp 287) rfl gw 0 rfl [.slice As d1.L.length cs,.int .u32 (d1.nx:Int)] _ (uh HWS) Tryz.underlying29 rfl (by kernel_rfl)) hS0 ?_
        refine tq 4 rfl hS0 ?_
        refine tJz (v:=.int .u32 (x.id:Int)) 5 rfl (Or.inl ⟨by rfl,fun wz hSw=>?_⟩) hS0 ?_
        · have hq:wz.cell? ⟨q12,20,none⟩=some (.int .u32 (x.id:Int)):=(Cli.blk (uh HXO) (uh HBX wz hSw)).id
          go_simp
        refine tq 6 rfl hS0 ?_
        refine tq 8 rfl hS0 ?_
        refine Zbk (i:=7) (j:=15) rfl rfl (by kernel_rfl) (fun K hK=>?_) (fun K hK=>?_)
        · rw [if_pos (by rfl)]
          go_simp
          refine (Zav w5.drew B g 2 hS0.2 (by decide) (by decide)).mono ?_
          rintro e wa0 ⟨x292,rfl,x292a,x292b,hcN,hgN⟩
          have hS0_:CJ w5 B g wa0:=hS0.next hcN hgN
          replace HV12:=jd ((uh HV12).gb hgN)
          obtain ⟨kb,rfl⟩:=Zdv x292a (show x292 < 256 by omega)
          clear hcN hgN x292b
          refine hK.out _ _ hS0_ (fun _=>?_)
          clear hK K
          try simp only [Act.put,zA,zB,zC]
          refine Zbk (i:=9) (j:=15) rfl rfl (by kernel_rfl) (fun K hK=>?_) (fun K hK=>?_)
          · rw [if_pos (by rfl)]
            go_simp
            refine (ZcH wa0 B g 5 hS0_.2 (by decide)).mono ?_
            rintro e wa1 hpost
            obtain ⟨v,bp,he,hbn,ho,hjN⟩:=hpost
            obtain ⟨Abp,cbp,hvb,hnbp,hmbp⟩:=Zac ho
            subst hvb he
            have HPK:=jd (Zak ho (Nat.le_trans hub hS0_.size))
            have hgN_:=hjN.1
            have hcN_:=hjN.2
            have hgN:(wa0).grownBy wa1 (some g):=hgN_
            have hS1_:CJ w5 B g wa1:=hS0_.next hcN_ hgN
            replace HV12:=jd ((uh HV12).gb hgN)
            clear hgN hgN_ hcN_ ho hjN
            refine hK.out _ _ hS1_ (fun _=>?_)
            clear hK K
            try simp only [Act.put,zA,zB,zC]
            refine Zbk (i:=10) (j:=15) rfl rfl (by kernel_rfl) (fun K hK=>?_) (fun K hK=>?_)
            · rw [if_pos (by rfl)]
              go_simp
              refine (Zee wa1 As d1.L.length cs d1.L d1.nx (Zbp ((uh SIn).cj hS1_).wd.m.s (uh HTAB).ok) (by omega) (uh HTAB).nx x.id (uh HXO).id kb Abp bp.length cbp bp (Zaj.of_own (uh HPK)) (by unfold maxLen; omega) _ rfl).mono ?_
              rintro e wa2 hpost
              obtain ⟨v,he,hv,hblN⟩:=hpost.v (Zcf _ _ _ _ _)
              obtain ⟨vS,vb,hv1,hv2,hv3⟩:=hv
              subst hv1 he
              obtain ⟨rs,hr⟩ :∃rs,Zc5 d1.L d1.nx x.id kb bp=rs:=⟨_,rfl⟩
              have hcf:PFine rs:=⟨hr ▸ Zcf _ _ _ _ _,fun h0=>by
                obtain ⟨h1,h2⟩:=(uh HTAB).send hr h0
                exact ⟨h1,by omega,by omega⟩⟩
              rw [hr] at hv2 hv3 ⊢
              have HVS:=jd (Zak hv2 (Nat.le_trans hub hS1_.size))
              have HVC:=jd (Zak hv3 (Nat.le_trans hub hS1_.size))
              have HCF2:=jd hcf
              have hgN_:(wa1).grownBy wa2 (some g):=Zah hblN _
              have hcN_:Zaq wa2 B g:=hS1_.2.below_ hblN
              have hgN:(wa1).grownBy wa2 (some g):=hgN_
              have hS2_:CJ w5 B g wa2:=hS1_.next hcN_ hgN
              replace HV12:=jd ((uh HV12).gb hgN)
              replace HPK:=jd (Zap (uh HPK) hgN (fun e=>by have:=Zaw (uh HPK) g e; omega))
              clear hgN hgN_ hcN_ hv2 hv3 hblN hcf hpost hr
              refine hK.out _ _ hS2_ (fun _=>?_)
              clear hK K
              try simp only [Act.put,zA,zB,zC]
              refine tq 11 rfl hS2_ ?_
              refine tq 12 rfl hS2_ ?_
              refine tq 13 rfl hS2_ ?_
              refine tq 14 rfl hS2_ ?_
              refine tOz 15 rfl fun K hK=>?_
              refine Zas (by rfl) 29 rfl #[.slice none 0 0,.int .u32 0] (ZaB _) ?_
              obtain ⟨wa3,hwn⟩ :∃wn,(wa2).alloc (.cells #[.slice none 0 0,.int .u32 0] 29)=wn:=⟨_,rfl⟩
              have hblN:Below (wa2).heap.size (wa2) wa3:=hwn ▸ (Below.refl _ _).alloc (Nat.le_refl _) _
              have hgN:(wa2).grownBy wa3 (some g):=Zah hblN _
              have hS3_:CJ w5 B g wa3:=hS2_.next (hS2_.2.below_ hblN) hgN
              have HBV':Blk wa3 (wa2).heap.size 29 #[.slice none 0 0,.int .u32 0]:=hwn ▸ Blk.new _ _ _
              have qz:w5.heap.size≤(wa2).heap.size:=hS2_.size
              obtain ⟨q,qe⟩ :∃q,(wa2).heap.size=q:=⟨_,rfl⟩
              rw [hwn,qe]
              rw [qe] at HBV' qz
              have HBV:=jd HBV'
              have qg:g < q:=by have:=(uh SIn).gsz; omega
              replace HV12:=jd ((uh HV12).gb hgN)
              replace HPK:=jd (Zap (uh HPK) hgN (fun e=>by have:=Zaw (uh HPK) g e; omega))
              replace HVS:=jd (Zap (uh HVS) hgN (fun e=>by have:=Zaw (uh HVS) g e; omega))
              replace HVC:=jd (Zap (uh HVC) hgN (fun e=>by have:=Zaw (uh HVC) g e; omega))
              clear hwn hblN hgN HBV' qe
              refine hK.out _ _ hS3_ (fun _=>?_)
              clear hK K
              try simp only [Act.put,zA,zB,zC]
              refine tOz 16 rfl fun K hK=>?_
              refine Zaf (by rfl) 29 (.tmp 26) (.tmp 296) rfl q 29 _ #[vS,.int .u32 (rs.nx:Int)] rfl rfl (uh HBV) rfl (by kernel_rfl) (by intro v hv; simp at hv; rcases hv with rfl | rfl; exact Za6 (uh HVS); rfl) ?_
              intro wa4 hb4 hg4
              have hS4_:CJ w5 B g wa4:=hS3_.later (uh SIn).gsz ((Below.refl _ _).grown hg4 hS3_.size (fun j hj=>by injection hj with hj; omega))
              have ST6:Hid (ST w wa4 base B g gw U0 C0 kx kp (kn+1) d1):=jd ⟨_,_,_,_,_,_,(uh SIn).cj hS4_,uh OKn,uh HU,uh HC⟩
              have HVS4:=jd (Zap (uh HVS) hg4 (Zad (uh HVS) (uh HBV) (by decide)))
              have HV124:=jd ((uh HV12).grown hg4 (fun e=>(uh HV12).ne_ (uh HBV) (by decide) (by injection e)))
              have HVC4:=jd (Zap (uh HVC) hg4 (Zad (uh HVC) (uh HBV) (by decide)))
              have HB6:=jd hb4
              clear hb4 hg4
              refine hK.out _ _ hS4_ (fun _=>?_)
              clear hK K
              try simp only [Act.put]
              refine tq 17 rfl hS4_ ?_
              refine tq 18 rfl hS4_ ?_
              refine tDz ?_
              go_wp2_with fail
              go_meet
              exact ⟨q,rs,vS,rfl,uh HB6,uh HCF2,rfl,uh HVS4,uh HVC4,uh ST6⟩
            · refine Zas (by rfl) 29 rfl #[.slice none 0 0,.int .u32 0] (ZaB _) ?_
              obtain ⟨wa2,hwn⟩ :∃wn,(wa1).alloc (.cells #[.slice none 0 0,.int .u32 0] 29)=wn:=⟨_,rfl⟩
              have hblN:Below (wa1).heap.size (wa1) wa2:=hwn ▸ (Below.refl _ _).alloc (Nat.le_refl _) _
              have hgN:(wa1).grownBy wa2 (some g):=Zah hblN _
              have hS2_:CJ w5 B g wa2:=hS1_.next (hS1_.2.below_ hblN) hgN
              have HBV':Blk wa2 (wa1).heap.size 29 #[.slice none 0 0,.int .u32 0]:=hwn ▸ Blk.new _ _ _
              have qz:w5.heap.size≤(wa1).heap.size:=hS1_.size
              obtain ⟨q,qe⟩ :∃q,(wa1).heap.size=q:=⟨_,rfl⟩
              rw [hwn,qe]
              rw [qe] at HBV' qz
              have HBV:=jd HBV'
              have qg:g < q:=by have:=(uh SIn).gsz; omega
              replace HV12:=jd ((uh HV12).gb hgN)
              replace HPK:=jd (Zap (uh HPK) hgN (fun e=>by have:=Zaw (uh HPK) g e; omega))
              clear hwn hblN hgN HBV' qe
              refine hK.out _ _ hS2_ (fun _=>?_)
              clear hK K
              try simp only [Act.put,zA,zB,zC]
              refine tCz 10 rfl fun K hK=>?_
              go_simp
              refine (Zee wa2 As d1.L.length cs d1.L d1.nx (Zbp ((uh SIn).cj hS2_).wd.m.s (uh HTAB).ok) (by omega) (uh HTAB).nx x.id (uh HXO).id kb Abp bp.length cbp bp (Zaj.of_own (uh HPK)) (by unfold maxLen; omega) _ rfl).mono ?_
              rintro e wa3 hpost
              obtain ⟨v,he,hv,hblN⟩:=hpost.v (Zcf _ _ _ _ _)
              obtain ⟨vS,vb,hv1,hv2,hv3⟩:=hv
              subst hv1 he
              obtain ⟨rs,hr⟩ :∃rs,Zc5 d1.L d1.nx x.id kb bp=rs:=⟨_,rfl⟩
              have hcf:PFine rs:=⟨hr ▸ Zcf _ _ _ _ _,fun h0=>by
                obtain ⟨h1,h2⟩:=(uh HTAB).send hr h0
                exact ⟨h1,by omega,by omega⟩⟩
              rw [hr] at hv2 hv3 ⊢
              have HVS:=jd (Zak hv2 (Nat.le_trans hub hS2_.size))
              have HVC:=jd (Zak hv3 (Nat.le_trans hub hS2_.size))
              have HCF2:=jd hcf
              have hgN_:(wa2).grownBy wa3 (some g):=Zah hblN _
              have hcN_:Zaq wa3 B g:=hS2_.2.below_ hblN
              have hgN:(wa2).grownBy wa3 (some g):=hgN_
              have hS3_:CJ w5 B g wa3:=hS2_.next hcN_ hgN
              replace HV12:=jd ((uh HV12).gb hgN)
              replace HPK:=jd (Zap (uh HPK) hgN (fun e=>by have:=Zaw (uh HPK) g e; omega))
              replace HBV:=jd ((uh HBV).gb hgN)
              clear hgN hgN_ hcN_ hv2 hv3 hblN hcf hpost hr
              refine hK.out _ _ hS3_ (fun _=>?_)
              clear hK K
              try simp only [Act.put,zA,zB,zC]
              refine tq 11 rfl hS3_ ?_
              refine tq 12 rfl hS3_ ?_
              refine tq 13 rfl hS3_ ?_
              refine tq 14 rfl hS3_ ?_
              refine tOz 16 rfl fun K hK=>?_
              refine Zaf (by rfl) 29 (.tmp 26) (.tmp 296) rfl q 29 _ #[vS,.int .u32 (rs.nx:Int)] rfl rfl (uh HBV) rfl (by kernel_rfl) (by intro v hv; simp at hv; rcases hv with rfl | rfl; exact Za6 (uh HVS); rfl) ?_
              intro wa4 hb4 hg4
              have hS4_:CJ w5 B g wa4:=hS3_.later (uh SIn).gsz ((Below.refl _ _).grown hg4 hS3_.size (fun j hj=>by injection hj with hj; omega))
              have ST6:Hid (ST w wa4 base B g gw U0 C0 kx kp (kn+1) d1):=jd ⟨_,_,_,_,_,_,(uh SIn).cj hS4_,uh OKn,uh HU,uh HC⟩
              have HVS4:=jd (Zap (uh HVS) hg4 (Zad (uh HVS) (uh HBV) (by decide)))
              have HV124:=jd ((uh HV12).grown hg4 (fun e=>(uh HV12).ne_ (uh HBV) (by decide) (by injection e)))
              have HVC4:=jd (Zap (uh HVC) hg4 (Zad (uh HVC) (uh HBV) (by decide)))
              have HB6:=jd hb4
              clear hb4 hg4
              refine hK.out _ _ hS4_ (fun _=>?_)
              clear hK K
              try simp only [Act.put]
              refine tq 17 rfl hS4_ ?_
              refine tq 18 rfl hS4_ ?_
              refine tDz ?_
              go_wp2_with fail
              go_meet
              exact ⟨q,rs,vS,rfl,uh HB6,uh HCF2,rfl,uh HVS4,uh HVC4,uh ST6⟩
          · refine Zas (by rfl) 29 rfl #[.slice none 0 0,.int .u32 0] (ZaB _) ?_
            obtain ⟨wa1,hwn⟩ :∃wn,(wa0).alloc (.cells #[.slice none 0 0,.int .u32 0] 29)=wn:=⟨_,rfl⟩
            have hblN:Below (wa0).heap.size (wa0) wa1:=hwn ▸ (Below.refl _ _).alloc (Nat.le_refl _) _
            have hgN:(wa0).grownBy wa1 (some g):=Zah hblN _
            have hS1_:CJ w5 B g wa1:=hS0_.next (hS0_.2.below_ hblN) hgN
            have HBV':Blk wa1 (wa0).heap.size 29 #[.slice none 0 0,.int .u32 0]:=hwn ▸ Blk.new _ _ _
            have qz:w5.heap.size≤(wa0).heap.size:=hS0_.size
            obtain ⟨q,qe⟩ :∃q,(wa0).heap.size=q:=⟨_,rfl⟩
            rw [hwn,qe]
            rw [qe] at HBV' qz
            have HBV:=jd HBV'
            have qg:g < q:=by have:=(uh SIn).gsz; omega
            replace HV12:=jd ((uh HV12).gb hgN)
            clear hwn hblN hgN HBV' qe
            refine hK.out _ _ hS1_ (fun _=>?_)
            clear hK K
            try simp only [Act.put,zA,zB,zC]
            refine tCz 9 rfl fun K hK=>?_
            go_simp
            refine (ZcH wa1 B g 5 hS1_.2 (by decide)).mono ?_
            rintro e wa2 hpost
            obtain ⟨v,bp,he,hbn,ho,hjN⟩:=hpost
            obtain ⟨Abp,cbp,hvb,hnbp,hmbp⟩:=Zac ho
            subst hvb he
            have HPK:=jd (Zak ho (Nat.le_trans hub hS1_.size))
            have hgN_:=hjN.1
            have hcN_:=hjN.2
            have hgN:(wa1).grownBy wa2 (some g):=hgN_
            have hS2_:CJ w5 B g wa2:=hS1_.next hcN_ hgN
            replace HV12:=jd ((uh HV12).gb hgN)
            replace HBV:=jd ((uh HBV).gb hgN)
            clear hgN hgN_ hcN_ ho hjN
            refine hK.out _ _ hS2_ (fun _=>?_)
            clear hK K
            try simp only [Act.put,zA,zB,zC]
            refine tCz 10 rfl fun K hK=>?_
            go_simp
            refine (Zee wa2 As d1.L.length cs d1.L d1.nx (Zbp ((uh SIn).cj hS2_).wd.m.s (uh HTAB).ok) (by omega) (uh HTAB).nx x.id (uh HXO).id kb Abp bp.length cbp bp (Zaj.of_own (uh HPK)) (by unfold maxLen; omega) _ rfl).mono ?_
            rintro e wa3 hpost
            obtain ⟨v,he,hv,hblN⟩:=hpost.v (Zcf _ _ _ _ _)
            obtain ⟨vS,vb,hv1,hv2,hv3⟩:=hv
            subst hv1 he
            obtain ⟨rs,hr⟩ :∃rs,Zc5 d1.L d1.nx x.id kb bp=rs:=⟨_,rfl⟩
            have hcf:PFine rs:=⟨hr ▸ Zcf _ _ _ _ _,fun h0=>by
              obtain ⟨h1,h2⟩:=(uh HTAB).send hr h0
              exact ⟨h1,by omega,by omega⟩⟩
            rw [hr] at hv2 hv3 ⊢
            have HVS:=jd (Zak hv2 (Nat.le_trans hub hS2_.size))
            have HVC:=jd (Zak hv3 (Nat.le_trans hub hS2_.size))
            have HCF2:=jd hcf
            have hgN_:(wa2).grownBy wa3 (some g):=Zah hblN _
            have hcN_:Zaq wa3 B g:=hS2_.2.below_ hblN
            have hgN:(wa2).grownBy wa3 (some g):=hgN_
            have hS3_:CJ w5 B g wa3:=hS2_.next hcN_ hgN
            replace HV12:=jd ((uh HV12).gb hgN)
            replace HBV:=jd ((uh HBV).gb hgN)
            replace HPK:=jd (Zap (uh HPK) hgN (fun e=>by have:=Zaw (uh HPK) g e; omega))
            clear hgN hgN_ hcN_ hv2 hv3 hblN hcf hpost hr
            refine hK.out _ _ hS3_ (fun _=>?_)
            clear hK K
            try simp only [Act.put,zA,zB,zC]
            refine tq 11 rfl hS3_ ?_
            refine tq 12 rfl hS3_ ?_
            refine tq 13 rfl hS3_ ?_
            refine tq 14 rfl hS3_ ?_
            refine tOz 16 rfl fun K hK=>?_
            refine Zaf (by rfl) 29 (.tmp 26) (.tmp 296) rfl q 29 _ #[vS,.int .u32 (rs.nx:Int)] rfl rfl (uh HBV) rfl (by kernel_rfl) (by intro v hv; simp at hv; rcases hv with rfl | rfl; exact Za6 (uh HVS); rfl) ?_
            intro wa4 hb4 hg4
            have hS4_:CJ w5 B g wa4:=hS3_.later (uh SIn).gsz ((Below.refl _ _).grown hg4 hS3_.size (fun j hj=>by injection hj with hj; omega))
            have ST6:Hid (ST w wa4 base B g gw U0 C0 kx kp (kn+1) d1):=jd ⟨_,_,_,_,_,_,(uh SIn).cj hS4_,uh OKn,uh HU,uh HC⟩
            have HVS4:=jd (Zap (uh HVS) hg4 (Zad (uh HVS) (uh HBV) (by decide)))
            have HV124:=jd ((uh HV12).grown hg4 (fun e=>(uh HV12).ne_ (uh HBV) (by decide) (by injection e)))
            have HVC4:=jd (Zap (uh HVC) hg4 (Zad (uh HVC) (uh HBV) (by decide)))
            have HB6:=jd hb4
            clear hb4 hg4
            refine hK.out _ _ hS4_ (fun _=>?_)
            clear hK K
            try simp only [Act.put]
            refine tq 17 rfl hS4_ ?_
            refine tq 18 rfl hS4_ ?_
            refine tDz ?_
            go_wp2_with fail
            go_meet
            exact ⟨q,rs,vS,rfl,uh HB6,uh HCF2,rfl,uh HVS4,uh HVC4,uh ST6⟩
        · refine Zas (by rfl) 29 rfl #[.slice none 0 0,.int .u32 0] (ZaB _) ?_
          obtain ⟨wa0,hwn⟩ :∃wn,(w5.drew).alloc (.cells #[.slice none 0 0,.int .u32 0] 29)=wn:=⟨_,rfl⟩
          have hblN:Below (w5.drew).heap.size (w5.drew) wa0:=hwn ▸ (Below.refl _ _).alloc (Nat.le_refl _) _
          have hgN:(w5.drew).grownBy wa0 (some g):=Zah hblN _
          have hS0_:CJ w5 B g wa0:=hS0.next (hS0.2.below_ hblN) hgN
          have HBV':Blk wa0 (w5.drew).heap.size 29 #[.slice none 0 0,.int .u32 0]:=hwn ▸ Blk.new _ _ _
          have qz:w5.heap.size≤(w5.drew).heap.size:=hS0.size
          obtain ⟨q,qe⟩ :∃q,(w5.drew).heap.size=q:=⟨_,rfl⟩
          rw [hwn,qe]
          rw [qe] at HBV' qz
          have HBV:=jd HBV'
          have qg:g < q:=by have:=(uh SIn).gsz; omega
          replace HV12:=jd ((uh HV12).gb hgN)
          clear hwn hblN hgN HBV' qe
          refine hK.out _ _ hS0_ (fun _=>?_)
          clear hK K
          try simp only [Act.put,zA,zB,zC]
          refine tCz 7 rfl fun K hK=>?_
          go_simp
          refine (Zav wa0 B g 2 hS0_.2 (by decide) (by decide)).mono ?_
          rintro e wa1 ⟨x292,rfl,x292a,x292b,hcN,hgN⟩
          have hS1_:CJ w5 B g wa1:=hS0_.next hcN hgN
          replace HV12:=jd ((uh HV12).gb hgN)
          replace HBV:=jd ((uh HBV).gb hgN)
          obtain ⟨kb,rfl⟩:=Zdv x292a (show x292 < 256 by omega)
          clear hcN hgN x292b
          refine hK.out _ _ hS1_ (fun _=>?_)
          clear hK K
          try simp only [Act.put,zA,zB,zC]
          refine tCz 9 rfl fun K hK=>?_
          go_simp
          refine (ZcH wa1 B g 5 hS1_.2 (by decide)).mono ?_
          rintro e wa2 hpost
          obtain ⟨v,bp,he,hbn,ho,hjN⟩:=hpost
          obtain ⟨Abp,cbp,hvb,hnbp,hmbp⟩:=Zac ho
          subst hvb he
          have HPK:=jd (Zak ho (Nat.le_trans hub hS1_.size))
          have hgN_:=hjN.1
          have hcN_:=hjN.2
          have hgN:(wa1).grownBy wa2 (some g):=hgN_
          have hS2_:CJ w5 B g wa2:=hS1_.next hcN_ hgN
          replace HV12:=jd ((uh HV12).gb hgN)
          replace HBV:=jd ((uh HBV).gb hgN)
          clear hgN hgN_ hcN_ ho hjN
          refine hK.out _ _ hS2_ (fun _=>?_)
          clear hK K
          try simp only [Act.put,zA,zB,zC]
          refine tCz 10 rfl fun K hK=>?_
          go_simp
          refine (Zee wa2 As d1.L.length cs d1.L d1.nx (Zbp ((uh SIn).cj hS2_).wd.m.s (uh HTAB).ok) (by omega) (uh HTAB).nx x.id (uh HXO).id kb Abp bp.length cbp bp (Zaj.of_own (uh HPK)) (by unfold maxLen; omega) _ rfl).mono ?_
          rintro e wa3 hpost
          obtain ⟨v,he,hv,hblN⟩:=hpost.v (Zcf _ _ _ _ _)
          obtain ⟨vS,vb,hv1,hv2,hv3⟩:=hv
          subst hv1 he
          obtain ⟨rs,hr⟩ :∃rs,Zc5 d1.L d1.nx x.id kb bp=rs:=⟨_,rfl⟩
          have hcf:PFine rs:=⟨hr ▸ Zcf _ _ _ _ _,fun h0=>by
            obtain ⟨h1,h2⟩:=(uh HTAB).send hr h0
            exact ⟨h1,by omega,by omega⟩⟩
          rw [hr] at hv2 hv3 ⊢
          have HVS:=jd (Zak hv2 (Nat.le_trans hub hS2_.size))
          have HVC:=jd (Zak hv3 (Nat.le_trans hub hS2_.size))
          have HCF2:=jd hcf
          have hgN_:(wa2).grownBy wa3 (some g):=Zah hblN _
          have hcN_:Zaq wa3 B g:=hS2_.2.below_ hblN
          have hgN:(wa2).grownBy wa3 (some g):=hgN_
          have hS3_:CJ w5 B g wa3:=hS2_.next hcN_ hgN
          replace HV12:=jd ((uh HV12).gb hgN)
          replace HBV:=jd ((uh HBV).gb hgN)
          replace HPK:=jd (Zap (uh HPK) hgN (fun e=>by have:=Zaw (uh HPK) g e; omega))
          clear hgN hgN_ hcN_ hv2 hv3 hblN hcf hpost hr
          refine hK.out _ _ hS3_ (fun _=>?_)
          clear hK K
          try simp only [Act.put,zA,zB,zC]
          refine tq 11 rfl hS3_ ?_
          refine tq 12 rfl hS3_ ?_
          refine tq 13 rfl hS3_ ?_
          refine tq 14 rfl hS3_ ?_
          refine tOz 16 rfl fun K hK=>?_
          refine Zaf (by rfl) 29 (.tmp 26) (.tmp 296) rfl q 29 _ #[vS,.int .u32 (rs.nx:Int)] rfl rfl (uh HBV) rfl (by kernel_rfl) (by intro v hv; simp at hv; rcases hv with rfl | rfl; exact Za6 (uh HVS); rfl) ?_
          intro wa4 hb4 hg4
          have hS4_:CJ w5 B g wa4:=hS3_.later (uh SIn).gsz ((Below.refl _ _).grown hg4 hS3_.size (fun j hj=>by injection hj with hj; omega))
          have ST6:Hid (ST w wa4 base B g gw U0 C0 kx kp (kn+1) d1):=jd ⟨_,_,_,_,_,_,(uh SIn).cj hS4_,uh OKn,uh HU,uh HC⟩
          have HVS4:=jd (Zap (uh HVS) hg4 (Zad (uh HVS) (uh HBV) (by decide)))
          have HV124:=jd ((uh HV12).grown hg4 (fun e=>(uh HV12).ne_ (uh HBV) (by decide) (by injection e)))
          have HVC4:=jd (Zap (uh HVC) hg4 (Zad (uh HVC) (uh HBV) (by decide)))
          have HB6:=jd hb4
          clear hb4 hg4
          refine hK.out _ _ hS4_ (fun _=>?_)
          clear hK K
          try simp only [Act.put]
          refine tq 17 rfl hS4_ ?_
          refine tq 18 rfl hS4_ ?_
          refine tDz ?_
          go_wp2_with fail
          go_meet
          exact ⟨q,rs,vS,rfl,uh HB6,uh HCF2,rfl,uh HVS4,uh HVC4,uh ST6⟩
       case rest =>
        obtain ⟨w6,rfl⟩ :∃w6:World,w6=wc:=⟨_,rfl⟩
        obtain ⟨q26,rs,vS,rfl,hb6,hcf,rfl,hvs,hvc,h6⟩:=hcut
        have ST6:=jd h6
        have HB6:=jd hb6
        have HCF2:=jd hcf
        have HVS:=jd hvs
        have HVC:=jd hvc
        clear h6 ST5 hb6 hcf hvs hvc HB5
        by_cases hs0:rs.code=0
        case neg =>
          have e0:(rs.code==0)=false:=by simp [hs0]
          go_wp2_with fail
          go_end0
          exact ⟨rfl,_,(uh ST6).le (by omega) (by omega) (by omega)⟩
        have e0:(rs.code==0)=true:=by simp [hs0]
        obtain ⟨htab,hbl0,hbl1⟩:=(uh HCF2).2 hs0
        have HTAB:=jd htab
        clear hs0 htab
        obtain ⟨As,cs,Au,cu,Ac,cc,Ax,cx,Ap,cp,V,si,ok,hU,hC⟩:=(uh ST6).open_
        have SIn:=jd si
        have OKn:=jd ok
        have HU:=jd hU
        have HC:=jd hC
        have hszW:=si.size
        have hgW:=si.gsz
        have hWN:=SI.bw si
        have HW:=jd hWN
        have HJ0:=jd ((CJ.start si.c:CJ w6 B g w6).drew)
        clear si ok hU hC hWN
        have HB0:=jd ((uh SIn).wd.blk)
        obtain ⟨Av,cv,hvv,_,_⟩:=Zac (uh HVS)
        subst hvv
        go_wp2_with (first
          | (refine wpList_load_row rfl 29 _ rfl q26 rfl 29 _ _ _ (uh HB6) Tryz.underlying29 rfl (by kernel_rfl) ?_)
          | (refine Zal rfl 29 (.tmp 304) (.tmp 302) rfl gw 0 37 _ (.agg #[.slice Av rs.L.length cv,.int .u32 (rs.nx:Int)]) [.slice Av rs.L.length cv,.int .u32 (rs.nx:Int)] [.slice Av rs.L.length cv,.int .u32 (rs.nx:Int),.slice Au d1.U.length cu,.slice Ac d1.C.length cc,.slice Ax d1.X.length cx,.slice Ap d1.P.length cp,.int .i64 d1.now] rfl rfl (uh HB0) rfl (by simp [ZaQ]) (by kernel_rfl) (oZz rfl rfl) rfl ?_
             intro w7 hb7 hg7
             have SI7:Hid (SI w w7 base B g gw { d1 with L:=rs.L,nx:=rs.nx } (.slice Av rs.L.length cv) (.slice Au d1.U.length cu) (.slice Ac d1.C.length cc) (.slice Ax d1.X.length cx) (.slice Ap d1.P.length cp) V):=jd ((uh SIn).put (by omega) hb7 hg7 ((uh SIn).wd.m.setS (uh HVS)))
             have OK7:=jd ((uh OKn).setS (uh HTAB))
             have HVC7:=jd (World.ownsRow.kept (uh HVC) hg7 (.inr (Zad (uh HVC) (uh HB0) (by decide))))
             clear hb7 hg7)
          | fail)
        have hpl7:d1.P.length≤1000:=by have:=(uh OKn).plen; omega
        obtain ⟨A9,c9,hv9,hn9,hm9⟩:=Zac (uh HVC7)
        subst hv9
        refine (add_cx w7 base gw { d1 with L:=rs.L,nx:=rs.nx } _ _ _ _ _ V (uh SI7).wd hbw hpl7 _ rs.bs (uh HVC7)).mono ?_
        rintro e w8 hadd
        obtain rfl:=hadd.1
        obtain ⟨vp8,V8,hsi8⟩:=(uh SI7).add hgb hadd
        obtain ⟨d2,hd2⟩ :∃d2:Wd,d2={ d1 with L:=rs.L,nx:=rs.nx,P:=d1.P++[rs.bs] }:=⟨_,rfl⟩
        have HD2:Hid (d2.X=d1.X):=jd (by rw [hd2])
        have SI8:Hid (SI w w8 base B g gw d2 (.slice Av rs.L.length cv) (.slice Au d2.U.length cu) (.slice Ac d2.C.length cc) (.slice Ax d2.X.length cx) vp8 V8):=jd (hd2 ▸ hsi8)
        have OK8:Hid (WdOk d2 kx (kp+1) (kn+1)):=jd (hd2 ▸ (uh OK7).pushP hbl0 hbl1)
        replace HU:Hid (d2.U=U0):=jd (by rw [hd2]; exact uh HU)
        replace HC:Hid (d2.C=C0):=jd (by rw [hd2]; exact uh HC)
        have HVC8:=jd (ZcM (uh HVC7) hadd ⟨_,(uh SI7).wd.blk⟩)
        clear hadd hsi8 hd2 HW HJ0 SIn OKn SI7 OK7 HVC7 HB0 e0 ST6
        have ST9:Hid (ST w w8 base B g gw U0 C0 kx (kp+1) (kn+1) d2):=jd ⟨_,_,_,_,_,_,uh SI8,uh OK8,uh HU,uh HC⟩
        go_wp2_with fail
        go_end0
        exact ⟨rfl,_,(uh ST9).le (by omega) (by omega) (by omega)⟩
      ·as_aux_lemma =>
       go_upto_region 40 with fail
       go_cut [29,30,31,32] from 189 to 319 (fun p _ _ e W6=>∃ (q:Nat) (rs:TRes),p=.pointer (some ⟨q,0,none⟩)∧Blk W6 q 65 rs.c.cs.toArray∧TFine rs∧e=.int .i64 rs.e∧STq w W6 base B g gw U0 C0 kx kp (kn+1) d1 q)
       case first =>
        as_aux_lemma =>
        obtain ⟨As,cs,Au,cu,Ac,cc,Ax,cx,Ap,cp,V,si,ok,hU,hC⟩:=(uh ST5).open_
        have SIn:=jd si
        have OKn:=jd ok
        have HU:=jd hU
        have HC:=jd hC
        have hszW:=si.size
        have hgW:=si.gsz
        have hWN:=SI.bw si
        have HW:=jd hWN
        have HJ0:=jd ((CJ.start si.c:CJ w5 B g w5).drew)
        clear si ok hU hC hWN
        have hub:base≤w5.heap.size:=by have:=(uh SIn).wd.gt; omega
        have hS0:CJ w5 B g w5.drew:=uh HJ0
        have HTAB:=jd (uh OKn).tab
        have hL4:=(ZaZ.1 (uh HTAB).val).1
        have HWS:=jd (fun wz (hz:CJ w5 B g wz)=>(Zb1 (uh HW wz hz):wz.rangeAt gw 0 [.slice As d1.L.length cs,.int .u32 (d1.nx:Int)]))
        have HBX:=jd (fun wz (hz:CJ w5 B g wz)=>hz.blk (uh HB5) hn12)
        have HV12:Hid (Blk w5.drew q12 65 x.cs.toArray):=HB5
        refine wp_region_noPanic (wp_region_held_drew (S:=fun wz=>CJ w5 B g wz) (by kernel_rfl) hS0 (fun _=>?_))
        refine ZdA (i:=0)  rfl (by kernel_rfl) (by kernel_rfl) (by kernel_rfl) (Zar 65 (.tmp 12) (by rfl) rfl q12 rfl 65 x.cs.toArray _ (uh HBX) Tryz.underlying65 rfl (Zai (uh HXO))) hS0 ?_
        simp only [Act.put,zA,zB,zC]
        refine tq 1 rfl hS0 ?_
        refine tq 2 rfl hS0 ?_
        refine Zbk (i:=3) (j:=10) rfl rfl (by kernel_rfl) (fun K hK=>?_) (fun K hK=>?_)
        · rw [if_pos (by rfl)]
          go_simp
          refine (ZdV w5.drew B g base gw d1 _ _ _ _ _ V hS0.2 ((uh SIn).cj hS0).wd (uh OKn).pok (by have:=(uh OKn).plen; omega)).mono ?_
          rintro e wa0 hpost
          obtain ⟨v,bp,he,bp0,bp1,ho,hjN⟩:=hpost
          obtain ⟨Abp,cbp,hvb,hnbp,hmbp⟩:=Zac ho
          subst hvb he
          have HPK:=jd (Zak ho (Nat.le_trans hub hS0.size))
          have hgN_:=hjN.1
          have hcN_:=hjN.2
          have hgN:(w5.drew).grownBy wa0 (some g):=hgN_
          have hS0_:CJ w5 B g wa0:=hS0.next hcN_ hgN
          clear hgN hgN_ hcN_ ho hjN
          refine hK.out _ _ hS0_ (fun _=>?_)
          clear hK K
          try simp only [Act.put,zA,zB,zC]
          refine Zbk (i:=4) (j:=10) rfl rfl (by kernel_rfl) (fun K hK=>?_) (fun K hK=>?_)
          · rw [if_pos (by rfl)]
            go_simp
            refine (rtake_sx wa0 x (uh HXO) Abp bp.length cbp bp (Zaj.of_own (uh HPK)) hnbp hmbp _ rfl).mono ?_
            rintro e wa1 hpost
            obtain ⟨v,he,hv,hblN⟩:=hpost.v (ZdG _ _)
            obtain ⟨x2,x3,hv1⟩:=hv
            subst hv1 he
            obtain ⟨rs,hr⟩ :∃rs,Zdo x bp=rs:=⟨_,rfl⟩
            have hcf:TFine rs:=by
              subst hr
              refine ⟨?_,fun h0=>?_⟩
              · by_cases h0:(Zdo x bp).e=0
                · exact (ZcY (uh HXO) h0).1
                · rw [ZdG _ _ h0]; exact Zau
              · rw [(ZcY (uh HXO) h0).2]; exact uh HXU
            rw [hr]
            have HCF2:=jd hcf
            have hgN_:(wa0).grownBy wa1 (some g):=Zah hblN _
            have hcN_:Zaq wa1 B g:=hS0_.2.below_ hblN
            have hgN:(wa0).grownBy wa1 (some g):=hgN_
            have hS1_:CJ w5 B g wa1:=hS0_.next hcN_ hgN
            replace HPK:=jd (Zap (uh HPK) hgN (fun e=>by have:=Zaw (uh HPK) g e; omega))
            clear hgN hgN_ hcN_ hblN hcf hpost hr
            refine hK.out _ _ hS1_ (fun _=>?_)
            clear hK K
            try simp only [Act.put,zA,zB,zC]
            refine tq 5 rfl hS1_ ?_
            refine tq 6 rfl hS1_ ?_
            refine tq 7 rfl hS1_ ?_
            refine tq 8 rfl hS1_ ?_
            refine tq 9 rfl hS1_ ?_
            refine tOz 10 rfl fun K hK=>?_
            refine Zas (by rfl) 65 rfl zCli.cs.toArray (Zaz _) ?_
            obtain ⟨wa2,hwn⟩ :∃wn,(wa1).alloc (.cells zCli.cs.toArray 65)=wn:=⟨_,rfl⟩
            have hblN:Below (wa1).heap.size (wa1) wa2:=hwn ▸ (Below.refl _ _).alloc (Nat.le_refl _) _
            have hgN:(wa1).grownBy wa2 (some g):=Zah hblN _
            have hS2_:CJ w5 B g wa2:=hS1_.next (hS1_.2.below_ hblN) hgN
            have HBV':Blk wa2 (wa1).heap.size 65 zCli.cs.toArray:=hwn ▸ Blk.new _ _ _
            have qz:w5.heap.size≤(wa1).heap.size:=hS1_.size
            obtain ⟨q,qe⟩ :∃q,(wa1).heap.size=q:=⟨_,rfl⟩
            rw [hwn,qe]
            rw [qe] at HBV' qz
            have HBV:=jd HBV'
            have qg:g < q:=by have:=(uh SIn).gsz; omega
            replace HPK:=jd (Zap (uh HPK) hgN (fun e=>by have:=Zaw (uh HPK) g e; omega))
            clear hwn hblN hgN HBV' qe
            refine hK.out _ _ hS2_ (fun _=>?_)
            clear hK K
            try simp only [Act.put,zA,zB,zC]
            refine tOz 11 rfl fun K hK=>?_
            refine Zaf (by rfl) 65 (.tmp 29) (.tmp 316) rfl q 65 _ rs.c.cs.toArray rfl rfl (uh HBV) (Cli.size_eq (uh HCF2).1) (Zai (uh HCF2).1) (fun v hv=>Cli.one v (by simpa using hv)) ?_
            intro wa3 hb4 hg4
            have hS3_:CJ w5 B g wa3:=hS2_.later (uh SIn).gsz ((Below.refl _ _).grown hg4 hS2_.size (fun j hj=>by injection hj with hj; omega))
            have hnx6:(Value.slice Ax d1.X.length cx).ownBlock≠some q:=fun e=>by have:=(uh SIn).wd.m.x.lt _ e; omega
            have ST6:Hid (STq w wa3 base B g gw U0 C0 kx kp (kn+1) d1 q):=jd ⟨_,_,_,_,_,_,(uh SIn).cj hS3_,uh OKn,uh HU,uh HC,hnx6⟩
            have HB6:=jd hb4
            clear hb4 hg4
            refine hK.out _ _ hS3_ (fun _=>?_)
            clear hK K
            try simp only [Act.put]
            refine tq 12 rfl hS3_ ?_
            refine tq 13 rfl hS3_ ?_
            refine tq 14 rfl hS3_ ?_
            refine tDz ?_
            go_wp2_with fail
            go_meet
            exact ⟨q,rs,rfl,uh HB6,uh HCF2,rfl,uh ST6⟩
          · refine Zas (by rfl) 65 rfl zCli.cs.toArray (Zaz _) ?_
            obtain ⟨wa1,hwn⟩ :∃wn,(wa0).alloc (.cells zCli.cs.toArray 65)=wn:=⟨_,rfl⟩
            have hblN:Below (wa0).heap.size (wa0) wa1:=hwn ▸ (Below.refl _ _).alloc (Nat.le_refl _) _
            have hgN:(wa0).grownBy wa1 (some g):=Zah hblN _
            have hS1_:CJ w5 B g wa1:=hS0_.next (hS0_.2.below_ hblN) hgN
            have HBV':Blk wa1 (wa0).heap.size 65 zCli.cs.toArray:=hwn ▸ Blk.new _ _ _
            have qz:w5.heap.size≤(wa0).heap.size:=hS0_.size
            obtain ⟨q,qe⟩ :∃q,(wa0).heap.size=q:=⟨_,rfl⟩
            rw [hwn,qe]
            rw [qe] at HBV' qz
            have HBV:=jd HBV'
            have qg:g < q:=by have:=(uh SIn).gsz; omega
            replace HPK:=jd (Zap (uh HPK) hgN (fun e=>by have:=Zaw (uh HPK) g e; omega))
            clear hwn hblN hgN HBV' qe
            refine hK.out _ _ hS1_ (fun _=>?_)
            clear hK K
            try simp only [Act.put,zA,zB,zC]
            refine tCz 4 rfl fun K hK=>?_
            go_simp
            refine (rtake_sx wa1 x (uh HXO) Abp bp.length cbp bp (Zaj.of_own (uh HPK)) hnbp hmbp _ rfl).mono ?_
            rintro e wa2 hpost
            obtain ⟨v,he,hv,hblN⟩:=hpost.v (ZdG _ _)
            obtain ⟨x2,x3,hv1⟩:=hv
            subst hv1 he
            obtain ⟨rs,hr⟩ :∃rs,Zdo x bp=rs:=⟨_,rfl⟩
            have hcf:TFine rs:=by
              subst hr
              refine ⟨?_,fun h0=>?_⟩
              · by_cases h0:(Zdo x bp).e=0
                · exact (ZcY (uh HXO) h0).1
                · rw [ZdG _ _ h0]; exact Zau
              · rw [(ZcY (uh HXO) h0).2]; exact uh HXU
            rw [hr]
            have HCF2:=jd hcf
            have hgN_:(wa1).grownBy wa2 (some g):=Zah hblN _
            have hcN_:Zaq wa2 B g:=hS1_.2.below_ hblN
            have hgN:(wa1).grownBy wa2 (some g):=hgN_
            have hS2_:CJ w5 B g wa2:=hS1_.next hcN_ hgN
            replace HPK:=jd (Zap (uh HPK) hgN (fun e=>by have:=Zaw (uh HPK) g e; omega))
            replace HBV:=jd ((uh HBV).gb hgN)
            clear hgN hgN_ hcN_ hblN hcf hpost hr
            refine hK.out _ _ hS2_ (fun _=>?_)
            clear hK K
            try simp only [Act.put,zA,zB,zC]
            refine tq 5 rfl hS2_ ?_
            refine tq 6 rfl hS2_ ?_
            refine tq 7 rfl hS2_ ?_
            refine tq 8 rfl hS2_ ?_
            refine tq 9 rfl hS2_ ?_
            refine tOz 11 rfl fun K hK=>?_
            refine Zaf (by rfl) 65 (.tmp 29) (.tmp 316) rfl q 65 _ rs.c.cs.toArray rfl rfl (uh HBV) (Cli.size_eq (uh HCF2).1) (Zai (uh HCF2).1) (fun v hv=>Cli.one v (by simpa using hv)) ?_
            intro wa3 hb4 hg4
            have hS3_:CJ w5 B g wa3:=hS2_.later (uh SIn).gsz ((Below.refl _ _).grown hg4 hS2_.size (fun j hj=>by injection hj with hj; omega))
            have hnx6:(Value.slice Ax d1.X.length cx).ownBlock≠some q:=fun e=>by have:=(uh SIn).wd.m.x.lt _ e; omega
            have ST6:Hid (STq w wa3 base B g gw U0 C0 kx kp (kn+1) d1 q):=jd ⟨_,_,_,_,_,_,(uh SIn).cj hS3_,uh OKn,uh HU,uh HC,hnx6⟩
            have HB6:=jd hb4
            clear hb4 hg4
            refine hK.out _ _ hS3_ (fun _=>?_)
            clear hK K
            try simp only [Act.put]
            refine tq 12 rfl hS3_ ?_
            refine tq 13 rfl hS3_ ?_
            refine tq 14 rfl hS3_ ?_
            refine tDz ?_
            go_wp2_with fail
            go_meet
            exact ⟨q,rs,rfl,uh HB6,uh HCF2,rfl,uh ST6⟩
        · refine Zas (by rfl) 65 rfl zCli.cs.toArray (Zaz _) ?_
          obtain ⟨wa0,hwn⟩ :∃wn,(w5.drew).alloc (.cells zCli.cs.toArray 65)=wn:=⟨_,rfl⟩
          have hblN:Below (w5.drew).heap.size (w5.drew) wa0:=hwn ▸ (Below.refl _ _).alloc (Nat.le_refl _) _
          have hgN:(w5.drew).grownBy wa0 (some g):=Zah hblN _
          have hS0_:CJ w5 B g wa0:=hS0.next (hS0.2.below_ hblN) hgN
          have HBV':Blk wa0 (w5.drew).heap.size 65 zCli.cs.toArray:=hwn ▸ Blk.new _ _ _
          have qz:w5.heap.size≤(w5.drew).heap.size:=hS0.size
          obtain ⟨q,qe⟩ :∃q,(w5.drew).heap.size=q:=⟨_,rfl⟩
          rw [hwn,qe]
          rw [qe] at HBV' qz
          have HBV:=jd HBV'
          have qg:g < q:=by have:=(uh SIn).gsz; omega
          clear hwn hblN hgN HBV' qe
          refine hK.out _ _ hS0_ (fun _=>?_)
          clear hK K
          try simp only [Act.put,zA,zB,zC]
          refine tCz 3 rfl fun K hK=>?_
          go_simp
          refine (ZdV wa0 B g base gw d1 _ _ _ _ _ V hS0_.2 ((uh SIn).cj hS0_).wd (uh OKn).pok (by have:=(uh OKn).plen; omega)).mono ?_
          rintro e wa1 hpost
          obtain ⟨v,bp,he,bp0,bp1,ho,hjN⟩:=hpost
          obtain ⟨Abp,cbp,hvb,hnbp,hmbp⟩:=Zac ho
          subst hvb he
          have HPK:=jd (Zak ho (Nat.le_trans hub hS0_.size))
          have hgN_:=hjN.1
          have hcN_:=hjN.2
          have hgN:(wa0).grownBy wa1 (some g):=hgN_
          have hS1_:CJ w5 B g wa1:=hS0_.next hcN_ hgN
          replace HBV:=jd ((uh HBV).gb hgN)
          clear hgN hgN_ hcN_ ho hjN
          refine hK.out _ _ hS1_ (fun _=>?_)
          clear hK K
          try simp only [Act.put,zA,zB,zC]
          refine tCz 4 rfl fun K hK=>?_
          go_simp
          refine (rtake_sx wa1 x (uh HXO) Abp bp.length cbp bp (Zaj.of_own (uh HPK)) hnbp hmbp _ rfl).mono ?_
          rintro e wa2 hpost
          obtain ⟨v,he,hv,hblN⟩:=hpost.v (ZdG _ _)
          obtain ⟨x2,x3,hv1⟩:=hv
          subst hv1 he
          obtain ⟨rs,hr⟩ :∃rs,Zdo x bp=rs:=⟨_,rfl⟩
          have hcf:TFine rs:=by
            subst hr
            refine ⟨?_,fun h0=>?_⟩
            · by_cases h0:(Zdo x bp).e=0
              · exact (ZcY (uh HXO) h0).1
              · rw [ZdG _ _ h0]; exact Zau
            · rw [(ZcY (uh HXO) h0).2]; exact uh HXU
          rw [hr]
          have HCF2:=jd hcf
          have hgN_:(wa1).grownBy wa2 (some g):=Zah hblN _
          have hcN_:Zaq wa2 B g:=hS1_.2.below_ hblN
          have hgN:(wa1).grownBy wa2 (some g):=hgN_
          have hS2_:CJ w5 B g wa2:=hS1_.next hcN_ hgN
          replace HBV:=jd ((uh HBV).gb hgN)
          replace HPK:=jd (Zap (uh HPK) hgN (fun e=>by have:=Zaw (uh HPK) g e; omega))
          clear hgN hgN_ hcN_ hblN hcf hpost hr
          refine hK.out _ _ hS2_ (fun _=>?_)
          clear hK K
          try simp only [Act.put,zA,zB,zC]
          refine tq 5 rfl hS2_ ?_
          refine tq 6 rfl hS2_ ?_
          refine tq 7 rfl hS2_ ?_
          refine tq 8 rfl hS2_ ?_
          refine tq 9 rfl hS2_ ?_
          refine tOz 11 rfl fun K hK=>?_
          refine Zaf (by rfl) 65 (.tmp 29) (.tmp 316) rfl q 65 _ rs.c.cs.toArray rfl rfl (uh HBV) (Cli.size_eq (uh HCF2).1) (Zai (uh HCF2).1) (fun v hv=>Cli.one v (by simpa using hv)) ?_
          intro wa3 hb4 hg4
          have hS3_:CJ w5 B g wa3:=hS2_.later (uh SIn).gsz ((Below.refl _ _).grown hg4 hS2_.size (fun j hj=>by injection hj with hj; omega))
          have hnx6:(Value.slice Ax d1.X.length cx).ownBlock≠some q:=fun e=>by have:=(uh SIn).wd.m.x.lt _ e; omega
          have ST6:Hid (STq w wa3 base B g gw U0 C0 kx kp (kn+1) d1 q):=jd ⟨_,_,_,_,_,_,(uh SIn).cj hS3_,uh OKn,uh HU,uh HC,hnx6⟩
          have HB6:=jd hb4
          clear hb4 hg4
          refine hK.out _ _ hS3_ (fun _=>?_)
          clear hK K
          try simp only [Act.put]
          refine tq 12 rfl hS3_ ?_
          refine tq 13 rfl hS3_ ?_
          refine tq 14 rfl hS3_ ?_
          refine tDz ?_
          go_wp2_with fail
          go_meet
          exact ⟨q,rs,rfl,uh HB6,uh HCF2,rfl,uh ST6⟩
       case rest =>
        obtain ⟨w6,rfl⟩ :∃w6:World,w6=wc:=⟨_,rfl⟩
        obtain ⟨q29,rs,rfl,hb6,hcf,rfl,h6⟩:=hcut
        have ST6:=jd h6
        have HB6:=jd hb6
        have HCF2:=jd hcf
        clear h6 ST5 hb6 hcf HB5
        by_cases hs0:rs.e=0
        case neg =>
          have e0:(rs.e==0)=false:=by simp [hs0]
          go_wp2_with fail
          go_end0
          exact ⟨rfl,_,(uh ST6).st.le (by omega) (by omega) (by omega)⟩
        have e0:(rs.e==0)=true:=by simp [hs0]
        have hru:=(uh HCF2).2 hs0
        have HRU:=jd hru
        have HKX:=HK
        clear hs0 hru
        go_upto_region 42 with fail
        clear e0
        obtain ⟨As,cs,Au,cu,Ac,cc,Ax,cx,Ap,cp,V,si,ok,hU,hC,hnyq⟩:=(uh ST6).open_
        have SIn:=jd si
        have OKn:=jd ok
        have HU:=jd hU
        have HC:=jd hC
        have hszW:=si.size
        have hgW:=si.gsz
        have hWN:=SI.bw si
        have HW:=jd hWN
        have HJ0:=jd ((CJ.start si.c:CJ w6 B g w6).drew)
        clear si ok hU hC hWN
        obtain ⟨gx,cur,hA,hgx,hbx,hsx,hnx,hmx,_,htx,hfit,_⟩:=own_idx (uh SIn).wd.m.x (fun x hx=>Cli.len ((uh OKn).xok x hx).1) (uh HKX)
        subst hA
        have HBX:=jd hbx
        have HTX:=jd htx
        have HFIT:=jd hfit
        have hklx:k < d1.X.length:=(List.getElem?_eq_some_iff.1 (uh HKX)).1
        have hk2:(k:Int) < (d1.X.length:Int):=by omega
        have hx2:(d1.X.length:Int)≤1000:=by have:=(uh OKn).xlen; omega
        have hny:gx≠q29:=fun e=>hnyq (by rw [e]; rfl)
        have hS0:Blk w6.drew gw 37 (ZaQ d1 (.slice As d1.L.length cs) (.slice Au d1.U.length cu) (.slice Ac d1.C.length cc) (.slice (some ⟨gx,0,none⟩) d1.X.length cx) (.slice Ap d1.P.length cp))∧Blk w6.drew q29 65 rs.c.cs.toArray:=⟨(uh SIn).wd.blk,uh HB6⟩
        clear hbx htx hfit
        refine wp_region_noPanic (wp_region_held_drew (S:=fun wz=>Blk wz gw 37 (ZaQ d1 (.slice As d1.L.length cs) (.slice Au d1.U.length cu) (.slice Ac d1.C.length cc) (.slice (some ⟨gx,0,none⟩) d1.X.length cx) (.slice Ap d1.P.length cp))∧Blk wz q29 65 rs.c.cs.toArray) (by kernel_rfl) hS0 (fun _=>?_))
        refine tq 0 rfl hS0 ?_
        refine tq 1 rfl hS0 ?_
        refine tq 2 rfl hS0 ?_
        refine tJz (v:=.slice (some ⟨gx,0,none⟩) d1.X.length cx) 3 rfl (Or.inl ⟨by rfl,fun wz hSw=>?_⟩) hS0 ?_
        · have hq:wz.cell? ⟨gw,4,none⟩=some (.slice (some ⟨gx,0,none⟩) d1.X.length cx):=hSw.1.cell 4
          go_simp
        refine tq 4 rfl hS0 ?_
        refine ZdA (i:=5)  rfl (by kernel_rfl) (by kernel_rfl) (by kernel_rfl) (Zar 65 (.tmp 29) (by rfl) rfl q29 rfl 65 rs.c.cs.toArray _ (fun _ h=>h.2) Tryz.underlying65 rfl (Zai (uh HCF2).1)) hS0 ?_
        simp only [Act.put,zA,zB,zC]
        refine tq 6 rfl hS0 ?_
        refine tOz 7 rfl fun K hK=>?_
        refine Zao (by rfl) 65 (.tmp 328) (.tmp 327) rfl gx (k*41) 65 cur (.agg rs.c.cs.toArray) rs.c.cs _ rfl rfl (uh HBX) (by simp [Value.cells]) (by rw [Cli.len (uh HCF2).1]; exact uh HFIT) (ZcB (uh HCF2).1) (fun v hv=>Cli.one v hv) rfl ?_
        intro w20 hb20 hg20
        have HX20:Hid (w20.ownsRow base 65 41 (.slice (some ⟨gx,0,none⟩) d1.X.length cx) (d1.X.set k rs.c).length ((d1.X.set k rs.c).flatMap Cli.cs)):=jd (by
          have h:=Zc6 (cs:=Cli.cs) (by decide) (fun x hx=>Cli.len ((uh OKn).xok x hx).1) (uh HKX) (Cli.len (uh HCF2).1) hgx hsx hnx hmx rfl (uh HTX) hb20
          rw [List.length_set]; exact h)
        have hgx20:w6.grownBy w20 (Value.slice (some ⟨gx,0,none⟩) d1.X.length cx).ownBlock:=Zfd hg20
        have SI20:=jd ((uh SIn).setX hgb hgx20 (uh HX20) rfl)
        have OKX:=jd ((uh OKn).setX (i:=k) (uh HCF2).1 (uh HRU))
        have HG20:=jd hg20
        have hS20:Blk w20 gw 37 (ZaQ d1 (.slice As d1.L.length cs) (.slice Au d1.U.length cu) (.slice Ac d1.C.length cc) (.slice (some ⟨gx,0,none⟩) d1.X.length cx) (.slice Ap d1.P.length cp))∧Blk w20 q29 65 rs.c.cs.toArray:=⟨(uh SI20).wd.blk,(uh HB6).grown hgx20 (fun e=>hny (by injection e with e; exact e.symm))⟩
        have STX:Hid (ST w w20 base B g gw U0 C0 kx kp (kn+1) { d1 with X:=d1.X.set k rs.c }):=jd ⟨_,_,_,_,_,_,uh SI20,uh OKX,uh HU,uh HC⟩
        clear hb20 hg20 hgx20
        refine hK.out _ _ hS20 (fun _=>?_)
        clear hK K
        try simp only [Act.put]
        refine tDz ?_
        go_wp2_with fail
        go_end0
        exact ⟨rfl,_,(uh STX).le (by omega) (by omega) (by omega)⟩
end Go.Proofs.YtfbkkmnkpjgciaaGreat
