/- Joined of TAcc. No condition. -/
import Derived.Test.YtfbkkmnkpjgciaaGreatPG07
import Derived.Test.YtfbkkmnkpjgciaaGreatPG12
import Derived.Test.YtfbkkmnkpjgciaaGreatPG18
namespace Go.Proofs.YtfbkkmnkpjgciaaGreat
open Go.RowKit
theorem info_u:(Tryz.prog.info? 52).map (fun i=>(i.zero,i.size,i.bytes))=some (some (.agg zUsr.cs.toArray),19,48):=by kernel_rfl
theorem info_h:(Tryz.prog.info? 54).map (fun i=>(i.zero,i.size,i.bytes))=some (some (.agg #[.int .i64 0,.int .i64 0]),2,16):=by kernel_rfl
theorem zu_size:(Value.agg zUsr.cs.toArray).cells.size=19:=by show zUsr.cs.toArray.size=19; rw [List.size_toArray,zUsr.len zUsr_ok]
theorem build_usr (name ks:List UInt8) (hk:ks.length=16) (b:Bool) (r:Int):Tryz.prog.built 52 [(0,.string ⟨name.toArray⟩),(1,.agg (bsV ks).toArray),(2,.bool b),(3,.int .i64 r)]=some (Usr.mk name ks b r).cs.toArray:=by
 obtain ⟨a0,a1,a2,a3,a4,a5,a6,a7,a8,a9,a10,a11,a12,a13,a14,a15,rfl⟩:=ZdM ks hk
 kernel_rfl
theorem build_usr2 (name:List UInt8) (r:Int):Tryz.prog.built 52 [(0,.string ⟨name.toArray⟩),(3,.int .i64 r)]=some (Usr.mk name z16 false r).cs.toArray:=by kernel_rfl
theorem build_chn (n r:Int):Tryz.prog.built 54 [(0,.int .i64 n),(1,.int .i64 r)]=some (Chn.mk n r).cs.toArray:=by kernel_rfl
theorem build_chn1 (n:Int):Tryz.prog.built 54 [(0,.int .i64 n)]=some (Chn.mk n 0).cs.toArray:=by kernel_rfl
theorem Ze8 (w:World) (x:Usr) (hx:x.Ok):(Instr.buildSlice 30 1 #[(0,.agg x.cs.toArray)]).run Tryz.prog w=.ok (.slice (some ⟨w.heap.size,0,none⟩) 1 1) (w.alloc (.cells x.cs.toArray 52)):=by
 obtain ⟨a0,a1,a2,a3,a4,a5,a6,a7,a8,a9,a10,a11,a12,a13,a14,a15,e1⟩:=ZdM x.key hx.key
 obtain ⟨name,key,on,limit⟩:=x
 dsimp only at e1
 subst e1
 kernel_rfl
theorem run_slice_h (w:World) (x:Chn):(Instr.buildSlice 31 1 #[(0,.agg x.cs.toArray)]).run Tryz.prog w=.ok (.slice (some ⟨w.heap.size,0,none⟩) 1 1) (w.alloc (.cells x.cs.toArray 54)):=by
 obtain ⟨n,l⟩:=x
 kernel_rfl
theorem run_slice_i4 (w:World):(Instr.buildSlice 117 4 #[(0,.int .i64 3),(1,.int .i64 2),(2,.int .i64 1),(3,.int .i64 0)]).run Tryz.prog w=.ok (.slice (some ⟨w.heap.size,0,none⟩) 4 4) (w.alloc (.cells #[.int .i64 3,.int .i64 2,.int .i64 1,.int .i64 0] 3)):=by kernel_rfl
theorem Zaj.of_new {w:World} {q size:Nat} {t:TypeId} {cs:List Value} (h:Blk w q t cs.toArray) (hl:cs.length=size):Zaj w w.heap.size size (some ⟨q,0,none⟩) 1 cs :=
 ⟨by omega,fun _=>⟨_,rfl,h.lt,fun j v hv=>by rw [ZbM,Nat.zero_add,h.cell]; simpa using hv⟩⟩
theorem ZbE {W0 w:World} {B g:Nat} (h:CJ W0 B g w) (o:Obj) {p:Prop} (hp:p):CJ W0 B g (w.alloc o)∧CT g w (w.alloc o)∧p:=h.below ((Below.refl _ _).alloc (Nat.le_refl _) _) hp
theorem key_inv {W0 w:World} {B g:Nat} (h:CJ W0 B g w) {G:Value→Prop} (hG:∀ ks:List UInt8,ks.length=16→G (.agg (bsV ks).toArray)) :
  Calls Tryz.prog 20 #[.pointer (some ⟨g,0,none⟩)] w fun e w'=>∃ v,e=.returned v∧CJ W0 B g w'∧CT g w w'∧G v :=
 (key_any w B g h.2).mono fun _ _ ⟨ks,hk,he,hc,hg⟩=>⟨_,he,h.codes hc hg (hG ks hk)⟩
theorem name_inv {W0 w:World} {B g:Nat} (h:CJ W0 B g w) {G:Value→Prop} (hG:∀ s:List UInt8,s.length≤17→G (.string ⟨s.toArray⟩)) :
  Calls Tryz.prog 17 #[.pointer (some ⟨g,0,none⟩)] w fun e w'=>∃ v,e=.returned v∧CJ W0 B g w'∧CT g w w'∧G v :=
 (name_cx w B g h.2).mono fun _ _ ⟨s,he,hs,hj⟩=>⟨_,he,h.codes hj.2 hj.1 (hG s hs)⟩
def AcuR (q0:Nat) (vu:Value):Nat→Value→World→Prop
 | 1,v,_=>v=vu
 | 4,v,_=>∃ ks:List UInt8,ks.length=16∧v=.agg (bsV ks).toArray
 | 6,v,_=>ZbO 6 v
 | 7,v,_=>∃ b,v=.bool b
 | 9,v,_=>ZbO 3 v
 | 10,v,_=>∃ r,v=.int .i64 r
 | 11,v,_=>∃ u:Usr,u.Ok∧u.name.length≤17∧v=.agg u.cs.toArray
 | 12,v,w=>∃ (u:Usr) (q:Nat),u.Ok∧u.name.length≤17∧v=.slice (some ⟨q,0,none⟩) 1 1∧Blk w q 52 u.cs.toArray∧q0≤q
 | _,_,_=>True
theorem AcuR.keep {q0:Nat} {vu:Value} {g:Nat} (hg:g < q0):∀ (k:Nat) (v:Value) (w w':World),AcuR q0  vu  k v w→CT g w w'→AcuR q0  vu  k v w':=by
 intro k v w w' h hb
 unfold AcuR at *
 split at h
 · exact h
 · exact h
 · exact h
 · exact h
 · exact h
 · exact h
 · exact h
 · obtain ⟨u,q,h1,h2,h3,h4,h5⟩:=h; exact ⟨u,q,h1,h2,h3,hb.blk h4 (by omega),h5⟩
 · trivial
def AchR (q0:Nat) (vc:Value):Nat→Value→World→Prop
 | 1,v,_=>v=vc
 | 3,v,w=>∃ q:Nat,v=.slice (some ⟨q,0,none⟩) 4 4∧Blk w q 3 #[.int .i64 3,.int .i64 2,.int .i64 1,.int .i64 0]∧q0≤q
 | 5,v,_=>ZbO 4 v
 | 6,v,w=>∃ q k:Nat,v=.pointer (some ⟨q,k,none⟩)∧Blk w q 3 #[.int .i64 3,.int .i64 2,.int .i64 1,.int .i64 0]∧q0≤q∧k < 4
 | 7,v,_=>∃ r,v=.int .i64 r
 | 8,v,_=>∃ u:Chn,v=.agg u.cs.toArray
 | 9,v,w=>∃ (u:Chn) (q:Nat),v=.slice (some ⟨q,0,none⟩) 1 1∧Blk w q 54 u.cs.toArray∧q0≤q
 | _,_,_=>True
theorem AchR.keep {q0:Nat} {vc:Value} {g:Nat} (hg:g < q0):∀ (k:Nat) (v:Value) (w w':World),AchR q0  vc  k v w→CT g w w'→AchR q0  vc  k v w':=by
 intro k v w w' h hb
 unfold AchR at *
 split at h
 · exact h
 · obtain ⟨q,h1,h2,h3⟩:=h; exact ⟨q,h1,hb.blk h2 (by omega),h3⟩
 · exact h
 · obtain ⟨q,k,h1,h2,h3,h4⟩:=h; exact ⟨q,k,h1,hb.blk h2 (by omega),h3,h4⟩
 · exact h
 · exact h
 · obtain ⟨u,q,h3,h4,h5⟩:=h; exact ⟨u,q,h3,hb.blk h4 (by omega),h5⟩
 · trivial
def AcdR (q0:Nat) (vc:Value):Nat→Value→World→Prop
 | 1,v,_=>v=vc
 | 3,v,_=>ZbO 6 v
 | 4,v,_=>∃ u:Chn,v=.agg u.cs.toArray
 | 5,v,w=>∃ (u:Chn) (q:Nat),v=.slice (some ⟨q,0,none⟩) 1 1∧Blk w q 54 u.cs.toArray∧q0≤q
 | _,_,_=>True
theorem AcdR.keep {q0:Nat} {vc:Value} {g:Nat} (hg:g < q0):∀ (k:Nat) (v:Value) (w w':World),AcdR q0  vc  k v w→CT g w w'→AcdR q0  vc  k v w':=by
 intro k v w w' h hb
 unfold AcdR at *
 split at h
 · exact h
 · exact h
 · exact h
 · obtain ⟨u,q,h3,h4,h5⟩:=h; exact ⟨u,q,h3,hb.blk h4 (by omega),h5⟩
 · trivial
def AceR (q0:Nat) (vu:Value):Nat→Value→World→Prop
 | 1,v,_=>v=vu
 | 3,v,_=>∃ s:List UInt8,s.length≤17∧v=.string ⟨s.toArray⟩
 | 5,v,_=>ZbO 6 v
 | 6,v,_=>∃ u:Usr,u.Ok∧u.name.length≤17∧v=.agg u.cs.toArray
 | 7,v,w=>∃ (u:Usr) (q:Nat),u.Ok∧u.name.length≤17∧v=.slice (some ⟨q,0,none⟩) 1 1∧Blk w q 52 u.cs.toArray∧q0≤q
 | _,_,_=>True
theorem AceR.keep {q0:Nat} {vu:Value} {g:Nat} (hg:g < q0):∀ (k:Nat) (v:Value) (w w':World),AceR q0  vu  k v w→CT g w w'→AceR q0  vu  k v w':=by
 intro k v w w' h hb
 unfold AceR at *
 split at h
 · exact h
 · exact h
 · exact h
 · exact h
 · obtain ⟨u,q,h1,h2,h3,h4,h5⟩:=h; exact ⟨u,q,h1,h2,h3,hb.blk h4 (by omega),h5⟩
 · trivial
structure AcOk (w:World) (base:Nat) (vu vc:Value) (U:List Usr) (C:List Chn):Prop where
 u:w.ownsRow base 52 19 vu U.length (U.flatMap Usr.cs)
 c:w.ownsRow base 54 2 vc C.length (C.flatMap Chn.cs)
 uok:∀ x∈U,x.Ok∧x.name.length≤17
theorem AcOk.kept {w w':World} {base g:Nat} {vu vc:Value} {U:List Usr} {C:List Chn} (h:AcOk w base vu vc U C) (hb:w.grownBy w' (some g)) (hu:vu.ownBlock≠some g) (hc:vc.ownBlock≠some g):AcOk w' base vu vc U C :=
 ⟨Zap h.u hb hu,Zap h.c hb hc,h.uok⟩
theorem AcOk.cj {w w':World} {base B g:Nat} {vu vc:Value} {U:List Usr} {C:List Chn} (h:AcOk w base vu vc U C) (hc:Zaq w B g) (hb:w.grownBy w' (some g)):AcOk w' base vu vc U C :=
 h.kept hb (Zbi hc h.u (by decide)) (Zbi hc h.c (by decide))
theorem AcOk.stored {w w':World} {base q:Nat} {vu vc:Value} {U:List Usr} {C:List Chn} {cs:Array Value} (h:AcOk w base vu vc U C) (hq:Blk w q 33 cs) (hb:w.grownBy w' (some q)):AcOk w' base vu vc U C :=
 h.kept hb (Zad h.u hq (by decide)) (Zad h.c hq (by decide))
theorem AcOk.pushU {w w':World} {base:Nat} {vu vc v':Value} {U:List Usr} {C:List Chn} {u:Usr} (h:AcOk w base vu vc U C) (hb:w.grownBy w' vu.ownBlock) (ho:w'.ownsRow base 52 19 v' (U.length+1) (U.flatMap Usr.cs++u.cs)) (hu:u.Ok) (hn:u.name.length≤17):AcOk w' base v' vc (U++[u]) C :=
 ⟨by rw [List.length_append,List.flatMap_append]; simpa using ho,h.c.kept hb (Za9 h.c h.u (by decide)),fun x hx=>by
  rcases List.mem_append.1 hx with hx | hx
  · exact h.uok x hx
  · simp at hx; subst hx; exact ⟨hu,hn⟩⟩
theorem AcOk.pushC {w w':World} {base:Nat} {vu vc v':Value} {U:List Usr} {C:List Chn} {u:Chn} (h:AcOk w base vu vc U C) (hb:w.grownBy w' vc.ownBlock) (ho:w'.ownsRow base 54 2 v' (C.length+1) (C.flatMap Chn.cs++u.cs)):AcOk w' base vu v' U (C++[u]) :=
 ⟨h.u.kept hb (Za9 h.u h.c (by decide)),by rw [List.length_append,List.flatMap_append]; simpa using ho,h.uok⟩
def AcP (w:World) (B g:Nat) (e:Ending) (w':World):Prop :=
 ∃ vu vc U C,e=.returned (.agg #[vu,vc])∧U.length≤7∧C.length≤5∧AcOk w' w.heap.size vu vc U C∧CJ w B g w' 
theorem Zel {w:World} {base n size:Nat} {e:TypeId} {v:Value} {xs:List Value} (h:w.ownsRow base e size v n xs):v.cells.toList=[v]:=by
 obtain ⟨A,c,rfl,_,_⟩:=Zac h
 rfl
theorem Za6 {w:World} {base n size:Nat} {e:TypeId} {v:Value} {xs:List Value} (h:w.ownsRow base e size v n xs):v.oneCell'=true:=by
 obtain ⟨A,c,rfl,_,_⟩:=Zac h
 rfl
theorem CJ.next2 {W0 w1 w2 w3:World} {B g:Nat} {row:Option Nat} (h:CJ W0 B g w1) (h2:CJ w1 B g w2) (hg:w2.grownBy w3 row) (hr:∀ j,row=some j→W0.heap.size≤j) (hgl:g < W0.heap.size):CJ W0 B g w3 :=
 (h.next h2.2 h2.1).later hgl ((Below.refl _ _).grown hg (Nat.le_trans h.size h2.size) hr)
theorem CJ.later2 {W0 w w':World} {B g j:Nat} (h:CJ W0 B g w) (hgl:g < W0.heap.size) (hg:w.grownBy w' (some j)) (hj:W0.heap.size≤j):CJ W0 B g w' :=
 h.later hgl ((Below.refl _ _).grown hg h.size (fun k hk=>by injection hk with hk; omega))
set_option maxRecDepth 100000 in
set_option maxHeartbeats 16000000 in
theorem accounts_cx (w:World) (B g:Nat) (h:Zaq w B g):Calls Tryz.prog 41 #[.pointer (some ⟨g,0,none⟩)] w (AcP w B g):=by
 have hgl:=h.lt
 obtain ⟨W,hW⟩ :∃W,(w.alloc (.cells #[.slice none 0 0,.slice none 0 0] 33)).alloc (.cells #[.slice none 0 0,.slice none 0 0] 33)=W:=⟨_,rfl⟩
 have HZ:=jd (show Blk W w.heap.size 33 #[.slice none 0 0,.slice none 0 0] from hW ▸ (Blk.new w _ _).alloc _)
 have HB:=jd (show Blk W (w.heap.size+1) 33 #[.slice none 0 0,.slice none 0 0] from hW ▸ Blk.new' (by simp))
 have hbl:Below w.heap.size w W:=hW ▸ ((Below.refl _ _).alloc (Nat.le_refl _) _).alloc (by rw [Zae]; omega) _
 have HJ:=jd ((CJ.start h).later hgl hbl)
 have hsz:=hbl.size
 have EGN:=jd (ZaO Tryz.func18 (by kernel_rfl) rfl)
 have EGK:=jd (ZaO Tryz.func20 (by kernel_rfl) rfl)
 have EGM:=jd (ZaO Tryz.func17 (by kernel_rfl) rfl)
 clear h hbl
 go_enter Tryz.func41,Tryz.ntmps41
 go_upto_region 2 with fail
 clear hW
 go_wp2_with fail
 refine (names_cx W).mono ?_
 rintro e W2 ⟨rfl,hW2⟩
 have hbl:Below W.heap.size W W2:=hW2 ▸ (Below.refl _ _).alloc (Nat.le_refl _) _
 have HJ2:=jd ((uh HJ).later hgl (hbl.mono hsz))
 have HQ:=jd (hW2 ▸ Blk.new W _ _:Blk W2 W.heap.size 9 (strV nmsL).toArray)
 have HZ2:=jd ((uh HZ).below hbl (uh HZ).lt)
 have HB2:=jd ((uh HB).below hbl (uh HB).lt)
 have hB1:w.heap.size+1 < W.heap.size:=(uh HB).lt
 clear hW2 hbl HZ HB HJ
 go_wp2_with fail
 go_loopw [9] (fun i wr=>∃ (k:Nat) (vu vc:Value) (U:List Usr) (C:List Chn),i=.int .i64 (k:Int)∧k≤6∧U.length≤k∧C=[]∧AcOk wr w.heap.size vu vc U C∧Blk wr (w.heap.size+1) 33 #[vu,vc]∧Blk wr w.heap.size 33 #[.slice none 0 0,.slice none 0 0]∧Blk wr W.heap.size 9 (strV nmsL).toArray∧CJ w B g wr) (fun i _=>6 - (intOf i).toNat)
 case atStart=>exact ⟨0,_,_,[],[],rfl,by omega,by simp,rfl,⟨World.ownsRow_nil _ _ _ _,World.ownsRow_nil _ _ _ _,fun x hx=>by cases hx⟩,uh HB2,uh HZ2,uh HQ,uh HJ2⟩
 case round =>
  obtain ⟨k,vu,vc,U,C,rfl,hk,hUk,hC0,ha,hb,hz,hq,hj⟩:=hrel
  have HA:=jd ha
  have HB:=jd hb
  have HZ:=jd hz
  have HQ':=jd hq
  have HJ:=jd hj
  have HC0:=jd hC0
  have hszr:=hj.size
  clear ha hb hz hq hj hC0 HQ HZ2 HB2 HJ2
  by_cases hlt:k < 6
  ·obtain ⟨s,hs1,hs2⟩:=nms_get nmsL rfl (by decide) k hlt
   have hcell:wr.cell? ⟨W.heap.size,k,none⟩=some (.string ⟨s.toArray⟩):=by rw [(uh HQ').cell]; exact hs1
   clear hs1
   go_wp2_with fail
   clear hcell
   refine (Zav wr B g 2 (uh HJ).2 (by decide) (by decide)).mono ?_
   rintro e w1 ⟨r,rfl,hr0,hr1,hc1,hg1⟩
   have HJ1:=jd ((uh HJ).next hc1 hg1)
   have HA1:=jd ((uh HA).cj (uh HJ).2 hg1)
   have hgw:g < w.heap.size:=hgl
   have HB1:=jd ((uh HB).gb hg1)
   have HZ1:=jd ((uh HZ).gb hg1)
   have HQ1:=jd ((uh HQ').grown hg1 (fun e=>by injection e with e; omega))
   have hs1:wr.heap.size≤w1.heap.size:=hg1.size
   clear hc1 hg1 HJ HA HB HZ HQ'
   by_cases h0:r=0
   ·have e1:(r==0)=true:=by simp [h0]
    clear h0 hr1 hr0
    go_upto_region 6 with fail
    clear e1
    have hCELL:∀ wz,CJ w1 B g wz→wz.cell? ⟨w.heap.size+1,0,none⟩=some vu:=fun wz hz=>(hz.blk (uh HB1) (by omega)).cell 0
    have HJ0:=jd ((CJ.start (uh HJ1).2:CJ w1 B g w1).drew)
    refine wp_region_noPanic (wp_region_held_drew (S:=fun _=>True) (by kernel_rfl) trivial (fun _=>?_))
    refine tq 0 rfl trivial ?_
    refine tq 2 rfl trivial ?_
    refine tq 3 rfl trivial ?_
    refine tq 5 rfl trivial ?_
    refine tq 8 rfl trivial ?_
    refine ZcD (CJ w1 B g) (CT g) (AcuR w1.heap.size vu) [1,4,6,7,9,10,11,12] #[true,true,true,true,true,true,true,true,true,true,true,true,true,false,false,false] [(1,some 17),(4,some 20),(6,some 22),(7,some 23),(9,some 25),(10,some 26),(11,some 27),(12,some 28)] 76 3 (by kernel_rfl) rfl (AcuR.keep (by omega)) (fun _ _=>trivial) (uh HJ0) ⟨?_,?_,?_,?_,?_,?_,?_,?_,trivial⟩ ?_ rfl
    ·intro a wa hJ hout hin
     have e16:a.eval (.tmp 16)=.pointer (some ⟨w.heap.size+1,0,none⟩):=hout 16 (by kernel_rfl)
     refine ZaF rfl rfl (v:=vu) (w':=wa) ?_ (hJ.same rfl)
     have hq:=hCELL wa hJ
     unfold execOp
     simp only [e16]
     go_simp
    ·intro a wa hJ hout hin
     have e19:a.eval (.tmp 19)=.pointer (some ⟨g,0,none⟩):=hout 19 (by kernel_rfl)
     refine ZaI [.pointer (some ⟨g,0,none⟩)] rfl rfl rfl rfl (uh EGK) ?_ ?_
     ·show [a.eval (.tmp 19)]=_
      rw [e19]
     · exact key_inv hJ (fun ks hk=>⟨ks,hk,rfl⟩)
    ·intro a wa hJ hout hin
     have e21:a.eval (.tmp 21)=.pointer (some ⟨g,0,none⟩):=hout 21 (by kernel_rfl)
     refine ZaI [.pointer (some ⟨g,0,none⟩),.int .i64 6] rfl rfl rfl rfl (uh EGN) ?_ ?_
     ·show [a.eval (.tmp 21),_]=_
      rw [e21]
      rfl
     · exact Zbn hJ 6 (by decide) (by decide) (fun _ h=>h)
    ·intro a wa hJ hout hin
     obtain ⟨r2,e22,_,_⟩:ZbO 6 (a.eval (.tmp 22)):=hin 6 22 (by kernel_rfl)
     refine ZaF rfl rfl (v:=.bool (decide (r2 < 5))) (w':=wa) ?_ (hJ.same ⟨_,rfl⟩)
     unfold execOp
     simp only [e22]
     go_simp
    ·intro a wa hJ hout hin
     have e24:a.eval (.tmp 24)=.pointer (some ⟨g,0,none⟩):=hout 24 (by kernel_rfl)
     refine ZaI [.pointer (some ⟨g,0,none⟩),.int .i64 3] rfl rfl rfl rfl (uh EGN) ?_ ?_
     ·show [a.eval (.tmp 24),_]=_
      rw [e24]
      rfl
     · exact Zbn hJ 3 (by decide) (by decide) (fun _ h=>h)
    ·intro a wa hJ hout hin
     obtain ⟨r2,e25,hr20,hr21⟩:ZbO 3 (a.eval (.tmp 25)):=hin 9 25 (by kernel_rfl)
     have hr22:IntKind.i64.wrap (1+r2)=1+r2:=IntWalk.i64_in _ (by omega)
     refine ZaF rfl rfl (v:=.int .i64 (1+r2)) (w':=wa) ?_ (hJ.same ⟨_,rfl⟩)
     unfold execOp
     simp only [e25]
     go_simp
    ·intro a wa hJ hout hin
     have e18:a.eval (.tmp 18)=.string ⟨s.toArray⟩:=hout 18 (by kernel_rfl)
     obtain ⟨ks,hk16,e20⟩ :∃ks:List UInt8,ks.length=16∧a.eval (.tmp 20)=.agg (bsV ks).toArray:=hin 4 20 (by kernel_rfl)
     obtain ⟨b,e23⟩ :∃b,a.eval (.tmp 23)=.bool b:=hin 7 23 (by kernel_rfl)
     obtain ⟨r2,e26⟩ :∃r2,a.eval (.tmp 26)=.int .i64 r2:=hin 10 26 (by kernel_rfl)
     refine Zey rfl rfl 52 _ rfl _ ?_ _ (build_usr s ks hk16 b r2) (hJ.same ⟨_,⟨by unfold maxLen; show s.length≤_; omega,hk16⟩,hs2,rfl⟩)
     show [(0,a.eval (.tmp 18)),(1,a.eval (.tmp 20)),(2,a.eval (.tmp 23)),(3,a.eval (.tmp 26))]=_
     rw [e18,e20,e23,e26]
    ·intro a wa hJ hout hin
     obtain ⟨u,hu1,hu2,e27⟩ :∃u:Usr,u.Ok∧u.name.length≤17∧a.eval (.tmp 27)=.agg u.cs.toArray:=hin 11 27 (by kernel_rfl)
     refine ZaF rfl rfl (v:=.slice (some ⟨wa.heap.size,0,none⟩) 1 1) (w':=wa.alloc (.cells u.cs.toArray 52)) ?_ (ZbE hJ _ ⟨u,_,hu1,hu2,rfl,Blk.new _ _ _,hJ.size⟩)
     simp [execOp,e27,Ze8 wa u hu1]
    intro vals ww hJw hRw
    simp only [puts,Act.put,zA,zB,zC]
    have e1:vals 1=vu:=hRw 1 (by rfl)
    obtain ⟨u,q,hu1,hu2,e9,hq1,hq2⟩ :∃(u:Usr) (q:Nat),u.Ok∧u.name.length≤17∧vals 12=.slice (some ⟨q,0,none⟩) 1 1∧Blk ww q 52 u.cs.toArray∧w1.heap.size≤q:=hRw 12 (by rfl)
    have hul:=u.len hu1
    rw [e1,e9]
    clear e1 e9 hRw
    have HA2:=jd ((uh HA1).cj (uh HJ1).2 hJw.1)
    have HB2:=jd (hJw.blk (uh HB1) (by omega))
    have HZ2:=jd (hJw.blk (uh HZ1) (by omega))
    have HQ2:=jd (hJw.blk (uh HQ1) (by omega))
    have hsw:=hJw.size
    obtain ⟨i0,hi,hz0,hz1,hz2⟩:=info_parts info_u
    refine tOz 13 rfl fun K hK=>?_
    refine ZaJ ww rfl (.tmp 17) (.tmp 28) 30 rfl w.heap.size 52 i0 _ 19 48 Tryz.underlying30 hi hz0 hz1 hz2 zu_size (by omega) vu U.length (U.flatMap Usr.cs) rfl (uh HA2).u _ (some ⟨q,0,none⟩) 1 1 u.cs rfl (Zaj.of_new hq1 hul) Usr.one (by unfold maxLen; omega) (by omega) (by omega) ?_
    intro v3 w3 ho3 hg3 _
    have HA3:=jd ((uh HA2).pushU hg3 ho3 hu1 hu2)
    have hne:∀ j cs,Blk ww j 33 cs→some j≠vu.ownBlock:=fun j cs hj=>(Zad (uh HA2).u hj (by decide)).symm
    have HB3:=jd ((uh HB2).grown hg3 (hne _ _ (uh HB2)))
    have HZ3:=jd ((uh HZ2).grown hg3 (hne _ _ (uh HZ2)))
    have HQ3:=jd ((uh HQ2).grown hg3 (Zad (uh HA2).u (uh HQ2) (by decide)).symm)
    have HJ3:=jd ((uh HJ1).next2 hJw hg3 (fun j hj=>Zaw (uh HA2).u j hj) hgl)
    clear ho3 hne
    refine hK.out _ _ trivial (fun _=>?_)
    clear hK K
    try simp only [Act.put,zA,zB,zC]
    refine tq 14 rfl trivial ?_
    refine tOz 15 rfl fun K hK=>?_
    refine Zao (by rfl) 30 (.tmp 30) (.tmp 29) rfl (w.heap.size+1) 0 33 _ v3 [v3] [v3,vc] rfl rfl (uh HB3) (Zel (uh HA3).u) (by simp) (by kernel_rfl) (one1 (Za6 (uh HA3).u)) rfl ?_
    intro w4 hb4 hg4
    have HB4:=jd hb4
    have HA4:=jd ((uh HA3).stored (uh HB3) hg4)
    have HZ4:=jd ((uh HZ3).gb hg4)
    have HQ4:=jd ((uh HQ3).gb hg4)
    have HJ4:=jd ((uh HJ3).later2 hgl hg4 (by omega))
    clear hb4 hg4
    refine hK.out _ _ trivial (fun _=>?_)
    clear hK K
    try simp only [Act.put]
    refine tDz ?_
    clear hJw HA1 HB1 HZ1 HJ1 HA2 HB2 HZ2 HA3 HB3 HZ3 HJ3 hg3 HJ0 hCELL
    go_wp2_with fail
    go_roundw
    case rel=>exact ⟨k+1,v3,vc,U++[u],C,by go_num,by omega,by rw [List.length_append]; show U.length+1≤_; omega,uh HC0,uh HA4,uh HB4,uh HZ4,uh HQ4,uh HJ4⟩
    case measure=>simp [intOf]; omega
   ·have e1:(r==0)=false:=by simp [h0]
    clear h0 hr1 hr0
    go_wp2_with fail
    go_roundw
    case rel=>exact ⟨k+1,vu,vc,U,C,by go_num,by omega,by omega,uh HC0,uh HA1,uh HB1,uh HZ1,uh HQ1,uh HJ1⟩
    case measure=>simp [intOf]; omega
  ·have hUk6:U.length≤6:=by omega
   have hC5:C.length≤0:=by rw [uh HC0]; simp
   clear HQ' HC0 hUk
   go_wp2_with fail
   go_loopw [6] (fun i wr=>∃ (k:Nat) (vu vc:Value) (U:List Usr) (C:List Chn),i=.int .i64 (k:Int)∧k≤4∧U.length≤6∧C.length≤k∧AcOk wr w.heap.size vu vc U C∧Blk wr (w.heap.size+1) 33 #[vu,vc]∧Blk wr w.heap.size 33 #[.slice none 0 0,.slice none 0 0]∧CJ w B g wr) (fun i _=>4 - (intOf i).toNat)
   case atStart=>exact ⟨0,_,_,U,C,rfl,by omega,hUk6,hC5,uh HA,uh HB,uh HZ,uh HJ⟩
   case round =>
    clear HA HB HZ HJ hUk6 hC5 hlt hk hszr
    obtain ⟨n,vu,vc,U,C,rfl,hn,hU6,hCn,ha,hb,hz,hj⟩:=hrel
    have HA:=jd ha
    have HB:=jd hb
    have HZ:=jd hz
    have HJ:=jd hj
    have hszr:=hj.size
    clear ha hb hz hj
    by_cases hlt:n < 4
    ·go_wp2_with fail
     refine (Zav wr B g 3 (uh HJ).2 (by decide) (by decide)).mono ?_
     rintro e w1 ⟨r,rfl,hr0,hr1,hc1,hg1⟩
     have HJ1:=jd ((uh HJ).next hc1 hg1)
     have HA1:=jd ((uh HA).cj (uh HJ).2 hg1)
     have HB1:=jd ((uh HB).gb hg1)
     have HZ1:=jd ((uh HZ).gb hg1)
     have hs1:wr.heap.size≤w1.heap.size:=hg1.size
     clear hc1 hg1 HJ HA HB HZ
     by_cases h0:r < 2
     ·clear hr1
      go_upto_region 12 with fail
      clear h0 hr0
      have hCELL:∀ wz,CJ w1 B g wz→wz.cell? ⟨w.heap.size+1,1,none⟩=some vc:=fun wz hz=>(hz.blk (uh HB1) (by omega)).cell 1
      have HJ0:=jd ((CJ.start (uh HJ1).2:CJ w1 B g w1).drew)
      refine wp_region_noPanic (wp_region_held_drew (S:=fun _=>True) (by kernel_rfl) trivial (fun _=>?_))
      refine tq 0 rfl trivial ?_
      refine tq 2 rfl trivial ?_
      refine tq 4 rfl trivial ?_
      refine ZcD (CJ w1 B g) (CT g) (AchR w1.heap.size vc) [1,3,5,6,7,8,9] #[true,true,true,true,true,true,true,true,true,true,false,false,false] [(1,some 40),(3,some 42),(5,some 44),(6,some 45),(7,some 46),(8,some 47),(9,some 48)] 76 3 (by kernel_rfl) rfl (AchR.keep (by omega)) (fun _ _=>trivial) (uh HJ0) ⟨?_,?_,?_,?_,?_,?_,?_,trivial⟩ ?_ rfl
      ·intro a wa hJ hout hin
       have e39:a.eval (.tmp 39)=.pointer (some ⟨w.heap.size+1,1,none⟩):=hout 39 (by kernel_rfl)
       refine ZaF rfl rfl (v:=vc) (w':=wa) ?_ (hJ.same rfl)
       have hq:=hCELL wa hJ
       unfold execOp
       simp only [e39]
       go_simp
      ·intro a wa hJ hout hin
       refine ZaF rfl rfl (v:=.slice (some ⟨wa.heap.size,0,none⟩) 4 4) (w':=wa.alloc (.cells #[.int .i64 3,.int .i64 2,.int .i64 1,.int .i64 0] 3)) ?_ (ZbE hJ _ ⟨_,rfl,Blk.new _ _ _,hJ.size⟩)
       simp [execOp,Act.eval,run_slice_i4]
      ·intro a wa hJ hout hin
       have e43:a.eval (.tmp 43)=.pointer (some ⟨g,0,none⟩):=hout 43 (by kernel_rfl)
       refine ZaI [.pointer (some ⟨g,0,none⟩),.int .i64 4] rfl rfl rfl rfl (uh EGN) ?_ ?_
       ·show [a.eval (.tmp 43),_]=_
        rw [e43]
        rfl
       · exact Zbn hJ 4 (by decide) (by decide) (fun _ h=>h)
      ·intro a wa hJ hout hin
       obtain ⟨q,e42,hq1,hq2⟩ :∃q:Nat,a.eval (.tmp 42)=.slice (some ⟨q,0,none⟩) 4 4∧Blk wa q 3 #[.int .i64 3,.int .i64 2,.int .i64 1,.int .i64 0]∧w1.heap.size≤q:=hin 3 42 (by kernel_rfl)
       obtain ⟨r2,e44,hr20,hr21⟩:ZbO 4 (a.eval (.tmp 44)):=hin 5 44 (by kernel_rfl)
       obtain ⟨k2,rfl⟩ :∃k2:Nat,r2=(k2:Int):=⟨r2.toNat,by omega⟩
       have hk2:k2 < 4:=by omega
       have hk3:(k2:Int) < 4:=by omega
       have hk4:(0:Int)≤(k2:Int):=by omega
       refine ZaF rfl rfl (v:=.pointer (some ⟨q,k2,none⟩)) (w':=wa) ?_ (hJ.same ⟨q,k2,rfl,hq1,hq2,hk2⟩)
       clear hr21
       unfold execOp
       simp only [e42,e44]
       go_simp
      ·intro a wa hJ hout hin
       obtain ⟨q,k2,e45,hq1,hq2,hk2⟩ :∃q k:Nat,a.eval (.tmp 45)=.pointer (some ⟨q,k,none⟩)∧Blk wa q 3 #[.int .i64 3,.int .i64 2,.int .i64 1,.int .i64 0]∧w1.heap.size≤q∧k < 4:=hin 6 45 (by kernel_rfl)
       obtain ⟨x,hx⟩ :∃x:Int,wa.cell? ⟨q,k2,none⟩=some (.int .i64 x):=by
        rw [hq1.cell]
        have:k2=0∨k2=1∨k2=2∨k2=3:=by omega
        rcases this with rfl | rfl | rfl | rfl<;>exact ⟨_,rfl⟩
       refine ZaF rfl rfl (v:=.int .i64 x) (w':=wa) ?_ (hJ.same ⟨_,rfl⟩)
       unfold execOp
       simp only [e45]
       go_simp
      ·intro a wa hJ hout hin
       have e41:a.eval (.tmp 41)=.int .i64 (n:Int):=hout 41 (by kernel_rfl)
       obtain ⟨x,e46⟩ :∃x,a.eval (.tmp 46)=.int .i64 x:=hin 7 46 (by kernel_rfl)
       refine Zey rfl rfl 54 _ rfl _ ?_ _ (build_chn (n:Int) x) (hJ.same ⟨_,rfl⟩)
       show [(0,a.eval (.tmp 41)),(1,a.eval (.tmp 46))]=_
       rw [e41,e46]
      ·intro a wa hJ hout hin
       obtain ⟨u,e47⟩ :∃u:Chn,a.eval (.tmp 47)=.agg u.cs.toArray:=hin 8 47 (by kernel_rfl)
       refine ZaF rfl rfl (v:=.slice (some ⟨wa.heap.size,0,none⟩) 1 1) (w':=wa.alloc (.cells u.cs.toArray 54)) ?_ (ZbE hJ _ ⟨u,_,rfl,Blk.new _ _ _,hJ.size⟩)
       simp [execOp,e47,run_slice_h wa u]
      intro vals ww hJw hRw
      simp only [puts,Act.put,zA,zB,zC]
      have e1:vals 1=vc:=hRw 1 (by rfl)
      obtain ⟨u,q,e9,hq1,hq2⟩ :∃(u:Chn) (q:Nat),vals 9=.slice (some ⟨q,0,none⟩) 1 1∧Blk ww q 54 u.cs.toArray∧w1.heap.size≤q:=hRw 9 (by rfl)
      have hul:u.cs.length=2:=rfl
      rw [e1,e9]
      clear e1 e9 hRw
      have HA2:=jd ((uh HA1).cj (uh HJ1).2 hJw.1)
      have HB2:=jd (hJw.blk (uh HB1) (by omega))
      have HZ2:=jd (hJw.blk (uh HZ1) (by omega))
      have hsw:=hJw.size
      obtain ⟨i0,hi,hz0,hz1,hz2⟩:=info_parts info_h
      refine tOz 10 rfl fun K hK=>?_
      refine ZaJ ww rfl (.tmp 40) (.tmp 48) 31 rfl w.heap.size 54 i0 _ 2 16 Tryz.underlying31 hi hz0 hz1 hz2 rfl (by omega) vc C.length (C.flatMap Chn.cs) rfl (uh HA2).c _ (some ⟨q,0,none⟩) 1 1 u.cs rfl (Zaj.of_new hq1 hul) (by intro v hv; simp [Chn.cs] at hv; rcases hv with rfl | rfl<;>rfl) (by unfold maxLen; omega) (by omega) (by omega) ?_
      intro v3 w3 ho3 hg3 _
      have HA3:=jd ((uh HA2).pushC hg3 ho3)
      have hne:∀ j cs,Blk ww j 33 cs→some j≠vc.ownBlock:=fun j cs hj=>(Zad (uh HA2).c hj (by decide)).symm
      have HB3:=jd ((uh HB2).grown hg3 (hne _ _ (uh HB2)))
      have HZ3:=jd ((uh HZ2).grown hg3 (hne _ _ (uh HZ2)))
      have HJ3:=jd ((uh HJ1).next2 hJw hg3 (fun j hj=>Zaw (uh HA2).c j hj) hgl)
      clear ho3 hne
      refine hK.out _ _ trivial (fun _=>?_)
      clear hK K
      try simp only [Act.put,zA,zB,zC]
      refine tq 11 rfl trivial ?_
      refine tOz 12 rfl fun K hK=>?_
      refine Zao (by rfl) 31 (.tmp 50) (.tmp 49) rfl (w.heap.size+1) 1 33 _ v3 [v3] [vu,v3] rfl rfl (uh HB3) (Zel (uh HA3).c) (by simp) (by kernel_rfl) (one1 (Za6 (uh HA3).c)) rfl ?_
      intro w4 hb4 hg4
      have HB4:=jd hb4
      have HA4:=jd ((uh HA3).stored (uh HB3) hg4)
      have HZ4:=jd ((uh HZ3).gb hg4)
      have HJ4:=jd ((uh HJ3).later2 hgl hg4 (by omega))
      clear hb4 hg4
      refine hK.out _ _ trivial (fun _=>?_)
      clear hK K
      try simp only [Act.put]
      refine tDz ?_
      clear hJw HA1 HB1 HZ1 HJ1 HA2 HB2 HZ2 HA3 HB3 HZ3 HJ3 hg3 HJ0 hCELL
      go_wp2_with fail
      go_roundw
      case rel=>exact ⟨n+1,vu,v3,U,C++[u],by go_num,by omega,by omega,by rw [List.length_append]; show C.length+1≤_; omega,uh HA4,uh HB4,uh HZ4,uh HJ4⟩
      case measure=>simp [intOf]; omega
     ·clear hr1 hr0
      go_wp2_with fail
      go_roundw
      case rel=>exact ⟨n+1,vu,vc,U,C,by go_num,by omega,by omega,by omega,uh HA1,uh HB1,uh HZ1,uh HJ1⟩
      case measure=>simp [intOf]; omega
    ·have hC4:C.length≤4:=by omega
     go_wp2_with fail
     refine (Zav wr B g 24 (uh HJ).2 (by decide) (by decide)).mono ?_
     rintro e w1 ⟨r,rfl,hr0,hr1,hc1,hg1⟩
     have HJ1:=jd ((uh HJ).next hc1 hg1)
     have HA1:=jd ((uh HA).cj (uh HJ).2 hg1)
     have HB1:=jd ((uh HB).gb hg1)
     have HZ1:=jd ((uh HZ).gb hg1)
     have hs1:wr.heap.size≤w1.heap.size:=hg1.size
     have hend:∀ (w9:World) (vu' vc':Value) (U':List Usr) (C':List Chn),U'.length≤7→C'.length≤5→AcOk w9 w.heap.size vu' vc' U' C'→CJ w B g w9→∀ w10,w9.grownBy w10 (some w.heap.size)→Blk w9 w.heap.size 33 #[.slice none 0 0,.slice none 0 0]→AcP w B g (.returned (.agg #[vu',vc'])) w10 :=
      fun w9 vu' vc' U' C' h1 h2 h3 h4 w10 h5 h6=>⟨vu',vc',U',C',rfl,h1,h2,h3.stored h6 h5,h4.later2 hgl h5 (Nat.le_refl _)⟩
     have HEND:=jd hend
     clear hc1 hg1 HJ HA HB HZ hend
     by_cases h23:r=23
     ·have e1:(r==23)=true:=by simp [h23]
      clear h23 hr1
      go_upto_region 15 with fail
      clear e1
      have hCELL:∀ wz,CJ w1 B g wz→wz.cell? ⟨w.heap.size+1,1,none⟩=some vc:=fun wz hz=>(hz.blk (uh HB1) (by omega)).cell 1
      have HJ0:=jd ((CJ.start (uh HJ1).2:CJ w1 B g w1).drew)
      refine wp_region_noPanic (wp_region_held_drew (S:=fun _=>True) (by kernel_rfl) trivial (fun _=>?_))
      refine tq 0 rfl trivial ?_
      refine tq 2 rfl trivial ?_
      refine ZcD (CJ w1 B g) (CT g) (AcdR w1.heap.size vc) [1,3,4,5] #[true,true,true,true,true,true,false,false,false] [(1,some 56),(3,some 58),(4,some 59),(5,some 60)] 76 3 (by kernel_rfl) rfl (AcdR.keep (by omega)) (fun _ _=>trivial) (uh HJ0) ⟨?_,?_,?_,?_,trivial⟩ ?_ rfl
      ·intro a wa hJ hout hin
       have e55:a.eval (.tmp 55)=.pointer (some ⟨w.heap.size+1,1,none⟩):=hout 55 (by kernel_rfl)
       refine ZaF rfl rfl (v:=vc) (w':=wa) ?_ (hJ.same rfl)
       have hq:=hCELL wa hJ
       unfold execOp
       simp only [e55]
       go_simp
      ·intro a wa hJ hout hin
       have e57:a.eval (.tmp 57)=.pointer (some ⟨g,0,none⟩):=hout 57 (by kernel_rfl)
       refine ZaI [.pointer (some ⟨g,0,none⟩),.int .i64 6] rfl rfl rfl rfl (uh EGN) ?_ ?_
       ·show [a.eval (.tmp 57),_]=_
        rw [e57]
        rfl
       · exact Zbn hJ 6 (by decide) (by decide) (fun _ h=>h)
      ·intro a wa hJ hout hin
       obtain ⟨x,e58,_,_⟩:ZbO 6 (a.eval (.tmp 58)):=hin 3 58 (by kernel_rfl)
       refine Zey rfl rfl 54 _ rfl _ ?_ _ (build_chn1 x) (hJ.same ⟨_,rfl⟩)
       show [(0,a.eval (.tmp 58))]=_
       rw [e58]
      ·intro a wa hJ hout hin
       obtain ⟨u,e59⟩ :∃u:Chn,a.eval (.tmp 59)=.agg u.cs.toArray:=hin 4 59 (by kernel_rfl)
       refine ZaF rfl rfl (v:=.slice (some ⟨wa.heap.size,0,none⟩) 1 1) (w':=wa.alloc (.cells u.cs.toArray 54)) ?_ (ZbE hJ _ ⟨u,_,rfl,Blk.new _ _ _,hJ.size⟩)
       simp [execOp,e59,run_slice_h wa u]
      intro vals ww hJw hRw
      simp only [puts,Act.put,zA,zB,zC]
      have e1:vals 1=vc:=hRw 1 (by rfl)
      obtain ⟨u,q,e9,hq1,hq2⟩ :∃(u:Chn) (q:Nat),vals 5=.slice (some ⟨q,0,none⟩) 1 1∧Blk ww q 54 u.cs.toArray∧w1.heap.size≤q:=hRw 5 (by rfl)
      have hul:u.cs.length=2:=rfl
      rw [e1,e9]
      clear e1 e9 hRw
      have HA2:=jd ((uh HA1).cj (uh HJ1).2 hJw.1)
      have HB2:=jd (hJw.blk (uh HB1) (by omega))
      have HZ2:=jd (hJw.blk (uh HZ1) (by omega))
      have hsw:=hJw.size
      obtain ⟨i0,hi,hz0,hz1,hz2⟩:=info_parts info_h
      refine tOz 6 rfl fun K hK=>?_
      refine ZaJ ww rfl (.tmp 56) (.tmp 60) 31 rfl w.heap.size 54 i0 _ 2 16 Tryz.underlying31 hi hz0 hz1 hz2 rfl (by omega) vc C.length (C.flatMap Chn.cs) rfl (uh HA2).c _ (some ⟨q,0,none⟩) 1 1 u.cs rfl (Zaj.of_new hq1 hul) (by intro v hv; simp [Chn.cs] at hv; rcases hv with rfl | rfl<;>rfl) (by unfold maxLen; omega) (by omega) (by omega) ?_
      intro v3 w3 ho3 hg3 _
      have HA3:=jd ((uh HA2).pushC hg3 ho3)
      have hne:∀ j cs,Blk ww j 33 cs→some j≠vc.ownBlock:=fun j cs hj=>(Zad (uh HA2).c hj (by decide)).symm
      have HB3:=jd ((uh HB2).grown hg3 (hne _ _ (uh HB2)))
      have HZ3:=jd ((uh HZ2).grown hg3 (hne _ _ (uh HZ2)))
      have HJ3:=jd ((uh HJ1).next2 hJw hg3 (fun j hj=>Zaw (uh HA2).c j hj) hgl)
      clear ho3 hne
      refine hK.out _ _ trivial (fun _=>?_)
      clear hK K
      try simp only [Act.put,zA,zB,zC]
      refine tq 7 rfl trivial ?_
      refine tOz 8 rfl fun K hK=>?_
      refine Zao (by rfl) 31 (.tmp 62) (.tmp 61) rfl (w.heap.size+1) 1 33 _ v3 [v3] [vu,v3] rfl rfl (uh HB3) (Zel (uh HA3).c) (by simp) (by kernel_rfl) (one1 (Za6 (uh HA3).c)) rfl ?_
      intro w4 hb4 hg4
      have HB4:=jd hb4
      have HA4:=jd ((uh HA3).stored (uh HB3) hg4)
      have HZ4:=jd ((uh HZ3).gb hg4)
      have HJ4:=jd ((uh HJ3).later2 hgl hg4 (by omega))
      clear hb4 hg4
      refine hK.out _ _ trivial (fun _=>?_)
      clear hK K
      try simp only [Act.put]
      refine tDz ?_
      clear hJw HA1 HB1 HZ1 HJ1 HA2 HB2 HZ2 HA3 HB3 HZ3 HJ3 hg3 HJ0 hCELL
      go_wp2_with (first
       | (refine wpList_load_row rfl 33 _ rfl (w.heap.size+1) rfl 33 _ _ _ (uh HB4) Tryz.underlying33 rfl (by kernel_rfl) ?_)
       |(refine Zaa rfl 33 (.tmp 2) (.tmp 75) rfl w.heap.size 33 _ #[vu,v3] rfl rfl (uh HZ4) rfl (by kernel_rfl) (by intro v hv; simp at hv; rcases hv with rfl | rfl; exact Za6 (uh HA4).u; exact Za6 (uh HA4).c) ?_
         intro w9 hb9 hg9
         have Z9:=jd hb9
         have E9:=jd ((uh HEND) _ vu v3 U (C++[u]) (by omega) (by rw [List.length_append]; show C.length+1≤_; omega) (uh HA4) (uh HJ4) _ hg9 (uh HZ4))
         clear hb9 hg9)
       | fail)
      exact bodyPost_ret (v:=.agg #[vu,v3]) (Zba rfl _ w.heap.size 33 _ _ rfl (uh Z9) Tryz.underlying33 rfl (by kernel_rfl)) rfl (uh E9)
     ·have e1:(r==23)=false:=by simp [h23]
      by_cases h22:r=22
      ·have e2:(r==22)=true:=by simp [h22]
       clear h23 h22 hr1 hr0
       go_upto_region 17 with fail
       clear e1 e2
       have hCELL:∀ wz,CJ w1 B g wz→wz.cell? ⟨w.heap.size+1,0,none⟩=some vu:=fun wz hz=>(hz.blk (uh HB1) (by omega)).cell 0
       have HJ0:=jd ((CJ.start (uh HJ1).2:CJ w1 B g w1).drew)
       refine wp_region_noPanic (wp_region_held_drew (S:=fun _=>True) (by kernel_rfl) trivial (fun _=>?_))
       refine tq 0 rfl trivial ?_
       refine tq 2 rfl trivial ?_
       refine tq 4 rfl trivial ?_
       refine ZcD (CJ w1 B g) (CT g) (AceR w1.heap.size vu) [1,3,5,6,7] #[true,true,true,true,true,true,true,true,false,false,false] [(1,some 66),(3,some 68),(5,some 70),(6,some 71),(7,some 72)] 76 3 (by kernel_rfl) rfl (AceR.keep (by omega)) (fun _ _=>trivial) (uh HJ0) ⟨?_,?_,?_,?_,?_,trivial⟩ ?_ rfl
       ·intro a wa hJ hout hin
        have e65:a.eval (.tmp 65)=.pointer (some ⟨w.heap.size+1,0,none⟩):=hout 65 (by kernel_rfl)
        refine ZaF rfl rfl (v:=vu) (w':=wa) ?_ (hJ.same rfl)
        have hq:=hCELL wa hJ
        unfold execOp
        simp only [e65]
        go_simp
       ·intro a wa hJ hout hin
        have e67:a.eval (.tmp 67)=.pointer (some ⟨g,0,none⟩):=hout 67 (by kernel_rfl)
        refine ZaI [.pointer (some ⟨g,0,none⟩)] rfl rfl rfl rfl (uh EGM) ?_ ?_
        · show [a.eval (.tmp 67)]=_
          rw [e67]
        · exact name_inv hJ (fun s hs=>⟨s,hs,rfl⟩)
       ·intro a wa hJ hout hin
        have e69:a.eval (.tmp 69)=.pointer (some ⟨g,0,none⟩):=hout 69 (by kernel_rfl)
        refine ZaI [.pointer (some ⟨g,0,none⟩),.int .i64 6] rfl rfl rfl rfl (uh EGN) ?_ ?_
        · show [a.eval (.tmp 69),_]=_
          rw [e69]
          rfl
        · exact Zbn hJ 6 (by decide) (by decide) (fun _ h=>h)
       ·intro a wa hJ hout hin
        obtain ⟨s,hs2,e68⟩ :∃s:List UInt8,s.length≤17∧a.eval (.tmp 68)=.string ⟨s.toArray⟩:=hin 3 68 (by kernel_rfl)
        obtain ⟨x,e70,_,_⟩:ZbO 6 (a.eval (.tmp 70)):=hin 5 70 (by kernel_rfl)
        refine Zey rfl rfl 52 _ rfl _ ?_ _ (build_usr2 s x) (hJ.same ⟨_,⟨by unfold maxLen; show s.length≤_; omega,rfl⟩,hs2,rfl⟩)
        show [(0,a.eval (.tmp 68)),(3,a.eval (.tmp 70))]=_
        rw [e68,e70]
       ·intro a wa hJ hout hin
        obtain ⟨u,hu1,hu2,e71⟩ :∃u:Usr,u.Ok∧u.name.length≤17∧a.eval (.tmp 71)=.agg u.cs.toArray:=hin 6 71 (by kernel_rfl)
        refine ZaF rfl rfl (v:=.slice (some ⟨wa.heap.size,0,none⟩) 1 1) (w':=wa.alloc (.cells u.cs.toArray 52)) ?_ (ZbE hJ _ ⟨u,_,hu1,hu2,rfl,Blk.new _ _ _,hJ.size⟩)
        simp [execOp,e71,Ze8 wa u hu1]
       intro vals ww hJw hRw
       simp only [puts,Act.put,zA,zB,zC]
       have e1:vals 1=vu:=hRw 1 (by rfl)
       obtain ⟨u,q,hu1,hu2,e9,hq1,hq2⟩ :∃(u:Usr) (q:Nat),u.Ok∧u.name.length≤17∧vals 7=.slice (some ⟨q,0,none⟩) 1 1∧Blk ww q 52 u.cs.toArray∧w1.heap.size≤q:=hRw 7 (by rfl)
       have hul:=u.len hu1
       rw [e1,e9]
       clear e1 e9 hRw
       have HA2:=jd ((uh HA1).cj (uh HJ1).2 hJw.1)
       have HB2:=jd (hJw.blk (uh HB1) (by omega))
       have HZ2:=jd (hJw.blk (uh HZ1) (by omega))
       have hsw:=hJw.size
       obtain ⟨i0,hi,hz0,hz1,hz2⟩:=info_parts info_u
       refine tOz 8 rfl fun K hK=>?_
       refine ZaJ ww rfl (.tmp 66) (.tmp 72) 30 rfl w.heap.size 52 i0 _ 19 48 Tryz.underlying30 hi hz0 hz1 hz2 zu_size (by omega) vu U.length (U.flatMap Usr.cs) rfl (uh HA2).u _ (some ⟨q,0,none⟩) 1 1 u.cs rfl (Zaj.of_new hq1 hul) Usr.one (by unfold maxLen; omega) (by omega) (by omega) ?_
       intro v3 w3 ho3 hg3 _
       have HA3:=jd ((uh HA2).pushU hg3 ho3 hu1 hu2)
       have hne:∀ j cs,Blk ww j 33 cs→some j≠vu.ownBlock:=fun j cs hj=>(Zad (uh HA2).u hj (by decide)).symm
       have HB3:=jd ((uh HB2).grown hg3 (hne _ _ (uh HB2)))
       have HZ3:=jd ((uh HZ2).grown hg3 (hne _ _ (uh HZ2)))
       have HJ3:=jd ((uh HJ1).next2 hJw hg3 (fun j hj=>Zaw (uh HA2).u j hj) hgl)
       clear ho3 hne
       refine hK.out _ _ trivial (fun _=>?_)
       clear hK K
       try simp only [Act.put,zA,zB,zC]
       refine tq 9 rfl trivial ?_
       refine tOz 10 rfl fun K hK=>?_
       refine Zao (by rfl) 30 (.tmp 74) (.tmp 73) rfl (w.heap.size+1) 0 33 _ v3 [v3] [v3,vc] rfl rfl (uh HB3) (Zel (uh HA3).u) (by simp) (by kernel_rfl) (one1 (Za6 (uh HA3).u)) rfl ?_
       intro w4 hb4 hg4
       have HB4:=jd hb4
       have HA4:=jd ((uh HA3).stored (uh HB3) hg4)
       have HZ4:=jd ((uh HZ3).gb hg4)
       have HJ4:=jd ((uh HJ3).later2 hgl hg4 (by omega))
       clear hb4 hg4
       refine hK.out _ _ trivial (fun _=>?_)
       clear hK K
       try simp only [Act.put]
       refine tDz ?_
       clear hJw HA1 HB1 HZ1 HJ1 HA2 HB2 HZ2 HA3 HB3 HZ3 HJ3 hg3 HJ0 hCELL
       go_wp2_with (first
        | (refine wpList_load_row rfl 33 _ rfl (w.heap.size+1) rfl 33 _ _ _ (uh HB4) Tryz.underlying33 rfl (by kernel_rfl) ?_)
        | (refine Zaa rfl 33 (.tmp 2) (.tmp 75) rfl w.heap.size 33 _ #[v3,vc] rfl rfl (uh HZ4) rfl (by kernel_rfl) (by intro v hv; simp at hv; rcases hv with rfl | rfl; exact Za6 (uh HA4).u; exact Za6 (uh HA4).c) ?_
           intro w9 hb9 hg9
           have Z9:=jd hb9
           have E9:=jd ((uh HEND) _ v3 vc (U++[u]) C (by rw [List.length_append]; show U.length+1≤_; omega) (by omega) (uh HA4) (uh HJ4) _ hg9 (uh HZ4))
           clear hb9 hg9)
        | fail)
       exact bodyPost_ret (v:=.agg #[v3,vc]) (Zba rfl _ w.heap.size 33 _ _ rfl (uh Z9) Tryz.underlying33 rfl (by kernel_rfl)) rfl (uh E9)
      ·have e2:(r==22)=false:=by simp [h22]
       clear h23 h22 hr1 hr0
       go_wp2_with (first
        | (refine wpList_load_row rfl 33 _ rfl (w.heap.size+1) rfl 33 _ _ _ (uh HB1) Tryz.underlying33 rfl (by kernel_rfl) ?_)
        | (refine Zaa rfl 33 (.tmp 2) (.tmp 75) rfl w.heap.size 33 _ #[vu,vc] rfl rfl (uh HZ1) rfl (by kernel_rfl) (by intro v hv; simp at hv; rcases hv with rfl | rfl; exact Za6 (uh HA1).u; exact Za6 (uh HA1).c) ?_
           intro w9 hb9 hg9
           have Z9:=jd hb9
           have E9:=jd ((uh HEND) _ vu vc U C (by omega) (by omega) (uh HA1) (uh HJ1) _ hg9 (uh HZ1))
           clear hb9 hg9)
        | fail)
       exact bodyPost_ret (v:=.agg #[vu,vc]) (Zba rfl _ w.heap.size 33 _ _ rfl (uh Z9) Tryz.underlying33 rfl (by kernel_rfl)) rfl (uh E9)
end Go.Proofs.YtfbkkmnkpjgciaaGreat
