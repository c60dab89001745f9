/- Joined of TOdd. No condition. -/
import Derived.Test.YtfbkkmnkpjgciaaGreatPG35
import Derived.Test.YtfbkkmnkpjgciaaGreatPG37
import Derived.Deep.CutBlock
namespace Go.Proofs.YtfbkkmnkpjgciaaGreat
open Go.RowKit
theorem run_now (w:World):(Instr.buildSlice 75 5 #[(0,.int .i64 0),(1,.int .i64 17179869184),(2,.int .i64 17179869183),(3,.int .i64 17179869185),(4,.int .i64 (-1))]).run Tryz.prog w=.ok (.slice (some ⟨w.heap.size,0,none⟩) 5 5) (w.alloc (.cells #[.int .i64 0,.int .i64 17179869184,.int .i64 17179869183,.int .i64 17179869185,.int .i64 (-1)] 2)):=by kernel_rfl
theorem run_o7 (w:World) (nx:Nat):(Instr.buildSlice 116 3 #[(0,.int .u32 0),(1,.int .u32 (nx:Int)),(2,.int .u32 4294967295)]).run Tryz.prog w=.ok (.slice (some ⟨w.heap.size,0,none⟩) 3 3) (w.alloc (.cells #[.int .u32 0,.int .u32 (nx:Int),.int .u32 4294967295] 27)):=by kernel_rfl
theorem run_o9 (w:World):(Instr.buildSlice 117 3 #[(0,.int .i64 0),(1,.int .i64 4),(2,.int .i64 (-1))]).run Tryz.prog w=.ok (.slice (some ⟨w.heap.size,0,none⟩) 3 3) (w.alloc (.cells #[.int .i64 0,.int .i64 4,.int .i64 (-1)] 3)):=by kernel_rfl
theorem run_o11 (w:World):(Instr.buildSlice 75 3 #[(0,.int .i64 (-1)),(1,.int .i64 17179869184),(2,.int .i64 17179869185)]).run Tryz.prog w=.ok (.slice (some ⟨w.heap.size,0,none⟩) 3 3) (w.alloc (.cells #[.int .i64 (-1),.int .i64 17179869184,.int .i64 17179869185] 2)):=by kernel_rfl
theorem run_o16 (w:World):(Instr.buildSlice 116 3 #[(0,.int .u32 0),(1,.int .u32 4294967295),(2,.int .u32 4294967294)]).run Tryz.prog w=.ok (.slice (some ⟨w.heap.size,0,none⟩) 3 3) (w.alloc (.cells #[.int .u32 0,.int .u32 4294967295,.int .u32 4294967294] 27)):=by kernel_rfl
theorem run_o20 (w:World):(Instr.buildSlice 116 4 #[(0,.int .u32 0),(1,.int .u32 1),(2,.int .u32 4294967295),(3,.int .u32 4294967294)]).run Tryz.prog w=.ok (.slice (some ⟨w.heap.size,0,none⟩) 4 4) (w.alloc (.cells #[.int .u32 0,.int .u32 1,.int .u32 4294967295,.int .u32 4294967294] 27)):=by kernel_rfl
theorem build_win (m k:Nat):Tryz.prog.built 48 [(0,.int .u32 (m:Int)),(1,.int .u32 (k:Int))]=some #[.int .u32 (m:Int),.int .u32 (k:Int)]:=by kernel_rfl
def Od7R (q0:Nat) (vL:Value) (nx:Nat):Nat→Value→World→Prop
 | 1,v,_=>v=vL
 | 3,v,_=>v=.int .u32 (nx:Int)
 | 4,v,w=>∃ q:Nat,v=.slice (some ⟨q,0,none⟩) 3 3∧Blk w q 27 #[.int .u32 0,.int .u32 (nx:Int),.int .u32 4294967295]∧q0≤q
 | 6,v,_=>ZbO 3 v
 | 7,v,w=>∃ q k:Nat,v=.pointer (some ⟨q,k,none⟩)∧Blk w q 27 #[.int .u32 0,.int .u32 (nx:Int),.int .u32 4294967295]∧q0≤q∧k < 3
 | 8,v,_=>∃ m:Nat,m < 4294967296∧v=.int .u32 (m:Int)
 | _,_,_=>True
theorem Od7R.keep {q0:Nat} {vL:Value} {nx:Nat} {g:Nat} (hg:g < q0):∀ (k:Nat) (v:Value) (w w':World),Od7R q0  vL  nx  k v w→CT g w w'→Od7R q0  vL  nx  k v w':=by
 intro k v w w' h hb
 unfold Od7R at *
 split at h
 · exact h
 · exact h
 · obtain ⟨q,h1,h2,h3⟩:=h; exact ⟨q,h1,hb.blk h2 (by omega),h3⟩
 · exact h
 · obtain ⟨q,k,h1,h2,h3,h4⟩:=h; exact ⟨q,k,h1,hb.blk h2 (by omega),h3,h4⟩
 · exact h
 · trivial
def Od9R (q0:Nat) (vL:Value):Nat→Value→World→Prop
 | 1,v,_=>v=vL
 | 2,v,w=>∃ q:Nat,v=.slice (some ⟨q,0,none⟩) 3 3∧Blk w q 3 #[.int .i64 0,.int .i64 4,.int .i64 (-1)]∧q0≤q
 | 4,v,_=>ZbO 3 v
 | 5,v,w=>∃ q k:Nat,v=.pointer (some ⟨q,k,none⟩)∧Blk w q 3 #[.int .i64 0,.int .i64 4,.int .i64 (-1)]∧q0≤q∧k < 3
 | 6,v,_=>∃ r:Int,v=.int .i64 r
 | _,_,_=>True
theorem Od9R.keep {q0:Nat} {vL:Value} {g:Nat} (hg:g < q0):∀ (k:Nat) (v:Value) (w w':World),Od9R q0  vL  k v w→CT g w w'→Od9R q0  vL  k v w':=by
 intro k v w w' h hb
 unfold Od9R at *
 split at h
 · exact h
 · obtain ⟨q,h1,h2,h3⟩:=h; exact ⟨q,h1,hb.blk h2 (by omega),h3⟩
 · exact h
 · obtain ⟨q,k,h1,h2,h3,h4⟩:=h; exact ⟨q,k,h1,hb.blk h2 (by omega),h3,h4⟩
 · exact h
 · trivial
def Od11R (q0:Nat) (vL:Value):Nat→Value→World→Prop
 | 1,v,_=>v=vL
 | 2,v,w=>∃ q:Nat,v=.slice (some ⟨q,0,none⟩) 3 3∧Blk w q 2 #[.int .i64 (-1),.int .i64 17179869184,.int .i64 17179869185]∧q0≤q
 | 4,v,_=>ZbO 3 v
 | 5,v,w=>∃ q k:Nat,v=.pointer (some ⟨q,k,none⟩)∧Blk w q 2 #[.int .i64 (-1),.int .i64 17179869184,.int .i64 17179869185]∧q0≤q∧k < 3
 | 6,v,_=>∃ r:Int,v=.int .i64 r
 | _,_,_=>True
theorem Od11R.keep {q0:Nat} {vL:Value} {g:Nat} (hg:g < q0):∀ (k:Nat) (v:Value) (w w':World),Od11R q0  vL  k v w→CT g w w'→Od11R q0  vL  k v w':=by
 intro k v w w' h hb
 unfold Od11R at *
 split at h
 · exact h
 · obtain ⟨q,h1,h2,h3⟩:=h; exact ⟨q,h1,hb.blk h2 (by omega),h3⟩
 · exact h
 · obtain ⟨q,k,h1,h2,h3,h4⟩:=h; exact ⟨q,k,h1,hb.blk h2 (by omega),h3,h4⟩
 · exact h
 · trivial
def Od16R (q0:Nat) (vL:Value):Nat→Value→World→Prop
 | 1,v,_=>v=vL
 | 2,v,w=>∃ q:Nat,v=.slice (some ⟨q,0,none⟩) 3 3∧Blk w q 27 #[.int .u32 0,.int .u32 4294967295,.int .u32 4294967294]∧q0≤q
 | 4,v,_=>ZbO 3 v
 | 5,v,w=>∃ q k:Nat,v=.pointer (some ⟨q,k,none⟩)∧Blk w q 27 #[.int .u32 0,.int .u32 4294967295,.int .u32 4294967294]∧q0≤q∧k < 3
 | 6,v,_=>∃ m:Nat,m < 4294967296∧v=.int .u32 (m:Int)
 | _,_,_=>True
theorem Od16R.keep {q0:Nat} {vL:Value} {g:Nat} (hg:g < q0):∀ (k:Nat) (v:Value) (w w':World),Od16R q0  vL  k v w→CT g w w'→Od16R q0  vL  k v w':=by
 intro k v w w' h hb
 unfold Od16R at *
 split at h
 · exact h
 · obtain ⟨q,h1,h2,h3⟩:=h; exact ⟨q,h1,hb.blk h2 (by omega),h3⟩
 · exact h
 · obtain ⟨q,k,h1,h2,h3,h4⟩:=h; exact ⟨q,k,h1,hb.blk h2 (by omega),h3,h4⟩
 · exact h
 · trivial
def Od15R (q0:Nat) (vL:Value):Nat→Value→World→Prop
 | 1,v,_=>v=vL∧q0=q0
 | 3,v,_=>ZbO 70 v
 | 4,v,_=>∃ m:Nat,m < 4294967296∧v=.int .u32 (m:Int)
 | 6,v,_=>ZbO 300 v
 | 7,v,_=>∃ m:Nat,m < 4294967296∧v=.int .u32 (m:Int)
 | 8,v,_=>∃ m k:Nat,m < 4294967296∧k < 4294967296∧v=.agg #[.int .u32 (m:Int),.int .u32 (k:Int)]
 | _,_,_=>True
theorem Od15R.keep {q0:Nat} {vL:Value} {g:Nat} (_:g < q0):∀ (k:Nat) (v:Value) (w w':World),Od15R q0  vL  k v w→CT g w w'→Od15R q0  vL  k v w':=by
 intro k v w w' h hb
 unfold Od15R at *
 split at h
 · exact h
 · exact h
 · exact h
 · exact h
 · exact h
 · exact h
 · trivial
def Od18R (q0:Nat) (vL:Value) (gr:Nat) (x:Sess):Nat→Value→World→Prop
 | 1,v,_=>v=vL
 | 3,v,_=>v=vL
 | 4,v,_=>v=.pointer (some ⟨gr,0,none⟩)
 | 5,v,_=>v=.agg x.cs.toArray
 | 6,v,w=>∃ q:Nat,v=.slice (some ⟨q,0,none⟩) 1 1∧Blk w q 50 x.cs.toArray∧q0≤q
 | _,_,_=>True
theorem Od18R.keep {q0:Nat} {vL:Value} {gr:Nat} {x:Sess} {g:Nat} (hg:g < q0):∀ (k:Nat) (v:Value) (w w':World),Od18R q0  vL  gr  x  k v w→CT g w w'→Od18R q0  vL  gr  x  k v w':=by
 intro k v w w' h hb
 unfold Od18R at *
 split at h
 · exact h
 · exact h
 · exact h
 · exact h
 · obtain ⟨q,h1,h2,h3⟩:=h; exact ⟨q,h1,hb.blk h2 (by omega),h3⟩
 · trivial
def NowP (w:World) (B g:Nat) (e:Ending) (w':World):Prop :=∃t:Int,e=.returned (.int .i64 t)∧CJ w B g w'
set_option maxRecDepth 100000 in
set_option maxHeartbeats 4000000 in
theorem now_cx (w:World) (B g:Nat) (h:Zaq w B g):Calls Tryz.prog 25 #[.pointer (some ⟨g,0,none⟩)] w (NowP w B g):=by
 have hgl:=h.lt
 have HC:=jd h
 clear h
 go_enter Tryz.func25,Tryz.ntmps25
 go_wp2_with fail
 refine (Zav w B g 12 (uh HC) (by decide) (by decide)).mono ?_
 rintro e w1 ⟨r,rfl,hr0,hr1,hc1,hg1⟩
 have HJ:=jd ((CJ.start (uh HC)).next hc1 hg1)
 clear hc1 hg1 HC
 by_cases h11:r=11
 ·have e1:(r==11)=true:=by simp [h11]
  clear h11 hr1
  go_wp2_with fail
  obtain ⟨W,hW⟩ :∃W,w1.alloc (.cells #[.int .i64 0,.int .i64 17179869184,.int .i64 17179869183,.int .i64 17179869185,.int .i64 (-1)] 2)=W:=⟨_,rfl⟩
  have hbl:Below w1.heap.size w1 W:=hW ▸ (Below.refl _ _).alloc (Nat.le_refl _) _
  have HJ2:=jd ((uh HJ).later hgl (hbl.mono (uh HJ).size))
  have HQ:=jd (hW ▸ Blk.new w1 _ _:Blk W w1.heap.size 2 #[.int .i64 0,.int .i64 17179869184,.int .i64 17179869183,.int .i64 17179869185,.int .i64 (-1)])
  rw [hW]
  clear hW hbl
  refine (Zav W B g 5 (uh HJ2).2 (by decide) (by decide)).mono ?_
  rintro e w2 ⟨r,rfl,hr0,hr1,hc2,hg2⟩
  obtain ⟨k,rfl⟩ :∃k:Nat,r=(k:Int):=⟨r.toNat,by omega⟩
  have hk:k < 5:=by omega
  have HJ3:=jd ((uh HJ2).next hc2 hg2)
  obtain ⟨x,hx⟩ :∃x:Int,w2.cell? ⟨w1.heap.size,k,none⟩=some (.int .i64 x):=by
   rw [((uh HQ).grown hg2 (fun e=>(ZbG (uh HJ2).2 (uh HQ) (by decide)) (by injection e))).cell]
   have:k=0∨k=1∨k=2∨k=3∨k=4:=by omega
   rcases this with rfl | rfl | rfl | rfl | rfl<;>exact ⟨_,rfl⟩
  clear hc2 hg2 hr1
  go_wp2_with fail
  go_ret
  exact ⟨x,rfl,uh HJ3⟩
 ·have e1:(r==11)=false:=by simp [h11]
  clear h11 hr1
  go_wp2_with fail
  refine (Zav w1 B g 200 (uh HJ).2 (by decide) (by decide)).mono ?_
  rintro e w2 ⟨r,rfl,_,_,hc2,hg2⟩
  have HJ3:=jd ((uh HJ).next hc2 hg2)
  clear hc2 hg2
  go_wp2_with fail
  go_ret
  exact ⟨r,rfl,uh HJ3⟩
theorem Sess.set_id {x:Sess} (h:x.Ok) (n:Nat):x.cs.take 0++[.int .u32 (n:Int)]++x.cs.drop (0+[Value.int .u32 (n:Int)].length)={ x with id:=n }.cs:=by
 obtain ⟨a0,a1,a2,a3,a4,a5,a6,a7,a8,a9,a10,a11,a12,a13,a14,a15,e1⟩:=x.open_ h
 obtain ⟨id,user,level,client,server,key,opn,hi,se,out,last⟩:=x
 dsimp only at e1
 subst e1
 rfl
theorem Sess.set_level {x:Sess} (h:x.Ok) (l:Int):x.cs.take 2++[.int .i64 l]++x.cs.drop (2+[Value.int .i64 l].length)={ x with level:=l }.cs:=by
 obtain ⟨a0,a1,a2,a3,a4,a5,a6,a7,a8,a9,a10,a11,a12,a13,a14,a15,e1⟩:=x.open_ h
 obtain ⟨id,user,level,client,server,key,opn,hi,se,out,last⟩:=x
 dsimp only at e1
 subst e1
 rfl
structure OddS (w wz:World) (B g n:Nat) (A:Option Addr) (c:Nat) (L:List Sess) (nx:Nat):Prop where
 b3:Blk wz w.heap.size 29 #[.slice A L.length c,.int .u32 (nx:Int)]
 b4:Blk wz (w.heap.size+1) 29 #[.slice none 0 0,.int .u32 0]
 o:wz.ownsRow w.heap.size 50 26 (.slice A L.length c) L.length (Zat L)
 ok:ZaE L
 nx:nx < 4294967296
 len:L.length≤n
 j:CJ w B g wz
section
variable {w wz wy:World} {B g n c gr cap:Nat} {A:Option Addr} {L:List Sess} {nx:Nat}
theorem OddS.cj (h:OddS w wz B g n A c L nx) (hgl:g < w.heap.size) (hj:CJ wz B g wy):OddS w wy B g n A c L nx :=
 ⟨h.b3.grown hj.1 (fun e=>by injection e with e; omega),h.b4.grown hj.1 (fun e=>by injection e with e; omega),Zap h.o hj.1 (Zbi h.j.2 h.o (by decide)),h.ok,h.nx,h.len,⟨h.j.1.trans hj.1,hj.2⟩⟩
theorem OddS.more (h:OddS w wz B g n A c L nx):OddS w wz B g (n+1) A c L nx:=⟨h.b3,h.b4,h.o,h.ok,h.nx,Nat.le_succ_of_le h.len,h.j⟩
theorem OddS.row (h:OddS w wz B g n A c L nx) (hp:0 < L.length) :∃gr cur x,A=some ⟨gr,0,none⟩∧w.heap.size≤gr∧RowM wz gr c L cur∧L[0]?=some x∧x.Ok:=by
 obtain ⟨gr,cap,cur,hv,hgb,hrow,_⟩:=RowM.of_own h.o h.ok hp
 injection hv with h1 _ h2
 subst h1 h2
 exact ⟨gr,cur,L[0]'hp,rfl,hgb,hrow,List.getElem?_eq_getElem hp,h.ok _ (List.getElem_mem _)⟩
theorem OddS.set {cur:Array Value} {x x':Sess} {j:Nat} {p:List Value} (h:OddS w wz B g n (some ⟨gr,0,none⟩) cap L nx) (hgl:g < w.heap.size) (hr:RowM wz gr cap L cur) (hgb:w.heap.size≤gr) (hx:L[0]?=some x) (hxo:x'.Ok)
  (hp:x.cs.take j++p++x.cs.drop (j+p.length)=x'.cs) (hj:j+p.length≤26) (hb:Blk wy gr 50 (cur.toList.take (0*26+j)++p++cur.toList.drop (0*26+j+p.length)).toArray) (hg:wz.grownBy wy (some gr)) :
  OddS w wy B g n (some ⟨gr,0,none⟩) cap (L.set 0 x') nx∧∃ cur',RowM wy gr cap (L.set 0 x') cur':=by
 have hr':=RowM.part (i:=0) hr h.ok hx hxo hp hj hb
 have hok:ZaE (L.set 0 x'):=ZaE.set h.ok hxo
 have hl:(L.set 0 x').length=L.length:=List.length_set
 refine ⟨⟨?_,h.b4.grown hg (fun e=>h.b4.ne_ hr.blk (by decide) (by injection e)),?_,hok,h.nx,by rw [hl]; exact h.len,h.j.later2 hgl hg hgb⟩,_,hr'⟩
 · rw [hl]; exact h.b3.grown hg (fun e=>h.b3.ne_ hr.blk (by decide) (by injection e))
 · rw [hl]; exact hr'.whole hok hgb hl
end
def OddP (w:World) (B g n:Nat) (e:Ending) (w':World):Prop :=
 ∃ A c L nx,e=.returned (.agg #[.slice A L.length c,.int .u32 ((nx:Nat):Int)])∧w'.ownsRow w.heap.size 50 26 (.slice A L.length c) L.length (Zat L)∧ZaE L∧nx < 4294967296∧L.length≤n+1∧CJ w B g w'
set_option maxRecDepth 100000 in
set_option maxHeartbeats 16000000 in
theorem odd_cx (w:World) (B g:Nat) (hcc:Zaq w B g) (A:Option Addr) (n c:Nat) (L:List Sess) (nx:Nat) (hS:ZaA w w.heap.size A n L) (hn:n≤100) (hnx:nx < 4294967296) :
  Calls Tryz.prog 24 #[.pointer (some ⟨g,0,none⟩),.agg #[.slice A n c,.int .u32 (nx:Int)]] w (OddP w B g n):=by
 have hgl:=hcc.lt
 obtain ⟨W1,hW1⟩ :∃W1,(w.alloc (.cells #[.slice A n c,.int .u32 (nx:Int)] 29)).alloc (.cells #[.slice none 0 0,.int .u32 0] 29)=W1:=⟨_,rfl⟩
 have K3:Hid (Blk W1 w.heap.size 29 #[.slice A n c,.int .u32 (nx:Int)]):=jd (hW1 ▸ ((Blk.new w _ _).alloc _))
 have K4:Hid (Blk W1 (w.heap.size+1) 29 #[.slice none 0 0,.int .u32 0]):=jd (hW1 ▸ (Blk.new' (by simp)))
 have B1:Hid (Below w.heap.size w W1):=jd (hW1 ▸ ((Below.refl _ _).alloc (Nat.le_refl _) _).alloc (by rw [Zae]; omega) _)
 have HJ1:Hid (CJ w B g W1):=jd ((CJ.start hcc).below (uh B1) trivial).1
 have HS:=jd hS
 have EGN:=jd (ZaO Tryz.func18 (by kernel_rfl) rfl)
 have hLn:L.length=n:=hS.len
 have HLN:=jd hLn
 clear hS hcc hLn
 go_enter Tryz.func24,Tryz.ntmps24
 go_wp2_with (first
  | (refine wpList_load_row rfl 29 _ rfl w.heap.size rfl 29 _ _ _ (uh K3) Tryz.underlying29 rfl (by kernel_rfl) ?_)
  | fail)
 refine (ZeP W1 A n c L nx (((uh HS).below (uh B1)).more (uh B1).size) (by omega)).mono ?_
 rintro e w2 hex
 unfold Zcm at hex
 obtain ⟨v2,rfl,ho2,hb2⟩:=hex
 obtain ⟨A2,c2,e2,_,_⟩:=Zac ho2
 subst e2
 have M3:=jd ((uh K3).below hb2 (uh K3).lt)
 have M4:=jd ((uh K4).below hb2 (uh K4).lt)
 have HO2:=jd (Zak ho2 (uh B1).size)
 have HJ2:Hid (CJ w B g w2):=jd ((uh HJ1).below hb2 trivial).1
 clear ho2 hb2
 go_upto_region 2 with (first
  |(refine Zaa rfl 29 (.tmp 3) (.tmp 7) rfl w.heap.size 29 _ #[.slice A2 L.length c2,.int .u32 (nx:Int)] rfl rfl (uh M3) rfl (by kernel_rfl) (oZz rfl rfl) ?_
    intro w3 hb3 hg3
    have HS3:Hid (OddS w w3 B g n A2 c2 L nx):=jd ⟨hb3,(uh M4).gb hg3,(uh HO2).kept hg3 (.inr (Zad (uh HO2) (uh M3) (by decide))),(uh HS).ok,hnx,by rw [uh HLN]; omega,(uh HJ2).later2 hgl hg3 (Nat.le_refl _)⟩
    clear hb3 hg3)
  | fail)
 clear K3 K4 M3 M4 HO2 HJ1 HJ2 B1 HS
 go_wp2_with fail
 refine (Zav w3 B g 7 (uh HS3).j.2 (by decide) (by decide)).mono ?_
 rintro e w4 ⟨r,rfl,hr0,hr1,hcx,hgx⟩
 have HS4:=jd ((uh HS3).cj hgl ⟨hgx,hcx⟩)
 obtain ⟨k0,rfl⟩ :∃k:Nat,r=(k:Int):=⟨r.toNat,by omega⟩
 have hk0:k0 < 7:=by omega
 have c30:w4.cell? ⟨w.heap.size,0,none⟩=some (.slice A2 L.length c2):=(uh HS4).b3.cell 0
 obtain ⟨t13,ht13⟩ :∃t,((L.length:Int)==0)=t:=⟨_,rfl⟩
 have HT13:=jd ht13
 clear hcx hgx HS3 hr0 hr1
 go_upto_if 13 with fail
 clear c30 ht13
 go_cut [5] from 10 to 13 (fun v wj=>∃ k:Nat,v=.int .i64 (k:Int)∧k < 7∧(k < 6→0 < L.length)∧wj=w4)
 case first =>
  cases t13
  ·have hp:0 < L.length:=by
     have h:=uh HT13
     rcases Nat.eq_zero_or_pos L.length with h0 | h0
     ·rw [h0] at h
      exact absurd h (by decide)
     · exact h0
   go_wp2_with fail
   go_meet
   exact ⟨k0,rfl,hk0,fun _=>hp,rfl⟩
  ·go_wp2_with fail
   go_meet
   exact ⟨6,rfl,by omega,fun h=>absurd h (by omega),rfl⟩
 case rest =>
  obtain ⟨k,rfl,hk,hkp,hwc⟩:=hcut
  have hwc':=hwc.symm
  subst hwc'
  clear hwc HT13 hk0
  go_upto_block 0 with fail
  go_cut [] from 14 to 102 (fun wj=>∃ A c L nx,OddS w wj B g (n+1) A c L nx)
  case first =>
   as_aux_lemma =>
   have hk7:k=0∨k=1∨k=2∨k=3∨k=4∨k=5∨k=6:=by omega
   rcases hk7 with rfl | rfl | rfl | rfl | rfl | rfl | rfl
   · obtain ⟨gr,cur,x,rfl,hgb,hrow,hx,hxo⟩:=(uh HS4).row (hkp (by omega))
     have HR4:=jd hrow
     have HX:=jd hx
     have HXO:=jd hxo
     have hposN:0 < L.length:=hkp (by omega)
     have hpos:(0:Int) < (L.length:Int):=by omega
     have hgrg:gr≠g:=by omega
     clear hrow hx hxo hkp hk
     go_upto_region 7 with fail
     have hCELL0:∀ wz,CJ w4 B g wz→wz.cell? ⟨w.heap.size,0,none⟩=some (.slice (some ⟨gr,0,none⟩) L.length c2):=fun wz hz=>(hz.blk (uh HS4).b3 (by omega)).cell 0
     have hCELL1:∀ wz,CJ w4 B g wz→wz.cell? ⟨w.heap.size,1,none⟩=some (.int .u32 (nx:Int)):=fun wz hz=>(hz.blk (uh HS4).b3 (by omega)).cell 1
     have hg4:g < w4.heap.size:=(uh HS4).j.2.lt
     have hnx4:=(uh HS4).nx
     have HJ0:=jd ((CJ.start (uh HS4).j.2:CJ w4 B g w4).drew)
     refine wp_region_noPanic (wp_region_held_drew (S:=fun _=>True) (by kernel_rfl) trivial (fun _=>?_))
     refine tq 0 rfl trivial ?_
     refine tq 2 rfl trivial ?_
     refine tq 5 rfl trivial ?_
     refine ZcD (CJ w4 B g) (CT g) (Od7R w4.heap.size (.slice (some ⟨gr,0,none⟩) L.length c2) nx) [1,3,4,6,7,8] #[true,true,true,true,true,true,true,true,true,false,false,false] [(1,some 18),(3,some 20),(4,some 21),(6,some 23),(7,some 24),(8,some 25)] 104 3 (by kernel_rfl) rfl (Od7R.keep (by omega)) (fun _ _=>trivial) (uh HJ0) ⟨?_,?_,?_,?_,?_,?_,trivial⟩ ?_ rfl
     ·intro a wa hJ hout hin
      have e17:a.eval (.tmp 17)=.pointer (some ⟨w.heap.size,0,none⟩):=hout 17 (by kernel_rfl)
      refine ZaF rfl rfl (v:=.slice (some ⟨gr,0,none⟩) L.length c2) (w':=wa) ?_ (hJ.same rfl)
      have hq:=hCELL0 wa hJ
      unfold execOp
      simp only [e17]
      go_simp
     ·intro a wa hJ hout hin
      have e19:a.eval (.tmp 19)=.pointer (some ⟨w.heap.size,1,none⟩):=hout 19 (by kernel_rfl)
      refine ZaF rfl rfl (v:=.int .u32 (nx:Int)) (w':=wa) ?_ (hJ.same rfl)
      have hq:=hCELL1 wa hJ
      unfold execOp
      simp only [e19]
      go_simp
     ·intro a wa hJ hout hin
      have e20:a.eval (.tmp 20)=.int .u32 (nx:Int):=hin 3 20 (by kernel_rfl)
      refine ZaF rfl rfl (v:=.slice (some ⟨wa.heap.size,0,none⟩) 3 3) (w':=wa.alloc (.cells #[.int .u32 0,.int .u32 (nx:Int),.int .u32 4294967295] 27)) ?_ (ZbE hJ _ ⟨_,rfl,Blk.new _ _ _,hJ.size⟩)
      have e':a.tmps[20]?.getD undef=.int .u32 (nx:Int):=by simpa [Act.eval] using e20
      simp [execOp,Act.eval,e',run_o7]
     ·intro a wa hJ hout hin
      have e22:a.eval (.tmp 22)=.pointer (some ⟨g,0,none⟩):=hout 22 (by kernel_rfl)
      refine ZaI [.pointer (some ⟨g,0,none⟩),.int .i64 3] rfl rfl rfl rfl (uh EGN) ?_ ?_
      · show [a.eval (.tmp 22),_]=_
        rw [e22]
        rfl
      · exact Zbn hJ 3 (by decide) (by decide) (fun _ h=>h)
     ·intro a wa hJ hout hin
      obtain ⟨q,e21,hq1,hq2⟩ :∃q:Nat,a.eval (.tmp 21)=.slice (some ⟨q,0,none⟩) 3 3∧Blk wa q 27 #[.int .u32 0,.int .u32 (nx:Int),.int .u32 4294967295]∧w4.heap.size≤q:=hin 4 21 (by kernel_rfl)
      obtain ⟨r2,e23,hr20,hr21⟩:ZbO 3 (a.eval (.tmp 23)):=hin 6 23 (by kernel_rfl)
      obtain ⟨k2,rfl⟩ :∃k2:Nat,r2=(k2:Int):=⟨r2.toNat,by omega⟩
      have hk2:k2 < 3:=by omega
      have hk3:(k2:Int) < 3:=by omega
      have hk4:(0:Int)≤(k2:Int):=by omega
      refine ZaF rfl rfl (v:=.pointer (some ⟨q,k2,none⟩)) (w':=wa) ?_ (hJ.same ⟨q,k2,rfl,hq1,hq2,hk2⟩)
      clear hr21
      unfold execOp
      simp only [e21,e23]
      go_simp
     ·intro a wa hJ hout hin
      obtain ⟨q,k2,e24,hq1,hq2,hk2⟩ :∃q k:Nat,a.eval (.tmp 24)=.pointer (some ⟨q,k,none⟩)∧Blk wa q 27 #[.int .u32 0,.int .u32 (nx:Int),.int .u32 4294967295]∧w4.heap.size≤q∧k < 3:=hin 7 24 (by kernel_rfl)
      obtain ⟨m,hm,hx⟩ :∃m:Nat,m < 4294967296∧wa.cell? ⟨q,k2,none⟩=some (.int .u32 (m:Int)):=by
        rw [hq1.cell]
        have:k2=0∨k2=1∨k2=2:=by omega
        rcases this with rfl | rfl | rfl
        · exact ⟨0,by omega,rfl⟩
        · exact ⟨nx,by omega,rfl⟩
        · exact ⟨4294967295,by omega,rfl⟩
      refine ZaF rfl rfl (v:=.int .u32 (m:Int)) (w':=wa) ?_ (hJ.same ⟨m,hm,rfl⟩)
      unfold execOp
      simp only [e24]
      go_simp
     intro vals ww hJw hRw
     simp only [puts,Act.put,zA,zB,zC]
     have e1:vals 1=(.slice (some ⟨gr,0,none⟩) L.length c2):=hRw 1 (by rfl)
     obtain ⟨m,hm,e8⟩ :∃m:Nat,m < 4294967296∧vals 8=.int .u32 (m:Int):=hRw 8 (by rfl)
     rw [e1,e8]
     clear e1 e8 hRw hCELL0 hCELL1 HJ0
     have HS5:=jd ((uh HS4).cj hgl hJw)
     have HR5:=jd ((uh HR4).grown hJw.1 hgrg)
     have hfit:0*26+0+1≤cur.size:=by have h1:=(uh HR5).size; have h2:=(uh HR5).le; omega
     refine tq 9 rfl trivial ?_
     refine tq 10 rfl trivial ?_
     refine tOz 11 rfl fun K hK=>?_
     refine Zao (by rfl) 27 (.tmp 27) (.tmp 25) rfl gr (0*26+0) 50 cur (.int .u32 (m:Int)) [.int .u32 (m:Int)] _ rfl rfl (uh HR5).blk rfl hfit (by kernel_rfl) (by simp [Value.oneCell']) rfl ?_
     intro w6 hb6 hg6
     have hres:=(uh HS5).set (x':={ x with id:=m }) hgl (uh HR5) hgb (uh HX) { (uh HXO) with id:=hm } (Sess.set_id (uh HXO) m) (by simp) hb6 hg6
     have HS6:=jd hres.1
     clear hb6 hg6
     refine hK.out _ _ trivial (fun _=>?_)
     clear hK K
     try simp only [Act.put]
     refine tDz ?_
     clear hJw HS5 HR5 hres
     go_wp2_with fail
     go_meet
     exact ⟨_,_,_,_,(uh HS6).more⟩
   · obtain ⟨gr,cur,x,rfl,hgb,hrow,hx,hxo⟩:=(uh HS4).row (hkp (by omega))
     have HR4:=jd hrow
     have HX:=jd hx
     have HXO:=jd hxo
     have hposN:0 < L.length:=hkp (by omega)
     have hpos:(0:Int) < (L.length:Int):=by omega
     have hgrg:gr≠g:=by omega
     clear hrow hx hxo hkp hk
     go_upto_region 9 with fail
     have hCELL0:∀ wz,CJ w4 B g wz→wz.cell? ⟨w.heap.size,0,none⟩=some (.slice (some ⟨gr,0,none⟩) L.length c2):=fun wz hz=>(hz.blk (uh HS4).b3 (by omega)).cell 0
     have hCELL1:∀ wz,CJ w4 B g wz→wz.cell? ⟨w.heap.size,1,none⟩=some (.int .u32 (nx:Int)):=fun wz hz=>(hz.blk (uh HS4).b3 (by omega)).cell 1
     have hg4:g < w4.heap.size:=(uh HS4).j.2.lt
     have hnx4:=(uh HS4).nx
     have HJ0:=jd ((CJ.start (uh HS4).j.2:CJ w4 B g w4).drew)
     refine wp_region_noPanic (wp_region_held_drew (S:=fun _=>True) (by kernel_rfl) trivial (fun _=>?_))
     refine tq 0 rfl trivial ?_
     refine tq 3 rfl trivial ?_
     refine ZcD (CJ w4 B g) (CT g) (Od9R w4.heap.size (.slice (some ⟨gr,0,none⟩) L.length c2)) [1,2,4,5,6] #[true,true,true,true,true,true,true,false,false,false] [(1,some 31),(2,some 32),(4,some 34),(5,some 35),(6,some 36)] 104 3 (by kernel_rfl) rfl (Od9R.keep (by omega)) (fun _ _=>trivial) (uh HJ0) ⟨?_,?_,?_,?_,?_,trivial⟩ ?_ rfl
     ·intro a wa hJ hout hin
      have e30:a.eval (.tmp 30)=.pointer (some ⟨w.heap.size,0,none⟩):=hout 30 (by kernel_rfl)
      refine ZaF rfl rfl (v:=.slice (some ⟨gr,0,none⟩) L.length c2) (w':=wa) ?_ (hJ.same rfl)
      have hq:=hCELL0 wa hJ
      unfold execOp
      simp only [e30]
      go_simp
     ·intro a wa hJ hout hin
      refine ZaF rfl rfl (v:=.slice (some ⟨wa.heap.size,0,none⟩) 3 3) (w':=wa.alloc (.cells #[.int .i64 0,.int .i64 4,.int .i64 (-1)] 3)) ?_ (ZbE hJ _ ⟨_,rfl,Blk.new _ _ _,hJ.size⟩)
      simp [execOp,Act.eval,run_o9]
     ·intro a wa hJ hout hin
      have e33:a.eval (.tmp 33)=.pointer (some ⟨g,0,none⟩):=hout 33 (by kernel_rfl)
      refine ZaI [.pointer (some ⟨g,0,none⟩),.int .i64 3] rfl rfl rfl rfl (uh EGN) ?_ ?_
      · show [a.eval (.tmp 33),_]=_
        rw [e33]
        rfl
      · exact Zbn hJ 3 (by decide) (by decide) (fun _ h=>h)
     ·intro a wa hJ hout hin
      obtain ⟨q,e32,hq1,hq2⟩ :∃q:Nat,a.eval (.tmp 32)=.slice (some ⟨q,0,none⟩) 3 3∧Blk wa q 3 #[.int .i64 0,.int .i64 4,.int .i64 (-1)]∧w4.heap.size≤q:=hin 2 32 (by kernel_rfl)
      obtain ⟨r2,e34,hr20,hr21⟩:ZbO 3 (a.eval (.tmp 34)):=hin 4 34 (by kernel_rfl)
      obtain ⟨k2,rfl⟩ :∃k2:Nat,r2=(k2:Int):=⟨r2.toNat,by omega⟩
      have hk2:k2 < 3:=by omega
      have hk3:(k2:Int) < 3:=by omega
      have hk4:(0:Int)≤(k2:Int):=by omega
      refine ZaF rfl rfl (v:=.pointer (some ⟨q,k2,none⟩)) (w':=wa) ?_ (hJ.same ⟨q,k2,rfl,hq1,hq2,hk2⟩)
      clear hr21
      unfold execOp
      simp only [e32,e34]
      go_simp
     ·intro a wa hJ hout hin
      obtain ⟨q,k2,e35,hq1,hq2,hk2⟩ :∃q k:Nat,a.eval (.tmp 35)=.pointer (some ⟨q,k,none⟩)∧Blk wa q 3 #[.int .i64 0,.int .i64 4,.int .i64 (-1)]∧w4.heap.size≤q∧k < 3:=hin 5 35 (by kernel_rfl)
      obtain ⟨m,hx⟩ :∃m:Int,wa.cell? ⟨q,k2,none⟩=some (.int .i64 m):=by
        rw [hq1.cell]
        have:k2=0∨k2=1∨k2=2:=by omega
        rcases this with rfl | rfl | rfl<;>exact ⟨_,rfl⟩
      refine ZaF rfl rfl (v:=.int .i64 m) (w':=wa) ?_ (hJ.same ⟨_,rfl⟩)
      unfold execOp
      simp only [e35]
      go_simp
     intro vals ww hJw hRw
     simp only [puts,Act.put,zA,zB,zC]
     have e1:vals 1=(.slice (some ⟨gr,0,none⟩) L.length c2):=hRw 1 (by rfl)
     obtain ⟨m,e8⟩ :∃m:Int,vals 6=.int .i64 m:=hRw 6 (by rfl)
     rw [e1,e8]
     clear e1 e8 hRw hCELL0 hCELL1 HJ0
     have HS5:=jd ((uh HS4).cj hgl hJw)
     have HR5:=jd ((uh HR4).grown hJw.1 hgrg)
     have hfit:0*26+2+1≤cur.size:=by have h1:=(uh HR5).size; have h2:=(uh HR5).le; omega
     refine tq 7 rfl trivial ?_
     refine tq 8 rfl trivial ?_
     refine tOz 9 rfl fun K hK=>?_
     refine Zao (by rfl) 3 (.tmp 38) (.tmp 36) rfl gr (0*26+2) 50 cur (.int .i64 m) [.int .i64 m] _ rfl rfl (uh HR5).blk rfl hfit (by kernel_rfl) (by simp [Value.oneCell']) rfl ?_
     intro w6 hb6 hg6
     have hres:=(uh HS5).set (x':={ x with level:=m }) hgl (uh HR5) hgb (uh HX) { (uh HXO) with } (Sess.set_level (uh HXO) m) (by simp) hb6 hg6
     have HS6:=jd hres.1
     clear hb6 hg6
     refine hK.out _ _ trivial (fun _=>?_)
     clear hK K
     try simp only [Act.put]
     refine tDz ?_
     clear hJw HS5 HR5 hres
     go_wp2_with fail
     go_meet
     exact ⟨_,_,_,_,(uh HS6).more⟩
   · obtain ⟨gr,cur,x,rfl,hgb,hrow,hx,hxo⟩:=(uh HS4).row (hkp (by omega))
     have HR4:=jd hrow
     have HX:=jd hx
     have HXO:=jd hxo
     have hposN:0 < L.length:=hkp (by omega)
     have hpos:(0:Int) < (L.length:Int):=by omega
     have hgrg:gr≠g:=by omega
     clear hrow hx hxo hkp hk
     go_upto_region 11 with fail
     have hCELL0:∀ wz,CJ w4 B g wz→wz.cell? ⟨w.heap.size,0,none⟩=some (.slice (some ⟨gr,0,none⟩) L.length c2):=fun wz hz=>(hz.blk (uh HS4).b3 (by omega)).cell 0
     have hCELL1:∀ wz,CJ w4 B g wz→wz.cell? ⟨w.heap.size,1,none⟩=some (.int .u32 (nx:Int)):=fun wz hz=>(hz.blk (uh HS4).b3 (by omega)).cell 1
     have hg4:g < w4.heap.size:=(uh HS4).j.2.lt
     have hnx4:=(uh HS4).nx
     have HJ0:=jd ((CJ.start (uh HS4).j.2:CJ w4 B g w4).drew)
     refine wp_region_noPanic (wp_region_held_drew (S:=fun _=>True) (by kernel_rfl) trivial (fun _=>?_))
     refine tq 0 rfl trivial ?_
     refine tq 3 rfl trivial ?_
     refine ZcD (CJ w4 B g) (CT g) (Od11R w4.heap.size (.slice (some ⟨gr,0,none⟩) L.length c2)) [1,2,4,5,6] #[true,true,true,true,true,true,true,false,false,false] [(1,some 42),(2,some 43),(4,some 45),(5,some 46),(6,some 47)] 104 3 (by kernel_rfl) rfl (Od11R.keep (by omega)) (fun _ _=>trivial) (uh HJ0) ⟨?_,?_,?_,?_,?_,trivial⟩ ?_ rfl
     ·intro a wa hJ hout hin
      have e41:a.eval (.tmp 41)=.pointer (some ⟨w.heap.size,0,none⟩):=hout 41 (by kernel_rfl)
      refine ZaF rfl rfl (v:=.slice (some ⟨gr,0,none⟩) L.length c2) (w':=wa) ?_ (hJ.same rfl)
      have hq:=hCELL0 wa hJ
      unfold execOp
      simp only [e41]
      go_simp
     ·intro a wa hJ hout hin
      refine ZaF rfl rfl (v:=.slice (some ⟨wa.heap.size,0,none⟩) 3 3) (w':=wa.alloc (.cells #[.int .i64 (-1),.int .i64 17179869184,.int .i64 17179869185] 2)) ?_ (ZbE hJ _ ⟨_,rfl,Blk.new _ _ _,hJ.size⟩)
      simp [execOp,Act.eval,run_o11]
     ·intro a wa hJ hout hin
      have e44:a.eval (.tmp 44)=.pointer (some ⟨g,0,none⟩):=hout 44 (by kernel_rfl)
      refine ZaI [.pointer (some ⟨g,0,none⟩),.int .i64 3] rfl rfl rfl rfl (uh EGN) ?_ ?_
      · show [a.eval (.tmp 44),_]=_
        rw [e44]
        rfl
      · exact Zbn hJ 3 (by decide) (by decide) (fun _ h=>h)
     ·intro a wa hJ hout hin
      obtain ⟨q,e43,hq1,hq2⟩ :∃q:Nat,a.eval (.tmp 43)=.slice (some ⟨q,0,none⟩) 3 3∧Blk wa q 2 #[.int .i64 (-1),.int .i64 17179869184,.int .i64 17179869185]∧w4.heap.size≤q:=hin 2 43 (by kernel_rfl)
      obtain ⟨r2,e45,hr20,hr21⟩:ZbO 3 (a.eval (.tmp 45)):=hin 4 45 (by kernel_rfl)
      obtain ⟨k2,rfl⟩ :∃k2:Nat,r2=(k2:Int):=⟨r2.toNat,by omega⟩
      have hk2:k2 < 3:=by omega
      have hk3:(k2:Int) < 3:=by omega
      have hk4:(0:Int)≤(k2:Int):=by omega
      refine ZaF rfl rfl (v:=.pointer (some ⟨q,k2,none⟩)) (w':=wa) ?_ (hJ.same ⟨q,k2,rfl,hq1,hq2,hk2⟩)
      clear hr21
      unfold execOp
      simp only [e43,e45]
      go_simp
     ·intro a wa hJ hout hin
      obtain ⟨q,k2,e46,hq1,hq2,hk2⟩ :∃q k:Nat,a.eval (.tmp 46)=.pointer (some ⟨q,k,none⟩)∧Blk wa q 2 #[.int .i64 (-1),.int .i64 17179869184,.int .i64 17179869185]∧w4.heap.size≤q∧k < 3:=hin 5 46 (by kernel_rfl)
      obtain ⟨m,hx⟩ :∃m:Int,wa.cell? ⟨q,k2,none⟩=some (.int .i64 m):=by
        rw [hq1.cell]
        have:k2=0∨k2=1∨k2=2:=by omega
        rcases this with rfl | rfl | rfl<;>exact ⟨_,rfl⟩
      refine ZaF rfl rfl (v:=.int .i64 m) (w':=wa) ?_ (hJ.same ⟨_,rfl⟩)
      unfold execOp
      simp only [e46]
      go_simp
     intro vals ww hJw hRw
     simp only [puts,Act.put,zA,zB,zC]
     have e1:vals 1=(.slice (some ⟨gr,0,none⟩) L.length c2):=hRw 1 (by rfl)
     obtain ⟨m,e8⟩ :∃m:Int,vals 6=.int .i64 m:=hRw 6 (by rfl)
     rw [e1,e8]
     clear e1 e8 hRw hCELL0 hCELL1 HJ0
     have HS5:=jd ((uh HS4).cj hgl hJw)
     have HR5:=jd ((uh HR4).grown hJw.1 hgrg)
     have hfit:0*26+25+1≤cur.size:=by have h1:=(uh HR5).size; have h2:=(uh HR5).le; omega
     refine tq 7 rfl trivial ?_
     refine tq 8 rfl trivial ?_
     refine tOz 9 rfl fun K hK=>?_
     refine Zao (by rfl) 2 (.tmp 49) (.tmp 47) rfl gr (0*26+25) 50 cur (.int .i64 m) [.int .i64 m] _ rfl rfl (uh HR5).blk rfl hfit (by kernel_rfl) (by simp [Value.oneCell']) rfl ?_
     intro w6 hb6 hg6
     have hres:=(uh HS5).set (x':={ x with last:=m }) hgl (uh HR5) hgb (uh HX) { (uh HXO) with } (Sess.set_last (uh HXO) m) (by simp) hb6 hg6
     have HS6:=jd hres.1
     clear hb6 hg6
     refine hK.out _ _ trivial (fun _=>?_)
     clear hK K
     try simp only [Act.put]
     refine tDz ?_
     clear hJw HS5 HR5 hres
     go_wp2_with fail
     go_meet
     exact ⟨_,_,_,_,(uh HS6).more⟩
   · obtain ⟨gr,cur,x,rfl,hgb,hrow,hx,hxo⟩:=(uh HS4).row (hkp (by omega))
     have HR4:=jd hrow
     have HX:=jd hx
     have HXO:=jd hxo
     have hposN:0 < L.length:=hkp (by omega)
     have hpos:(0:Int) < (L.length:Int):=by omega
     have hgrg:gr≠g:=by omega
     clear hrow hx hxo hkp hk
     go_upto_region 13 with fail
     have hS0:Blk w4.drew w.heap.size 29 #[.slice (some ⟨gr,0,none⟩) L.length c2,.int .u32 (nx:Int)]∧RowM w4.drew gr c2 L cur:=⟨(uh HS4).b3.drew,(uh HR4).below (Below.refl _ _).drew⟩
     obtain ⟨b21,hb21⟩ :∃b,x.opn=b:=⟨_,rfl⟩
     have HB21:=jd hb21
     clear hb21
     refine wp_region_noPanic (Bars.region (b:=10) (S:=fun wz=>Blk wz w.heap.size 29 #[.slice (some ⟨gr,0,none⟩) L.length c2,.int .u32 (nx:Int)]∧RowM wz gr c2 L cur) (by kernel_rfl) ?_)
     refine ZaP (i:=0) (v:=?_) rfl (by kernel_rfl) (by kernel_rfl) (by kernel_rfl) (by kernel_rfl) (by kernel_rfl) (Or.inl ⟨by rfl,fun wz hSw=>?_⟩) hS0 ?_
     rotate_left
     ·go_simp
      with_reducible rfl
     simp only [Act.put,zA,zB,zC]
     refine ZaP (i:=1) (v:=.slice (some ⟨gr,0,none⟩) L.length c2) rfl (by kernel_rfl) (by kernel_rfl) (by kernel_rfl) (by kernel_rfl) (by kernel_rfl) (Or.inl ⟨by rfl,fun wz hSw=>?_⟩) hS0 ?_
     ·have hq:=hSw.1.cell 0
      simp only [List.getElem?_toArray,List.getElem?_cons_zero] at hq
      go_simp
     simp only [Act.put,zA,zB,zC]
     refine ZaP (i:=2) (v:=?_) rfl (by kernel_rfl) (by kernel_rfl) (by kernel_rfl) (by kernel_rfl) (by kernel_rfl) (Or.inl ⟨by rfl,fun wz hSw=>?_⟩) hS0 ?_
     rotate_left
     ·go_simp
      with_reducible rfl
     simp only [Act.put,zA,zB,zC]
     refine ZaP (i:=3) (v:=.slice (some ⟨gr,0,none⟩) L.length c2) rfl (by kernel_rfl) (by kernel_rfl) (by kernel_rfl) (by kernel_rfl) (by kernel_rfl) (Or.inl ⟨by rfl,fun wz hSw=>?_⟩) hS0 ?_
     ·have hq:=hSw.1.cell 0
      simp only [List.getElem?_toArray,List.getElem?_cons_zero] at hq
      go_simp
     simp only [Act.put,zA,zB,zC]
     refine ZaP (i:=4) (v:=?_) rfl (by kernel_rfl) (by kernel_rfl) (by kernel_rfl) (by kernel_rfl) (by kernel_rfl) (Or.inl ⟨by rfl,fun wz hSw=>?_⟩) hS0 ?_
     rotate_left
     ·go_simp
      with_reducible rfl
     simp only [Act.put,zA,zB,zC]
     refine ZaP (i:=5) (v:=?_) rfl (by kernel_rfl) (by kernel_rfl) (by kernel_rfl) (by kernel_rfl) (by kernel_rfl) (Or.inl ⟨by rfl,fun wz hSw=>?_⟩) hS0 ?_
     rotate_left
     ·go_simp
      with_reducible rfl
     simp only [Act.put,zA,zB,zC]
     refine ZaP (i:=6) (v:=.bool b21) rfl (by kernel_rfl) (by kernel_rfl) (by kernel_rfl) (by kernel_rfl) (by kernel_rfl) (Or.inl ⟨by rfl,fun wz hSw=>?_⟩) hS0 ?_
     ·have hq:=(Sess.range (uh HXO) (hSw.2.range (uh HS4).ok (uh HX))).opn
      rw [uh HB21] at hq
      simp only [Nat.zero_mul,Nat.zero_add] at hq
      go_simp
     simp only [Act.put,zA,zB,zC]
     refine ZaP (i:=7) (v:=?_) rfl (by kernel_rfl) (by kernel_rfl) (by kernel_rfl) (by kernel_rfl) (by kernel_rfl) (Or.inl ⟨by rfl,fun wz hSw=>?_⟩) hS0 ?_
     rotate_left
     ·go_simp
      with_reducible rfl
     simp only [Act.put,zA,zB,zC]
     refine Zej (i:=8) (v:=?_) rfl (by kernel_rfl) (by kernel_rfl) (by kernel_rfl) (by decide) (Or.inl ⟨by rfl,fun wz _=>?_⟩) (fun _=>hS0) ?_
     rotate_left
     ·go_simp
      with_reducible rfl
     simp only [Act.put,zA,zB,zC]
     refine ZaP (i:=9) (v:=?_) rfl (by kernel_rfl) (by kernel_rfl) (by kernel_rfl) (by kernel_rfl) (by kernel_rfl) (Or.inl ⟨by rfl,fun wz hSw=>?_⟩) hS0 ?_
     rotate_left
     ·go_simp
      with_reducible rfl
     simp only [Act.put,zA,zB,zC]
     refine ZdX (i:=10) rfl (by kernel_rfl) (fun K hK=>?_)
     have hfit:0*26+21+1≤cur.size:=by have h1:=(uh HR4).size; have h2:=(uh HR4).le; omega
     refine Zao (by rfl) 4 (.tmp 61) (.tmp 59) rfl gr (0*26+21) 50 cur (.bool (!b21)) [.bool (!b21)] _ rfl rfl hS0.2.blk rfl hfit (by kernel_rfl) (by simp [Value.oneCell']) rfl ?_
     intro w6 hb6 hg6
     have hg6':w4.grownBy w6 (some gr):=⟨hg6.os,hg6.tape,hg6.output,hg6.size,hg6.block⟩
     have hres:=(uh HS4).set (x':={ x with opn:=!b21 }) hgl (uh HR4) hgb (uh HX) { (uh HXO) with } (Sess.set_opn (uh HXO) (!b21)) (by simp) hb6 hg6'
     have HS6:=jd hres.1
     clear hb6 hg6 hg6' hres
     refine hK.out _ _ (fun h=>by cases h) ?_
     clear hK K
     try simp only [Act.put]
     refine bar_done (by kernel_rfl) (NoPanic.normal ?_) _
     clear hS0
     go_wp2_with fail
     go_meet
     exact ⟨_,_,_,_,(uh HS6).more⟩
   · obtain ⟨gr,cur,x,rfl,hgb,hrow,hx,hxo⟩:=(uh HS4).row (hkp (by omega))
     have HR4:=jd hrow
     have HX:=jd hx
     have HXO:=jd hxo
     have hposN:0 < L.length:=hkp (by omega)
     have hpos:(0:Int) < (L.length:Int):=by omega
     have hgrg:gr≠g:=by omega
     clear hrow hx hxo hkp hk
     go_upto_region 15 with fail
     have hCELL0:∀ wz,CJ w4 B g wz→wz.cell? ⟨w.heap.size,0,none⟩=some (.slice (some ⟨gr,0,none⟩) L.length c2):=fun wz hz=>(hz.blk (uh HS4).b3 (by omega)).cell 0
     have hCELL1:∀ wz,CJ w4 B g wz→wz.cell? ⟨w.heap.size,1,none⟩=some (.int .u32 (nx:Int)):=fun wz hz=>(hz.blk (uh HS4).b3 (by omega)).cell 1
     have hg4:g < w4.heap.size:=(uh HS4).j.2.lt
     have hnx4:=(uh HS4).nx
     have HJ0:=jd ((CJ.start (uh HS4).j.2:CJ w4 B g w4).drew)
     refine wp_region_noPanic (wp_region_held_drew (S:=fun _=>True) (by kernel_rfl) trivial (fun _=>?_))
     refine tq 0 rfl trivial ?_
     refine tq 2 rfl trivial ?_
     refine tq 5 rfl trivial ?_
     refine ZcD (CJ w4 B g) (CT g) (Od15R w4.heap.size (.slice (some ⟨gr,0,none⟩) L.length c2)) [1,3,4,6,7,8] #[true,true,true,true,true,true,true,true,true,false,false,false] [(1,some 65),(3,some 67),(4,some 68),(6,some 70),(7,some 71),(8,some 72)] 104 3 (by kernel_rfl) rfl (Od15R.keep (by omega)) (fun _ _=>trivial) (uh HJ0) ⟨?_,?_,?_,?_,?_,?_,trivial⟩ ?_ rfl
     ·intro a wa hJ hout hin
      have e64:a.eval (.tmp 64)=.pointer (some ⟨w.heap.size,0,none⟩):=hout 64 (by kernel_rfl)
      refine ZaF rfl rfl (v:=.slice (some ⟨gr,0,none⟩) L.length c2) (w':=wa) ?_ (hJ.same ⟨rfl,rfl⟩)
      have hq:=hCELL0 wa hJ
      unfold execOp
      simp only [e64]
      go_simp
     ·intro a wa hJ hout hin
      have e66:a.eval (.tmp 66)=.pointer (some ⟨g,0,none⟩):=hout 66 (by kernel_rfl)
      refine ZaI [.pointer (some ⟨g,0,none⟩),.int .i64 70] rfl rfl rfl rfl (uh EGN) ?_ ?_
      · show [a.eval (.tmp 66),_]=_
        rw [e66]
        rfl
      · exact Zbn hJ 70 (by decide) (by decide) (fun _ h=>h)
     ·intro a wa hJ hout hin
      obtain ⟨r2,e67,hr20,hr21⟩:ZbO 70 (a.eval (.tmp 67)):=hin 3 67 (by kernel_rfl)
      obtain ⟨k2,rfl⟩ :∃k2:Nat,r2=(k2:Int):=⟨r2.toNat,by omega⟩
      have hk2:k2 < 4294967296:=by omega
      have hk3:IntKind.u32.wrap (k2:Int)=(k2:Int):=by rw [IntKind.wrap_u32]; omega
      refine ZaF rfl rfl (v:=.int .u32 (k2:Int)) (w':=wa) ?_ (hJ.same ⟨k2,hk2,rfl⟩)
      clear hr21
      unfold execOp
      simp only [e67]
      go_simp
     ·intro a wa hJ hout hin
      have e69:a.eval (.tmp 69)=.pointer (some ⟨g,0,none⟩):=hout 69 (by kernel_rfl)
      refine ZaI [.pointer (some ⟨g,0,none⟩),.int .i64 300] rfl rfl rfl rfl (uh EGN) ?_ ?_
      · show [a.eval (.tmp 69),_]=_
        rw [e69]
        rfl
      · exact Zbn hJ 300 (by decide) (by decide) (fun _ h=>h)
     ·intro a wa hJ hout hin
      obtain ⟨r2,e70,hr20,hr21⟩:ZbO 300 (a.eval (.tmp 70)):=hin 6 70 (by kernel_rfl)
      obtain ⟨k2,rfl⟩ :∃k2:Nat,r2=(k2:Int):=⟨r2.toNat,by omega⟩
      have hk2:k2 < 4294967296:=by omega
      have hk3:IntKind.u32.wrap (k2:Int)=(k2:Int):=by rw [IntKind.wrap_u32]; omega
      refine ZaF rfl rfl (v:=.int .u32 (k2:Int)) (w':=wa) ?_ (hJ.same ⟨k2,hk2,rfl⟩)
      clear hr21
      unfold execOp
      simp only [e70]
      go_simp
     ·intro a wa hJ hout hin
      obtain ⟨m,hm,e68⟩ :∃m:Nat,m < 4294967296∧a.eval (.tmp 68)=.int .u32 (m:Int):=hin 4 68 (by kernel_rfl)
      obtain ⟨k2,hk2,e71⟩ :∃m:Nat,m < 4294967296∧a.eval (.tmp 71)=.int .u32 (m:Int):=hin 7 71 (by kernel_rfl)
      refine Zey rfl rfl 48 _ rfl _ ?_ _ (build_win m k2) (hJ.same ⟨m,k2,hm,hk2,rfl⟩)
      show [(0,a.eval (.tmp 68)),(1,a.eval (.tmp 71))]=_
      rw [e68,e71]
     intro vals ww hJw hRw
     simp only [puts,Act.put,zA,zB,zC]
     obtain ⟨e1,_⟩:vals 1=(.slice (some ⟨gr,0,none⟩) L.length c2)∧w4.heap.size=w4.heap.size:=hRw 1 (by rfl)
     obtain ⟨m,k2,hm,hk2,e8⟩ :∃m k:Nat,m < 4294967296∧k < 4294967296∧vals 8=.agg #[.int .u32 (m:Int),.int .u32 (k:Int)]:=hRw 8 (by rfl)
     rw [e1,e8]
     clear e1 e8 hRw hCELL0 hCELL1 HJ0
     have HS5:=jd ((uh HS4).cj hgl hJw)
     have HR5:=jd ((uh HR4).grown hJw.1 hgrg)
     have hfit:0*26+22+2≤cur.size:=by have h1:=(uh HR5).size; have h2:=(uh HR5).le; omega
     refine tq 9 rfl trivial ?_
     refine tq 10 rfl trivial ?_
     refine tOz 11 rfl fun K hK=>?_
     refine Zao (by rfl) 48 (.tmp 74) (.tmp 72) rfl gr (0*26+22) 50 cur (.agg #[.int .u32 (m:Int),.int .u32 (k2:Int)]) [.int .u32 (m:Int),.int .u32 (k2:Int)] _ rfl rfl (uh HR5).blk rfl hfit (by kernel_rfl) (by simp [Value.oneCell']) rfl ?_
     intro w6 hb6 hg6
     have hres:=(uh HS5).set (x':={ x with hi:=m,se:=k2 }) hgl (uh HR5) hgb (uh HX) { (uh HXO) with hi:=hm,se:=hk2 } (Sess.set_win (uh HXO) m k2) (by simp) hb6 hg6
     have HS6:=jd hres.1
     clear hb6 hg6
     refine hK.out _ _ trivial (fun _=>?_)
     clear hK K
     try simp only [Act.put]
     refine tDz ?_
     obtain ⟨cur6,hr6⟩:=hres.2
     obtain ⟨L6,hL6⟩ :∃L6,L.set 0 { x with hi:=m,se:=k2 }=L6:=⟨_,rfl⟩
     have hl6:L6.length=L.length:=by rw [← hL6]; exact List.length_set
     have hx6:L6[0]?=some { x with hi:=m,se:=k2 }:=by rw [← hL6]; exact List.getElem?_set_self (by omega)
     have hxo6:({ x with hi:=m,se:=k2 }:Sess).Ok:={ (uh HXO) with hi:=hm,se:=hk2 }
     rw [hL6] at HS6 hr6
     clear hJw HS5 HR5 hres HS4 HR4 HX HXO hL6 hfit
     obtain ⟨x,hx6,hxo6⟩ :∃x:Sess,L6[0]?=some x∧x.Ok:=⟨_,hx6,hxo6⟩
     have HX:=jd hx6
     have HXO:=jd hxo6
     have HR4:=jd hr6
     have hpos6:(0:Int) < (L6.length:Int):=by omega
     have hposN6:0 < L6.length:=by omega
     clear hx6 hxo6 hr6 hpos hposN hl6
     obtain ⟨L,rfl⟩ :∃L,L=L6:=⟨_,rfl⟩
     obtain ⟨cur,rfl⟩ :∃c,c=cur6:=⟨_,rfl⟩
     have HS4:=HS6
     clear HS6
     go_upto_region 16 with fail
     have hCELL0:∀ wz,CJ w6 B g wz→wz.cell? ⟨w.heap.size,0,none⟩=some (.slice (some ⟨gr,0,none⟩) L.length c2):=fun wz hz=>(hz.blk (uh HS4).b3 (by omega)).cell 0
     have hCELL1:∀ wz,CJ w6 B g wz→wz.cell? ⟨w.heap.size,1,none⟩=some (.int .u32 (nx:Int)):=fun wz hz=>(hz.blk (uh HS4).b3 (by omega)).cell 1
     have hg4:g < w6.heap.size:=(uh HS4).j.2.lt
     have hnx4:=(uh HS4).nx
     have HJ0:=jd ((CJ.start (uh HS4).j.2:CJ w6 B g w6).drew)
     refine wp_region_noPanic (wp_region_held_drew (S:=fun _=>True) (by kernel_rfl) trivial (fun _=>?_))
     refine tq 0 rfl trivial ?_
     refine tq 3 rfl trivial ?_
     refine ZcD (CJ w6 B g) (CT g) (Od16R w6.heap.size (.slice (some ⟨gr,0,none⟩) L.length c2)) [1,2,4,5,6] #[true,true,true,true,true,true,true,false,false,false] [(1,some 76),(2,some 77),(4,some 79),(5,some 80),(6,some 81)] 104 3 (by kernel_rfl) rfl (Od16R.keep (by omega)) (fun _ _=>trivial) (uh HJ0) ⟨?_,?_,?_,?_,?_,trivial⟩ ?_ rfl
     ·intro a wa hJ hout hin
      have e75:a.eval (.tmp 75)=.pointer (some ⟨w.heap.size,0,none⟩):=hout 75 (by kernel_rfl)
      refine ZaF rfl rfl (v:=.slice (some ⟨gr,0,none⟩) L.length c2) (w':=wa) ?_ (hJ.same rfl)
      have hq:=hCELL0 wa hJ
      unfold execOp
      simp only [e75]
      go_simp
     ·intro a wa hJ hout hin
      refine ZaF rfl rfl (v:=.slice (some ⟨wa.heap.size,0,none⟩) 3 3) (w':=wa.alloc (.cells #[.int .u32 0,.int .u32 4294967295,.int .u32 4294967294] 27)) ?_ (ZbE hJ _ ⟨_,rfl,Blk.new _ _ _,hJ.size⟩)
      simp [execOp,Act.eval,run_o16]
     ·intro a wa hJ hout hin
      have e78:a.eval (.tmp 78)=.pointer (some ⟨g,0,none⟩):=hout 78 (by kernel_rfl)
      refine ZaI [.pointer (some ⟨g,0,none⟩),.int .i64 3] rfl rfl rfl rfl (uh EGN) ?_ ?_
      · show [a.eval (.tmp 78),_]=_
        rw [e78]
        rfl
      · exact Zbn hJ 3 (by decide) (by decide) (fun _ h=>h)
     ·intro a wa hJ hout hin
      obtain ⟨q,e77,hq1,hq2⟩ :∃q:Nat,a.eval (.tmp 77)=.slice (some ⟨q,0,none⟩) 3 3∧Blk wa q 27 #[.int .u32 0,.int .u32 4294967295,.int .u32 4294967294]∧w6.heap.size≤q:=hin 2 77 (by kernel_rfl)
      obtain ⟨r2,e79,hr20,hr21⟩:ZbO 3 (a.eval (.tmp 79)):=hin 4 79 (by kernel_rfl)
      obtain ⟨k2,rfl⟩ :∃k2:Nat,r2=(k2:Int):=⟨r2.toNat,by omega⟩
      have hk2:k2 < 3:=by omega
      have hk3:(k2:Int) < 3:=by omega
      have hk4:(0:Int)≤(k2:Int):=by omega
      refine ZaF rfl rfl (v:=.pointer (some ⟨q,k2,none⟩)) (w':=wa) ?_ (hJ.same ⟨q,k2,rfl,hq1,hq2,hk2⟩)
      clear hr21
      unfold execOp
      simp only [e77,e79]
      go_simp
     ·intro a wa hJ hout hin
      obtain ⟨q,k2,e80,hq1,hq2,hk2⟩ :∃q k:Nat,a.eval (.tmp 80)=.pointer (some ⟨q,k,none⟩)∧Blk wa q 27 #[.int .u32 0,.int .u32 4294967295,.int .u32 4294967294]∧w6.heap.size≤q∧k < 3:=hin 5 80 (by kernel_rfl)
      obtain ⟨m,hm,hx⟩ :∃m:Nat,m < 4294967296∧wa.cell? ⟨q,k2,none⟩=some (.int .u32 (m:Int)):=by
        rw [hq1.cell]
        have:k2=0∨k2=1∨k2=2:=by omega
        rcases this with rfl | rfl | rfl
        · exact ⟨0,by omega,rfl⟩
        · exact ⟨4294967295,by omega,rfl⟩
        · exact ⟨4294967294,by omega,rfl⟩
      refine ZaF rfl rfl (v:=.int .u32 (m:Int)) (w':=wa) ?_ (hJ.same ⟨m,hm,rfl⟩)
      unfold execOp
      simp only [e80]
      go_simp
     intro vals ww hJw hRw
     simp only [puts,Act.put,zA,zB,zC]
     have e1:vals 1=(.slice (some ⟨gr,0,none⟩) L.length c2):=hRw 1 (by rfl)
     obtain ⟨m,hm,e8⟩ :∃m:Nat,m < 4294967296∧vals 6=.int .u32 (m:Int):=hRw 6 (by rfl)
     rw [e1,e8]
     clear e1 e8 hRw hCELL0 hCELL1 HJ0
     have HS5:=jd ((uh HS4).cj hgl hJw)
     have HR5:=jd ((uh HR4).grown hJw.1 hgrg)
     have hfit:0*26+24+1≤cur.size:=by have h1:=(uh HR5).size; have h2:=(uh HR5).le; omega
     refine tq 7 rfl trivial ?_
     refine tq 8 rfl trivial ?_
     refine tOz 9 rfl fun K hK=>?_
     refine Zao (by rfl) 27 (.tmp 83) (.tmp 81) rfl gr (0*26+24) 50 cur (.int .u32 (m:Int)) [.int .u32 (m:Int)] _ rfl rfl (uh HR5).blk rfl hfit (by kernel_rfl) (by simp [Value.oneCell']) rfl ?_
     intro w8 hb6 hg6
     have hres:=(uh HS5).set (x':={ x with out:=m }) hgl (uh HR5) hgb (uh HX) { (uh HXO) with out:=hm } (Sess.set_out (uh HXO) m) (by simp) hb6 hg6
     have HS8:=jd hres.1
     clear hb6 hg6
     refine hK.out _ _ trivial (fun _=>?_)
     clear hK K
     try simp only [Act.put]
     refine tDz ?_
     clear hJw HS5 HR5 hres
     go_wp2_with fail
     go_meet
     exact ⟨_,_,_,_,(uh HS8).more⟩
   · obtain ⟨gr,cur,x,rfl,hgb,hrow,hx,hxo⟩:=(uh HS4).row (hkp (by omega))
     have HR4:=jd hrow
     have HX:=jd hx
     have HXO:=jd hxo
     have hposN:0 < L.length:=hkp (by omega)
     have hpos:(0:Int) < (L.length:Int):=by omega
     have hgrg:gr≠g:=by omega
     clear hrow hx hxo hkp hk
     go_upto_region 18 with fail
     have hCELL0:∀ wz,CJ w4 B g wz→wz.cell? ⟨w.heap.size,0,none⟩=some (.slice (some ⟨gr,0,none⟩) L.length c2):=fun wz hz=>(hz.blk (uh HS4).b3 (by omega)).cell 0
     have hCELL1:∀ wz,CJ w4 B g wz→wz.cell? ⟨w.heap.size,1,none⟩=some (.int .u32 (nx:Int)):=fun wz hz=>(hz.blk (uh HS4).b3 (by omega)).cell 1
     have hg4:g < w4.heap.size:=(uh HS4).j.2.lt
     have hnx4:=(uh HS4).nx
     have HJ0:=jd ((CJ.start (uh HS4).j.2:CJ w4 B g w4).drew)
     refine wp_region_noPanic (wp_region_held_drew (S:=fun _=>True) (by kernel_rfl) trivial (fun _=>?_))
     refine tq 0 rfl trivial ?_
     refine tq 2 rfl trivial ?_
     refine ZcD (CJ w4 B g) (CT g) (Od18R w4.heap.size (.slice (some ⟨gr,0,none⟩) L.length c2) gr x) [1,3,4,5,6] #[true,true,true,true,true,true,true,false,false,false] [(1,some 87),(3,some 89),(4,some 90),(5,some 91),(6,some 92)] 104 3 (by kernel_rfl) rfl (Od18R.keep (by omega)) (fun _ _=>trivial) (uh HJ0) ⟨?_,?_,?_,?_,?_,trivial⟩ ?_ rfl
     ·intro a wa hJ hout hin
      have e86:a.eval (.tmp 86)=.pointer (some ⟨w.heap.size,0,none⟩):=hout 86 (by kernel_rfl)
      refine ZaF rfl rfl (v:=.slice (some ⟨gr,0,none⟩) L.length c2) (w':=wa) ?_ (hJ.same rfl)
      have hq:=hCELL0 wa hJ
      unfold execOp
      simp only [e86]
      go_simp
     ·intro a wa hJ hout hin
      have e88:a.eval (.tmp 88)=.pointer (some ⟨w.heap.size,0,none⟩):=hout 88 (by kernel_rfl)
      refine ZaF rfl rfl (v:=.slice (some ⟨gr,0,none⟩) L.length c2) (w':=wa) ?_ (hJ.same rfl)
      have hq:=hCELL0 wa hJ
      unfold execOp
      simp only [e88]
      go_simp
     ·intro a wa hJ hout hin
      have e89:a.eval (.tmp 89)=(.slice (some ⟨gr,0,none⟩) L.length c2):=hin 3 89 (by kernel_rfl)
      refine ZaF rfl rfl (v:=.pointer (some ⟨gr,0,none⟩)) (w':=wa) ?_ (hJ.same rfl)
      unfold execOp
      simp only [e89]
      go_simp
     ·intro a wa hJ hout hin
      have e90:a.eval (.tmp 90)=.pointer (some ⟨gr,0,none⟩):=hin 4 90 (by kernel_rfl)
      have hrg:wa.rangeAt gr 0 x.cs:=by
        have h:=((uh HR4).grown hJ.1 hgrg).range (uh HS4).ok (uh HX)
        rwa [Nat.zero_mul] at h
      refine ZaF rfl rfl (v:=.agg x.cs.toArray) (w':=wa) ?_ (hJ.same rfl)
      have hl:=run_loadVar_mid (P:=Tryz.prog) wa gr 0 50 x.cs _ hrg Tryz.underlying50 rfl (Zbf (uh HXO))
      unfold execOp
      simp only [e90,Instr.loadAt,Instr.sureAddr,Sem.run_bind,Sem.run_pure,Result.andThen_ok,hl]
     ·intro a wa hJ hout hin
      have e91:a.eval (.tmp 91)=.agg x.cs.toArray:=hin 5 91 (by kernel_rfl)
      refine ZaF rfl rfl (v:=.slice (some ⟨wa.heap.size,0,none⟩) 1 1) (w':=wa.alloc (.cells x.cs.toArray 50)) ?_ (ZbE hJ _ ⟨_,rfl,Blk.new _ _ _,hJ.size⟩)
      simp [execOp,e91,ZcJ wa x (uh HXO)]
     intro vals ww hJw hRw
     simp only [puts,Act.put,zA,zB,zC]
     have e1:vals 1=(.slice (some ⟨gr,0,none⟩) L.length c2):=hRw 1 (by rfl)
     obtain ⟨q,e6,hq1,hq2⟩ :∃q:Nat,vals 6=.slice (some ⟨q,0,none⟩) 1 1∧Blk ww q 50 x.cs.toArray∧w4.heap.size≤q:=hRw 6 (by rfl)
     rw [e1,e6]
     clear e1 e6 hRw hCELL0 hCELL1 HJ0
     have HS5:=jd ((uh HS4).cj hgl hJw)
     have hlen5:=(uh HS5).len
     have hsz5:=(uh HS5).j.size
     obtain ⟨i0,hi,hz0,hz1,hz2⟩:=info_parts ZeG
     have RX:Zaj ww ww.heap.size 26 (some ⟨q,0,none⟩) 1 x.cs:=Zaj.of_new hq1 (Sess.len (uh HXO))
     refine tOz 7 rfl fun K hK=>?_
     refine ZaJ ww rfl (.tmp 87) (.tmp 92) 26 rfl w.heap.size 50 i0 _ 26 88 Tryz.underlying26 hi hz0 hz1 hz2 ZcU (by omega) (.slice (some ⟨gr,0,none⟩) L.length c2) L.length (Zat L) rfl (uh HS5).o _ (some ⟨q,0,none⟩) 1 1 x.cs rfl RX Sess.one (by unfold maxLen; omega) (by omega) hsz5 ?_
     intro v8 w8 ho8 hg8 _
     obtain ⟨A8,c8,e8,_,_⟩:=Zac ho8
     subst e8
     have HB3:=jd ((uh HS5).b3.grown hg8 (Zad (uh HS5).o (uh HS5).b3 (by decide)).symm)
     have HB4:=jd ((uh HS5).b4.grown hg8 (Zad (uh HS5).o (uh HS5).b4 (by decide)).symm)
     have HJ8:Hid (CJ w B g w8):=jd ((uh HS5).j.later hgl ((Below.refl _ _).grown hg8 hsz5 (fun j hj=>Zaw (uh HS5).o j hj)))
     have HO8:Hid (w8.ownsRow w.heap.size 50 26 (.slice A8 (L++[x]).length c8) (L++[x]).length (Zat (L++[x]))):=jd (by
      rw [List.length_append,List.length_singleton,show Zat (L++[x])=Zat L++x.cs by simp [Zat]]
      exact ho8)
     have hokx:ZaE (L++[x]):=fun y hy=>by
      rcases List.mem_append.1 hy with hy | hy
      · exact (uh HS5).ok y hy
      · simp at hy; subst hy; exact uh HXO
     have HOKX:=jd hokx
     have hll:L.length+1=(L++[x]).length:=by simp
     have HLL:=jd hll
     clear ho8 hg8 hokx hll
     refine hK.out _ _ trivial (fun _=>?_)
     clear hK K
     try simp only [Act.put,zA,zB,zC]
     refine tq 8 rfl trivial ?_
     refine tOz 9 rfl fun K hK=>?_
     refine Zao (by rfl) 26 (.tmp 94) (.tmp 93) rfl w.heap.size 0 29 _ (.slice A8 (L.length+1) c8) [.slice A8 (L.length+1) c8] [.slice A8 (L.length+1) c8,.int .u32 (nx:Int)] rfl rfl (uh HB3) rfl (by simp) (by kernel_rfl) (by intro u hu; simp at hu; subst hu; rfl) rfl ?_
     intro w9 hb9 hg9
     have HS9:Hid (OddS w w9 B g (n+1) A8 c8 (L++[x]) nx):=jd ⟨by rw [← uh HLL]; exact hb9,(uh HB4).gb hg9,(uh HO8).kept hg9 (.inr (Zad (uh HO8) (uh HB3) (by decide))),uh HOKX,hnx4,by rw [← uh HLL]; omega,(uh HJ8).later2 hgl hg9 (Nat.le_refl _)⟩
     clear hb9 hg9
     refine hK.out _ _ trivial (fun _=>?_)
     clear hK K
     try simp only [Act.put]
     refine tDz ?_
     clear hJw RX hi hz0 hz1 hz2
     go_wp2_with fail
     go_meet
     exact ⟨_,_,_,_,uh HS9⟩
   · have HSX:=HS4
     go_wp2_with fail
     obtain ⟨W,hW⟩ :∃W,w4.alloc (.cells #[.int .u32 0,.int .u32 1,.int .u32 4294967295,.int .u32 4294967294] 27)=W:=⟨_,rfl⟩
     have hbl:Below w4.heap.size w4 W:=hW ▸ (Below.refl _ _).alloc (Nat.le_refl _) _
     have HS5:Hid (OddS w W B g n A2 c2 L nx):=jd ((uh HSX).cj hgl ((CJ.start (uh HSX).j.2).below hbl trivial).1)
     have HQ:=jd (hW ▸ Blk.new w4 _ _:Blk W w4.heap.size 27 #[.int .u32 0,.int .u32 1,.int .u32 4294967295,.int .u32 4294967294])
     rw [hW]
     clear hW hbl
     refine (Zav W B g 4 (uh HS5).j.2 (by decide) (by decide)).mono ?_
     rintro e w6 ⟨r,rfl,hr0,hr1,hc6,hg6⟩
     obtain ⟨k2,rfl⟩ :∃k:Nat,r=(k:Int):=⟨r.toNat,by omega⟩
     have hk2:k2 < 4:=by omega
     have HS6:=jd ((uh HS5).cj hgl ⟨hg6,hc6⟩)
     obtain ⟨m,hm,hx⟩ :∃m:Nat,m < 4294967296∧w6.cell? ⟨w4.heap.size,k2,none⟩=some (.int .u32 (m:Int)):=by
      rw [((uh HQ).grown hg6 (fun e=>(ZbG (uh HS5).j.2 (uh HQ) (by decide)) (by injection e))).cell]
      have:k2=0∨k2=1∨k2=2∨k2=3:=by omega
      rcases this with rfl | rfl | rfl | rfl
      · exact ⟨0,by omega,rfl⟩
      · exact ⟨1,by omega,rfl⟩
      · exact ⟨4294967295,by omega,rfl⟩
      · exact ⟨4294967294,by omega,rfl⟩
     clear hc6 hg6 hr1
     go_wp2_with (first
      | (refine Zal rfl 27 (.tmp 102) (.tmp 101) rfl w.heap.size 1 29 _ (.int .u32 (m:Int)) [.int .u32 (m:Int)] [.slice A2 L.length c2,.int .u32 (m:Int)] rfl rfl (uh HS6).b3 rfl (by simp) (by kernel_rfl) (by intro u hu; simp at hu; subst hu; rfl) rfl ?_
         intro w7 hb7 hg7
         have HS7:Hid (OddS w w7 B g n A2 c2 L m):=jd ⟨hb7,(uh HS6).b4.grown hg7 (fun e=>by injection e with e; omega),(uh HS6).o.kept hg7 (.inr (Zad (uh HS6).o (uh HS6).b3 (by decide))),(uh HS6).ok,hm,(uh HS6).len,(uh HS6).j.later2 hgl hg7 (Nat.le_refl _)⟩
         clear hb7 hg7)
      | fail)
     go_meet
     exact ⟨_,_,_,_,(uh HS7).more⟩
  case rest =>
   obtain ⟨w9,rfl⟩ :∃w9:World,w9=wc:=⟨_,rfl⟩
   obtain ⟨A9,c9,L9,nx9,h9⟩:=hcut
   have HS9:=jd h9
   clear h9 HS4
   go_wp2_with (first
     | (refine wpList_load_row rfl 29 _ rfl w.heap.size rfl 29 _ _ _ (uh HS9).b3 Tryz.underlying29 rfl (by kernel_rfl) ?_)
     |(refine Zaa rfl 29 (.tmp 4) (.tmp 103) rfl (w.heap.size+1) 29 _ #[.slice A9 L9.length c9,.int .u32 (nx9:Int)] rfl rfl (uh HS9).b4 rfl (by kernel_rfl) (oZz rfl rfl) ?_
       intro wA hbA hgA
       have ZA:=jd hbA
       have OA:=jd ((uh HS9).o.kept hgA (.inr (Zad (uh HS9).o (uh HS9).b4 (by decide))))
       have JA:=jd ((uh HS9).j.later2 hgl hgA (by omega))
       clear hbA hgA)
     | fail)
   exact bodyPost_ret (v:=.agg #[.slice A9 L9.length c9,.int .u32 (nx9:Int)]) (res1 rfl _ (w.heap.size+1) 29 _ _ rfl (uh ZA) Tryz.underlying29 rfl (by kernel_rfl)) rfl ⟨A9,c9,L9,nx9,rfl,uh OA,(uh HS9).ok,(uh HS9).nx,(uh HS9).len,uh JA⟩
end Go.Proofs.YtfbkkmnkpjgciaaGreat
