/- Joined of SRShift. No condition. -/
import Derived.Test.YtfbkkmnkpjgciaaGreatPG05
import Derived.Deep.CutRange
import Derived.Deep.DeepCutAuto
namespace Go.Proofs.YtfbkkmnkpjgciaaGreat
open Go.RowKit
set_option maxRecDepth 100000 in
set_option maxHeartbeats 2000000 in
theorem rshift_nil (w:World) (h s n:Nat) (hh:h < 4294967296) (hs:s < 4294967296) (hn:n < 4294967296) (h0:n=0) :
  Calls Tryz.prog 85 #[.agg #[.int .u32 (h:Int),.int .u32 (s:Int)],.int .u32 (n:Int)] w fun e w'=>e=.returned (.tuple #[.agg #[.int .u32 0,.int .u32 0],.int .i64 45])∧Below w.heap.size w w':=by
 have uu:=And.intro hh (And.intro hs hn)
 clear uu
 have e0:((n:Int)==0)=true:=by simp [h0]
 have H0:=jd h0
 clear h0
 obtain ⟨W,q,r,hqr,X,Z,B,BQ,BR,BW,HR,HQ,HW,ONE⟩:=ZaX w h s
 go_enter Tryz.func85,Tryz.ntmps85
 go_upto_region 1 with fail
 rw [uh HW,uh HR,uh HQ]
 have x0:W.cell? ⟨q,0,none⟩=some (.int .u32 (h:Int)):=(uh X).cell 0
 have x1:W.cell? ⟨q,1,none⟩=some (.int .u32 (s:Int)):=(uh X).cell 1
 go_wp2_with (first
  |(refine Zaa rfl 48 (.tmp 4) (.tmp 18) rfl r 48 _ #[.int .u32 0,.int .u32 0] rfl rfl (uh Z) rfl (by kernel_rfl) (uh ONE _ _) ?_
    intro w9 hb9 hg9
    have Z9:=jd hb9
    have B9:=jd ((uh B).grown hg9 (uh BW) (fun j e=>by injection e with e; have:=uh BR; omega))
    clear hb9 hg9)
  | fail)
 exact bodyPost_ret (v:=.tuple #[.agg #[.int .u32 0,.int .u32 0],.int .i64 45]) (res2 rfl _ r 48 _ _ _ rfl rfl (uh Z9) Tryz.underlying48 rfl (by kernel_rfl)) rfl ⟨rfl,uh B9⟩
set_option maxRecDepth 100000 in
set_option maxHeartbeats 2000000 in
theorem rshift_same (w:World) (h s n:Nat) (hh:h < 4294967296) (hs:s < 4294967296) (hn:n < 4294967296) (h1:0 < n) (h0:n=h) :
  Calls Tryz.prog 85 #[.agg #[.int .u32 (h:Int),.int .u32 (s:Int)],.int .u32 (n:Int)] w fun e w'=>e=.returned (.tuple #[.agg #[.int .u32 0,.int .u32 0],.int .i64 45])∧Below w.heap.size w w':=by
 have uu:=And.intro hh (And.intro hs hn)
 clear uu
 have e0:((n:Int)==0)=false:=by simp; omega
 have e1:((n:Int)==(h:Int))=true:=by simp; omega
 have H0:=jd h0
 clear h0
 obtain ⟨W,q,r,hqr,X,Z,B,BQ,BR,BW,HR,HQ,HW,ONE⟩:=ZaX w h s
 go_enter Tryz.func85,Tryz.ntmps85
 go_upto_region 1 with fail
 rw [uh HW,uh HR,uh HQ]
 have x0:W.cell? ⟨q,0,none⟩=some (.int .u32 (h:Int)):=(uh X).cell 0
 have x1:W.cell? ⟨q,1,none⟩=some (.int .u32 (s:Int)):=(uh X).cell 1
 go_wp2_with (first
  |(refine Zaa rfl 48 (.tmp 4) (.tmp 18) rfl r 48 _ #[.int .u32 0,.int .u32 0] rfl rfl (uh Z) rfl (by kernel_rfl) (uh ONE _ _) ?_
    intro w9 hb9 hg9
    have Z9:=jd hb9
    have B9:=jd ((uh B).grown hg9 (uh BW) (fun j e=>by injection e with e; have:=uh BR; omega))
    clear hb9 hg9)
  | fail)
 exact bodyPost_ret (v:=.tuple #[.agg #[.int .u32 0,.int .u32 0],.int .i64 45]) (res2 rfl _ r 48 _ _ _ rfl rfl (uh Z9) Tryz.underlying48 rfl (by kernel_rfl)) rfl ⟨rfl,uh B9⟩
set_option maxRecDepth 100000 in
set_option maxHeartbeats 2000000 in
theorem rshift_old (w:World) (h s n:Nat) (hh:h < 4294967296) (hs:s < 4294967296) (hn:n < 4294967296) (h1:0 < n) (d:Nat) (hd:h=n+1+d) (h0:32≤d) :
  Calls Tryz.prog 85 #[.agg #[.int .u32 (h:Int),.int .u32 (s:Int)],.int .u32 (n:Int)] w fun e w'=>e=.returned (.tuple #[.agg #[.int .u32 0,.int .u32 0],.int .i64 45])∧Below w.heap.size w w':=by
 have uu:=And.intro hh (And.intro hs hn)
 clear uu
 have e0:((n:Int)==0)=false:=by simp; omega
 have e1:((n:Int)==(h:Int))=false:=by simp; omega
 have lt:(n:Int) < (h:Int):=by omega
 have d1:IntKind.u32.wrap ((h:Int) - (n:Int))=(h:Int) - (n:Int):=by rw [IntKind.wrap_u32]; omega
 have dd:32 < (h:Int) - (n:Int):=by omega
 have H0:=jd h0
 clear h0
 have HD:=jd hd
 clear hd
 obtain ⟨W,q,r,hqr,X,Z,B,BQ,BR,BW,HR,HQ,HW,ONE⟩:=ZaX w h s
 go_enter Tryz.func85,Tryz.ntmps85
 go_upto_region 1 with fail
 rw [uh HW,uh HR,uh HQ]
 have x0:W.cell? ⟨q,0,none⟩=some (.int .u32 (h:Int)):=(uh X).cell 0
 have x1:W.cell? ⟨q,1,none⟩=some (.int .u32 (s:Int)):=(uh X).cell 1
 go_wp2_with (first
  |(refine Zaa rfl 48 (.tmp 4) (.tmp 38) rfl r 48 _ #[.int .u32 0,.int .u32 0] rfl rfl (uh Z) rfl (by kernel_rfl) (uh ONE _ _) ?_
    intro w9 hb9 hg9
    have Z9:=jd hb9
    have B9:=jd ((uh B).grown hg9 (uh BW) (fun j e=>by injection e with e; have:=uh BR; omega))
    clear hb9 hg9)
  | fail)
 exact bodyPost_ret (v:=.tuple #[.agg #[.int .u32 0,.int .u32 0],.int .i64 45]) (res2 rfl _ r 48 _ _ _ rfl rfl (uh Z9) Tryz.underlying48 rfl (by kernel_rfl)) rfl ⟨rfl,uh B9⟩
set_option maxRecDepth 100000 in
set_option maxHeartbeats 2000000 in
theorem rshift_seen (w:World) (h s n:Nat) (hh:h < 4294967296) (hs:s < 4294967296) (hn:n < 4294967296) (h1:0 < n) (d:Nat) (hd:h=n+1+d) (h0:d < 32) (hm:(bits .and .u32 ((s:Int) / 2 ^ d) 1==1)=true) :
  Calls Tryz.prog 85 #[.agg #[.int .u32 (h:Int),.int .u32 (s:Int)],.int .u32 (n:Int)] w fun e w'=>e=.returned (.tuple #[.agg #[.int .u32 0,.int .u32 0],.int .i64 45])∧Below w.heap.size w w':=by
 have uu:=And.intro hh (And.intro hs hn)
 clear uu
 have e0:((n:Int)==0)=false:=by simp; omega
 have e1:((n:Int)==(h:Int))=false:=by simp; omega
 have lt:(n:Int) < (h:Int):=by omega
 have d1:IntKind.u32.wrap ((h:Int) - (n:Int))=(h:Int) - (n:Int):=by rw [IntKind.wrap_u32]; omega
 have m32:min d 32=d:=by omega
 have dd:(32 < (h:Int) - (n:Int))=False:=by simp; omega
 have d2:IntKind.u32.wrap ((h:Int) - (n:Int) - 1)=(d:Int):=by rw [IntKind.wrap_u32]; omega
 have H0:=jd h0
 clear h0
 have HD:=jd hd
 clear hd
 obtain ⟨W,q,r,hqr,X,Z,B,BQ,BR,BW,HR,HQ,HW,ONE⟩:=ZaX w h s
 go_enter Tryz.func85,Tryz.ntmps85
 go_upto_region 1 with fail
 rw [uh HW,uh HR,uh HQ]
 have x0:W.cell? ⟨q,0,none⟩=some (.int .u32 (h:Int)):=(uh X).cell 0
 have x1:W.cell? ⟨q,1,none⟩=some (.int .u32 (s:Int)):=(uh X).cell 1
 go_wp2_with (first
  |(refine Zaa rfl 48 (.tmp 4) (.tmp 38) rfl r 48 _ #[.int .u32 0,.int .u32 0] rfl rfl (uh Z) rfl (by kernel_rfl) (uh ONE _ _) ?_
    intro w9 hb9 hg9
    have Z9:=jd hb9
    have B9:=jd ((uh B).grown hg9 (uh BW) (fun j e=>by injection e with e; have:=uh BR; omega))
    clear hb9 hg9)
  | fail)
 exact bodyPost_ret (v:=.tuple #[.agg #[.int .u32 0,.int .u32 0],.int .i64 45]) (res2 rfl _ r 48 _ _ _ rfl rfl (uh Z9) Tryz.underlying48 rfl (by kernel_rfl)) rfl ⟨rfl,uh B9⟩
set_option maxRecDepth 100000 in
set_option maxHeartbeats 2000000 in
theorem rshift_new (w:World) (h s n:Nat) (hh:h < 4294967296) (hs:s < 4294967296) (hn:n < 4294967296) (h1:0 < n) (d:Nat) (hd:h=n+1+d) (h0:d < 32) (hm:(bits .and .u32 ((s:Int) / 2 ^ d) 1==1)=false) (b:Nat) (hb:b=2 ^ d) (S:Nat) (hS:bits .or .u32 (s:Int) (b:Int)=(S:Int)) :
  Calls Tryz.prog 85 #[.agg #[.int .u32 (h:Int),.int .u32 (s:Int)],.int .u32 (n:Int)] w fun e w'=>e=.returned (.tuple #[.agg #[.int .u32 (h:Int),.int .u32 (S:Int)],.int .i64 0])∧Below w.heap.size w w':=by
 have uu:=And.intro hh (And.intro hs hn)
 clear uu
 have e0:((n:Int)==0)=false:=by simp; omega
 have e1:((n:Int)==(h:Int))=false:=by simp; omega
 have lt:(n:Int) < (h:Int):=by omega
 have d1:IntKind.u32.wrap ((h:Int) - (n:Int))=(h:Int) - (n:Int):=by rw [IntKind.wrap_u32]; omega
 have m32:min d 32=d:=by omega
 have dd:(32 < (h:Int) - (n:Int))=False:=by simp; omega
 have d2:IntKind.u32.wrap ((h:Int) - (n:Int) - 1)=(d:Int):=by rw [IntKind.wrap_u32]; omega
 have bb:(2:Int) ^ d % 4294967296=(b:Int):=by
  have h1:2 ^ d < 2 ^ 32:=Nat.pow_lt_pow_right (by omega) h0
  have e:(2:Int) ^ d=((2 ^ d:Nat):Int):=by simp
  rw [e,hb]
  omega
 clear hb
 have H0:=jd h0
 clear h0
 have HD:=jd hd
 clear hd
 obtain ⟨W,q,r,hqr,X,Z,B,BQ,BR,BW,HR,HQ,HW,ONE⟩:=ZaX w h s
 go_enter Tryz.func85,Tryz.ntmps85
 go_upto_region 1 with fail
 rw [uh HW,uh HR,uh HQ]
 have x0:W.cell? ⟨q,0,none⟩=some (.int .u32 (h:Int)):=(uh X).cell 0
 have x1:W.cell? ⟨q,1,none⟩=some (.int .u32 (s:Int)):=(uh X).cell 1
 have fz:=(uh X).frozen 1
 have X2:=jd ((uh X).set_ 1 (.int .u32 (S:Int)))
 have Z2:=jd ((uh Z).far (p:=⟨q,1,none⟩) (by simp; omega) (.int .u32 (S:Int)))
 have B2:=jd ((uh B).setCell (p:=⟨q,1,none⟩) (uh BQ) (.int .u32 (S:Int)))
 obtain ⟨W2,hW2⟩ :∃W2,W.setCell ⟨q,1,none⟩ (.int .u32 (S:Int))=W2:=⟨_,rfl⟩
 rw [hW2] at X2 Z2 B2
 have BW2:Hid (w.heap.size≤W2.heap.size):=jd (uh B2).size
 have HW2:=jd hW2
 clear hW2
 go_upto_region 8 with fail
 rw [uh HW2]
 have y0:W2.cell? ⟨q,0,none⟩=some (.int .u32 (h:Int)):=(uh X2).cell 0
 have y1:W2.cell? ⟨q,1,none⟩=some (.int .u32 (S:Int)):=(uh X2).cell 1
 go_wp2_with (first
  |(refine Zaa rfl 48 (.tmp 4) (.tmp 46) rfl r 48 _ #[.int .u32 (h:Int),.int .u32 (S:Int)] rfl rfl (uh Z2) rfl (by kernel_rfl) (uh ONE _ _) ?_
    intro w9 hb9 hg9
    have Z9:=jd hb9
    have B9:=jd ((uh B2).grown hg9 (uh BW2) (fun j e=>by injection e with e; have:=uh BR; omega))
    clear hb9 hg9)
  | fail)
 exact bodyPost_ret (v:=.tuple #[.agg #[.int .u32 (h:Int),.int .u32 (S:Int)],.int .i64 0]) (res2 rfl _ r 48 _ _ _ rfl rfl (uh Z9) Tryz.underlying48 rfl (by kernel_rfl)) rfl ⟨rfl,uh B9⟩
set_option maxRecDepth 100000 in
set_option maxHeartbeats 2000000 in
theorem rshift_far0 (w:World) (h s n:Nat) (hh:h < 4294967296) (hs:s < 4294967296) (hn:n < 4294967296) (h1:0 < n) (d:Nat) (hd:n=h+1+d) (hd32:32≤d) (h0:h=0) :
  Calls Tryz.prog 85 #[.agg #[.int .u32 (h:Int),.int .u32 (s:Int)],.int .u32 (n:Int)] w fun e w'=>e=.returned (.tuple #[.agg #[.int .u32 (n:Int),.int .u32 0],.int .i64 0])∧Below w.heap.size w w':=by
 have uu:=And.intro hh (And.intro hs hn)
 clear uu
 have hz:((h:Int) != 0)=false:=by simp [h0]
 have u1:=h1
 clear u1
 have e0:((n:Int)==0)=false:=by simp; omega
 have e1:((n:Int)==(h:Int))=false:=by simp; omega
 have lt:((n:Int) < (h:Int))=False:=by simp; omega
 have d1:IntKind.u32.wrap ((n:Int) - (h:Int))=((d+1:Nat):Int):=by rw [IntKind.wrap_u32]; omega
 obtain ⟨f,hf⟩ :∃f,d+1=f:=⟨_,rfl⟩
 rw [hf] at d1
 have d2:IntKind.u64.wrap ((f:Int) - 1)=(d:Int):=by rw [IntKind.wrap_u64]; omega
 have dd:((f:Int)≤32)=False:=by simp; omega
 have fb:f < 4294967296:=by omega
 clear hf
 have H0:=jd h0
 clear h0
 have HD:=jd hd
 clear hd
 obtain ⟨W,q,r,hqr,X,Z,B,BQ,BR,BW,HR,HQ,HW,ONE⟩:=ZaX w h s
 go_enter Tryz.func85,Tryz.ntmps85
 go_upto_region 1 with fail
 rw [uh HW,uh HR,uh HQ]
 have x0:W.cell? ⟨q,0,none⟩=some (.int .u32 (h:Int)):=(uh X).cell 0
 have x1:W.cell? ⟨q,1,none⟩=some (.int .u32 (s:Int)):=(uh X).cell 1
 have N0:=jd (Blk.new W 48 #[.int .u32 0,.int .u32 0])
 go_upto_region 13 with fail
 go_upto_region 14 with (first
  |(refine Zaa rfl 48 (.tmp 9) (.tmp 62) rfl W.heap.size 48 _ #[.int .u32 (n:Int),.int .u32 0] rfl rfl (uh N0) rfl (by kernel_rfl) (uh ONE _ _) ?_
    intro w3 hb3 hg3
    have hrl:=(uh Z).lt
    have N3:=jd hb3
    have Z3:=jd (((uh Z).alloc (.cells #[.int .u32 0,.int .u32 0] 48)).grown hg3 (by intro e; injection e with e; omega))
    have B3:=jd (((uh B).alloc (uh BW) (.cells #[.int .u32 0,.int .u32 0] 48)).grown hg3 (by rw [Zae]; have:=uh BW; omega) (fun j e=>by injection e with e; have:=uh BW; omega))
    clear hb3 hg3)
  | fail)
 have BW3:Hid (w.heap.size≤w3.heap.size):=jd (uh B3).size
 obtain ⟨t3,ht3⟩ :∃t3,W.heap.size=t3:=⟨_,rfl⟩
 rw [ht3] at N3 hrl
 try rw [ht3]
 have m0:w3.cell? ⟨t3,0,none⟩=some (.int .u32 (n:Int)):=(uh N3).cell 0
 have m1:w3.cell? ⟨t3,1,none⟩=some (.int .u32 0):=(uh N3).cell 1
 go_upto_region 16 with fail
 go_wp2_with (first
  |(refine Zaa rfl 48 (.tmp 4) (.tmp 71) rfl r 48 _ #[.int .u32 (n:Int),.int .u32 0] rfl rfl (uh Z3) rfl (by kernel_rfl) (uh ONE _ _) ?_
    intro w9 hb9 hg9
    have Z9:=jd hb9
    have B9:=jd ((uh B3).grown hg9 (uh BW3) (fun j e=>by injection e with e; have:=uh BR; omega))
    clear hb9 hg9)
  | fail)
 exact bodyPost_ret (v:=.tuple #[.agg #[.int .u32 (n:Int),.int .u32 0],.int .i64 0]) (res2 rfl _ r 48 _ _ _ rfl rfl (uh Z9) Tryz.underlying48 rfl (by kernel_rfl)) rfl ⟨rfl,uh B9⟩
set_option maxRecDepth 100000 in
set_option maxHeartbeats 2000000 in
theorem rshift_on0 (w:World) (h s n:Nat) (hh:h < 4294967296) (hs:s < 4294967296) (hn:n < 4294967296) (h1:0 < n) (d:Nat) (hd:n=h+1+d) (hd32:d < 32) (h0:h=0) (g:Nat) (hg:g=2*s) (S:Nat) (hS:S=g*2 ^ d % 4294967296) :
  Calls Tryz.prog 85 #[.agg #[.int .u32 (h:Int),.int .u32 (s:Int)],.int .u32 (n:Int)] w fun e w'=>e=.returned (.tuple #[.agg #[.int .u32 (n:Int),.int .u32 (S:Int)],.int .i64 0])∧Below w.heap.size w w':=by
 have uu:=And.intro hh (And.intro hs hn)
 clear uu
 have hz:((h:Int) != 0)=false:=by simp [h0]
 have u1:=h1
 clear u1
 have e0:((n:Int)==0)=false:=by simp; omega
 have e1:((n:Int)==(h:Int))=false:=by simp; omega
 have lt:((n:Int) < (h:Int))=False:=by simp; omega
 have d1:IntKind.u32.wrap ((n:Int) - (h:Int))=((d+1:Nat):Int):=by rw [IntKind.wrap_u32]; omega
 obtain ⟨f,hf⟩ :∃f,d+1=f:=⟨_,rfl⟩
 rw [hf] at d1
 have d2:IntKind.u64.wrap ((f:Int) - 1)=(d:Int):=by rw [IntKind.wrap_u64]; omega
 have gg:(s:Int)*2=(g:Int):=by omega
 have dd:(f:Int)≤32:=by omega
 clear hf
 have m64:min d 64=d:=by omega
 have gS:IntKind.u64.wrap ((g:Int)*2 ^ d) % 4294967296=(S:Int):=by
  have e:(g:Int)*2 ^ d=((g*2 ^ d:Nat):Int):=by simp
  rw [e,IntKind.wrap_u64,hS]
  omega
 clear hg hS
 have H0:=jd h0
 clear h0
 have HD:=jd hd
 clear hd
 obtain ⟨W,q,r,hqr,X,Z,B,BQ,BR,BW,HR,HQ,HW,ONE⟩:=ZaX w h s
 go_enter Tryz.func85,Tryz.ntmps85
 go_upto_region 1 with fail
 rw [uh HW,uh HR,uh HQ]
 have x0:W.cell? ⟨q,0,none⟩=some (.int .u32 (h:Int)):=(uh X).cell 0
 have x1:W.cell? ⟨q,1,none⟩=some (.int .u32 (s:Int)):=(uh X).cell 1
 have N0:=jd (Blk.new W 48 #[.int .u32 0,.int .u32 0])
 go_upto_region 13 with fail
 go_upto_region 14 with (first
  |(refine Zaa rfl 48 (.tmp 9) (.tmp 62) rfl W.heap.size 48 _ #[.int .u32 (n:Int),.int .u32 0] rfl rfl (uh N0) rfl (by kernel_rfl) (uh ONE _ _) ?_
    intro w3 hb3 hg3
    have hrl:=(uh Z).lt
    have N3:=jd hb3
    have Z3:=jd (((uh Z).alloc (.cells #[.int .u32 0,.int .u32 0] 48)).grown hg3 (by intro e; injection e with e; omega))
    have B3:=jd (((uh B).alloc (uh BW) (.cells #[.int .u32 0,.int .u32 0] 48)).grown hg3 (by rw [Zae]; have:=uh BW; omega) (fun j e=>by injection e with e; have:=uh BW; omega))
    clear hb3 hg3)
  | fail)
 have BW3:Hid (w.heap.size≤w3.heap.size):=jd (uh B3).size
 obtain ⟨t3,ht3⟩ :∃t3,W.heap.size=t3:=⟨_,rfl⟩
 rw [ht3] at N3 hrl
 try rw [ht3]
 have m0:w3.cell? ⟨t3,0,none⟩=some (.int .u32 (n:Int)):=(uh N3).cell 0
 have m1:w3.cell? ⟨t3,1,none⟩=some (.int .u32 0):=(uh N3).cell 1
 have fz:=(uh N3).frozen 1
 have N4:=jd ((uh N3).set_ 1 (.int .u32 (S:Int)))
 have Z4:=jd ((uh Z3).far (p:=⟨t3,1,none⟩) (by simp; omega) (.int .u32 (S:Int)))
 have B4:=jd ((uh B3).setCell (p:=⟨t3,1,none⟩) (by have:=uh BR; simp; omega) (.int .u32 (S:Int)))
 obtain ⟨W4,hW4⟩ :∃W4,w3.setCell ⟨t3,1,none⟩ (.int .u32 (S:Int))=W4:=⟨_,rfl⟩
 rw [hW4] at N4 Z4 B4
 have BW4:Hid (w.heap.size≤W4.heap.size):=jd (uh B4).size
 have HW4:=jd hW4
 clear hW4
 go_upto_region 16 with fail
 rw [uh HW4]
 have y0:W4.cell? ⟨t3,0,none⟩=some (.int .u32 (n:Int)):=(uh N4).cell 0
 have y1:W4.cell? ⟨t3,1,none⟩=some (.int .u32 (S:Int)):=(uh N4).cell 1
 go_wp2_with (first
  |(refine Zaa rfl 48 (.tmp 4) (.tmp 71) rfl r 48 _ #[.int .u32 (n:Int),.int .u32 (S:Int)] rfl rfl (uh Z4) rfl (by kernel_rfl) (uh ONE _ _) ?_
    intro w9 hb9 hg9
    have Z9:=jd hb9
    have B9:=jd ((uh B4).grown hg9 (uh BW4) (fun j e=>by injection e with e; have:=uh BR; omega))
    clear hb9 hg9)
  | fail)
 exact bodyPost_ret (v:=.tuple #[.agg #[.int .u32 (n:Int),.int .u32 (S:Int)],.int .i64 0]) (res2 rfl _ r 48 _ _ _ rfl rfl (uh Z9) Tryz.underlying48 rfl (by kernel_rfl)) rfl ⟨rfl,uh B9⟩
set_option maxRecDepth 100000 in
set_option maxHeartbeats 2000000 in
theorem rshift_far1 (w:World) (h s n:Nat) (hh:h < 4294967296) (hs:s < 4294967296) (hn:n < 4294967296) (h1:0 < n) (d:Nat) (hd:n=h+1+d) (hd32:32≤d) (h0:0 < h) :
  Calls Tryz.prog 85 #[.agg #[.int .u32 (h:Int),.int .u32 (s:Int)],.int .u32 (n:Int)] w fun e w'=>e=.returned (.tuple #[.agg #[.int .u32 (n:Int),.int .u32 0],.int .i64 0])∧Below w.heap.size w w':=by
 have uu:=And.intro hh (And.intro hs hn)
 clear uu
 have hz:((h:Int) != 0)=true:=by simp; omega
 have u1:=h1
 clear u1
 have e0:((n:Int)==0)=false:=by simp; omega
 have e1:((n:Int)==(h:Int))=false:=by simp; omega
 have lt:((n:Int) < (h:Int))=False:=by simp; omega
 have d1:IntKind.u32.wrap ((n:Int) - (h:Int))=((d+1:Nat):Int):=by rw [IntKind.wrap_u32]; omega
 obtain ⟨f,hf⟩ :∃f,d+1=f:=⟨_,rfl⟩
 rw [hf] at d1
 have d2:IntKind.u64.wrap ((f:Int) - 1)=(d:Int):=by rw [IntKind.wrap_u64]; omega
 have dd:((f:Int)≤32)=False:=by simp; omega
 have fb:f < 4294967296:=by omega
 clear hf
 have H0:=jd h0
 clear h0
 have HD:=jd hd
 clear hd
 obtain ⟨W,q,r,hqr,X,Z,B,BQ,BR,BW,HR,HQ,HW,ONE⟩:=ZaX w h s
 go_enter Tryz.func85,Tryz.ntmps85
 go_upto_region 1 with fail
 rw [uh HW,uh HR,uh HQ]
 have x0:W.cell? ⟨q,0,none⟩=some (.int .u32 (h:Int)):=(uh X).cell 0
 have x1:W.cell? ⟨q,1,none⟩=some (.int .u32 (s:Int)):=(uh X).cell 1
 have N0:=jd (Blk.new W 48 #[.int .u32 0,.int .u32 0])
 go_upto_region 13 with fail
 go_upto_region 14 with (first
  |(refine Zaa rfl 48 (.tmp 9) (.tmp 62) rfl W.heap.size 48 _ #[.int .u32 (n:Int),.int .u32 0] rfl rfl (uh N0) rfl (by kernel_rfl) (uh ONE _ _) ?_
    intro w3 hb3 hg3
    have hrl:=(uh Z).lt
    have N3:=jd hb3
    have Z3:=jd (((uh Z).alloc (.cells #[.int .u32 0,.int .u32 0] 48)).grown hg3 (by intro e; injection e with e; omega))
    have B3:=jd (((uh B).alloc (uh BW) (.cells #[.int .u32 0,.int .u32 0] 48)).grown hg3 (by rw [Zae]; have:=uh BW; omega) (fun j e=>by injection e with e; have:=uh BW; omega))
    clear hb3 hg3)
  | fail)
 have BW3:Hid (w.heap.size≤w3.heap.size):=jd (uh B3).size
 obtain ⟨t3,ht3⟩ :∃t3,W.heap.size=t3:=⟨_,rfl⟩
 rw [ht3] at N3 hrl
 try rw [ht3]
 have m0:w3.cell? ⟨t3,0,none⟩=some (.int .u32 (n:Int)):=(uh N3).cell 0
 have m1:w3.cell? ⟨t3,1,none⟩=some (.int .u32 0):=(uh N3).cell 1
 go_upto_region 16 with fail
 go_wp2_with (first
  |(refine Zaa rfl 48 (.tmp 4) (.tmp 71) rfl r 48 _ #[.int .u32 (n:Int),.int .u32 0] rfl rfl (uh Z3) rfl (by kernel_rfl) (uh ONE _ _) ?_
    intro w9 hb9 hg9
    have Z9:=jd hb9
    have B9:=jd ((uh B3).grown hg9 (uh BW3) (fun j e=>by injection e with e; have:=uh BR; omega))
    clear hb9 hg9)
  | fail)
 exact bodyPost_ret (v:=.tuple #[.agg #[.int .u32 (n:Int),.int .u32 0],.int .i64 0]) (res2 rfl _ r 48 _ _ _ rfl rfl (uh Z9) Tryz.underlying48 rfl (by kernel_rfl)) rfl ⟨rfl,uh B9⟩
set_option maxRecDepth 100000 in
set_option maxHeartbeats 2000000 in
theorem rshift_on1 (w:World) (h s n:Nat) (hh:h < 4294967296) (hs:s < 4294967296) (hn:n < 4294967296) (h1:0 < n) (d:Nat) (hd:n=h+1+d) (hd32:d < 32) (h0:0 < h) (g:Nat) (hg:g=2*s+1) (S:Nat) (hS:S=g*2 ^ d % 4294967296) :
  Calls Tryz.prog 85 #[.agg #[.int .u32 (h:Int),.int .u32 (s:Int)],.int .u32 (n:Int)] w fun e w'=>e=.returned (.tuple #[.agg #[.int .u32 (n:Int),.int .u32 (S:Int)],.int .i64 0])∧Below w.heap.size w w':=by
 have uu:=And.intro hh (And.intro hs hn)
 clear uu
 have hz:((h:Int) != 0)=true:=by simp; omega
 have u1:=h1
 clear u1
 have e0:((n:Int)==0)=false:=by simp; omega
 have e1:((n:Int)==(h:Int))=false:=by simp; omega
 have lt:((n:Int) < (h:Int))=False:=by simp; omega
 have d1:IntKind.u32.wrap ((n:Int) - (h:Int))=((d+1:Nat):Int):=by rw [IntKind.wrap_u32]; omega
 obtain ⟨f,hf⟩ :∃f,d+1=f:=⟨_,rfl⟩
 rw [hf] at d1
 have d2:IntKind.u64.wrap ((f:Int) - 1)=(d:Int):=by rw [IntKind.wrap_u64]; omega
 have gg:bits BinOp.or IntKind.u64 ((s:Int)*2) 1=(g:Int):=by
  have e:(s:Int)*2=((2*s:Nat):Int):=by omega
  rw [e,show (1:Int)=((1:Nat):Int) from rfl,or_u64 _ _ (by omega) (by omega),hg]
  congr 1
  exact (Nat.two_pow_add_eq_or_of_lt (i:=1) (b:=1) (by omega) s).symm
 have dd:(f:Int)≤32:=by omega
 clear hf
 have m64:min d 64=d:=by omega
 have gS:IntKind.u64.wrap ((g:Int)*2 ^ d) % 4294967296=(S:Int):=by
  have e:(g:Int)*2 ^ d=((g*2 ^ d:Nat):Int):=by simp
  rw [e,IntKind.wrap_u64,hS]
  omega
 clear hg hS
 have H0:=jd h0
 clear h0
 have HD:=jd hd
 clear hd
 obtain ⟨W,q,r,hqr,X,Z,B,BQ,BR,BW,HR,HQ,HW,ONE⟩:=ZaX w h s
 go_enter Tryz.func85,Tryz.ntmps85
 go_upto_region 1 with fail
 rw [uh HW,uh HR,uh HQ]
 have x0:W.cell? ⟨q,0,none⟩=some (.int .u32 (h:Int)):=(uh X).cell 0
 have x1:W.cell? ⟨q,1,none⟩=some (.int .u32 (s:Int)):=(uh X).cell 1
 have N0:=jd (Blk.new W 48 #[.int .u32 0,.int .u32 0])
 go_upto_region 13 with fail
 go_upto_region 14 with (first
  |(refine Zaa rfl 48 (.tmp 9) (.tmp 62) rfl W.heap.size 48 _ #[.int .u32 (n:Int),.int .u32 0] rfl rfl (uh N0) rfl (by kernel_rfl) (uh ONE _ _) ?_
    intro w3 hb3 hg3
    have hrl:=(uh Z).lt
    have N3:=jd hb3
    have Z3:=jd (((uh Z).alloc (.cells #[.int .u32 0,.int .u32 0] 48)).grown hg3 (by intro e; injection e with e; omega))
    have B3:=jd (((uh B).alloc (uh BW) (.cells #[.int .u32 0,.int .u32 0] 48)).grown hg3 (by rw [Zae]; have:=uh BW; omega) (fun j e=>by injection e with e; have:=uh BW; omega))
    clear hb3 hg3)
  | fail)
 have BW3:Hid (w.heap.size≤w3.heap.size):=jd (uh B3).size
 obtain ⟨t3,ht3⟩ :∃t3,W.heap.size=t3:=⟨_,rfl⟩
 rw [ht3] at N3 hrl
 try rw [ht3]
 have m0:w3.cell? ⟨t3,0,none⟩=some (.int .u32 (n:Int)):=(uh N3).cell 0
 have m1:w3.cell? ⟨t3,1,none⟩=some (.int .u32 0):=(uh N3).cell 1
 have fz:=(uh N3).frozen 1
 have N4:=jd ((uh N3).set_ 1 (.int .u32 (S:Int)))
 have Z4:=jd ((uh Z3).far (p:=⟨t3,1,none⟩) (by simp; omega) (.int .u32 (S:Int)))
 have B4:=jd ((uh B3).setCell (p:=⟨t3,1,none⟩) (by have:=uh BR; simp; omega) (.int .u32 (S:Int)))
 obtain ⟨W4,hW4⟩ :∃W4,w3.setCell ⟨t3,1,none⟩ (.int .u32 (S:Int))=W4:=⟨_,rfl⟩
 rw [hW4] at N4 Z4 B4
 have BW4:Hid (w.heap.size≤W4.heap.size):=jd (uh B4).size
 have HW4:=jd hW4
 clear hW4
 go_upto_region 16 with fail
 rw [uh HW4]
 have y0:W4.cell? ⟨t3,0,none⟩=some (.int .u32 (n:Int)):=(uh N4).cell 0
 have y1:W4.cell? ⟨t3,1,none⟩=some (.int .u32 (S:Int)):=(uh N4).cell 1
 go_wp2_with (first
  |(refine Zaa rfl 48 (.tmp 4) (.tmp 71) rfl r 48 _ #[.int .u32 (n:Int),.int .u32 (S:Int)] rfl rfl (uh Z4) rfl (by kernel_rfl) (uh ONE _ _) ?_
    intro w9 hb9 hg9
    have Z9:=jd hb9
    have B9:=jd ((uh B4).grown hg9 (uh BW4) (fun j e=>by injection e with e; have:=uh BR; omega))
    clear hb9 hg9)
  | fail)
 exact bodyPost_ret (v:=.tuple #[.agg #[.int .u32 (n:Int),.int .u32 (S:Int)],.int .i64 0]) (res2 rfl _ r 48 _ _ _ rfl rfl (uh Z9) Tryz.underlying48 rfl (by kernel_rfl)) rfl ⟨rfl,uh B9⟩
end Go.Proofs.YtfbkkmnkpjgciaaGreat
