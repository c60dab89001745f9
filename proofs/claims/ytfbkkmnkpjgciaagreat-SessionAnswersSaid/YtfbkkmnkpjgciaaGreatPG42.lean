/- Joined of TSAL Open. No condition. -/
import Derived.Test.YtfbkkmnkpjgciaaGreatPG41
import Derived.Test.YtfbkkmnkpjgciaaGreatPG35
import Derived.Test.YtfbkkmnkpjgciaaGreatPG00
import Derived.Test.YtfbkkmnkpjgciaaGreatProg
import Derived.ProofKit
import Derived.OpenShut
import Derived.ShutString
import Derived.ChangeOld
namespace Go.Proofs.YtfbkkmnkpjgciaaGreat
open Go.RowKit
theorem ans_law (w:World) (A:Option Addr) (n c:Nat) (bs:List UInt8) (hn:n≤c) (hc:c≤maxLen) (h:Zaj w w.heap.size 1 A n (bsV bs)) (Ar:Option Addr) (nr cr:Nat) (rs:List UInt8) (hnr:nr≤cr) (hcr:cr≤maxLen) (hr:Zaj w w.heap.size 1 Ar nr (bsV rs))
  (Ad:Option Addr) (nd cd:Nat) (ds:List UInt8) (hnd:nd≤cd) (hcd:cd≤maxLen) (hd:Zaj w w.heap.size 1 Ad nd (bsV ds)) (nonce:Int) (hno:0≤nonce∧nonce≤18446744073709551615) (now:Int) :
  Calls Tryz.prog 6 #[.slice A n c,.slice Ar nr cr,.slice Ad nd cd,.int .u64 nonce,.int .i64 now] w fun e w'=>e=.returned (.bool true)∧Below w.heap.size w w':=by
 obtain ⟨x,rfl⟩:=Int.eq_ofNat_of_zero_le hno.1
 exact ans_any step_all w A n c bs hn hc h Ar nr cr rs hnr hcr hr Ad nd cd ds hnd hcd hd x (by omega) now
end Go.Proofs.YtfbkkmnkpjgciaaGreat
namespace Go.Proofs.YtfbkkmnkpjgciaaGreat
open Go.ChangeShapes Go.WideShapes Go.ChangeAt Go.RowKit
section
variable {H:Type} {enc:TypeId × Value→H} {P:Program} {W:World}
theorem cell_lt {a:Addr} {v:Value} (h:W.cell? a=some v):a.block < W.heap.size:=by
 rcases Nat.lt_or_ge a.block W.heap.size with h1 | h1
 · exact h1
 · unfold World.cell? at h; rw [Array.getElem?_eq_none h1] at h; cases h
def toB (z:Int):UInt8:=UInt8.ofNat z.toNat
theorem toB_eq {z:Int} (h:(Lit.int .u8 z).wf=true):((toB z).toNat:Int)=z:=by
 have:=bounds_u8 h
 unfold toB
 rw [UInt8.toNat_ofNat']
 omega
theorem open_bytes {t e:TypeId} (ht:P.underlying t=some (.slice e)) (he:P.underlying e=some (.int .u8)) (hc:P.cellsOf e=1) {r:Reach} {b0:Nat} {v:Value} {d:DataW H} {p:List MemPlace}
  (hv:Value.okWide P W r b0 t v) (h:DataW.Trod enc P W 0 (fun _=>true) true t v d p) :
  ∃ (A:Option Addr) (n c:Nat) (bs:List UInt8),v=.slice A n c∧n≤c∧c≤maxLen∧Zaj W W.heap.size 1 A n (bsV bs):=by
 obtain ⟨A,n,c,rfl⟩:=okWide_slice ht hv
 obtain ⟨fuel,hf⟩:=h
 rcases open_ints ht he hc hf with ⟨hcs,_⟩ | ⟨x,l,c',zs,hcs,_,hl,hm,hz,_,hcell,hwz⟩
 ·simp [Value.cells] at hcs
  obtain ⟨rfl,rfl,rfl⟩:=hcs
  exact ⟨none,0,0,[],rfl,Nat.le_refl _,by simp [maxLen],⟨by simp,fun h=>by omega⟩⟩
 ·simp [Value.cells] at hcs
  obtain ⟨rfl,rfl,rfl⟩:=hcs
  simp only [if_true] at hz
  refine ⟨some x,n,c,(zs.take n).map toB,rfl,hl,hm,⟨by simp; omega,fun h0=>⟨x,rfl,?_,fun j u hu=>?_⟩⟩⟩
  ·have h1:=cell_lt (hcell 0 (by omega))
   rwa [Za1] at h1
  ·simp only [bsV,List.getElem?_map,List.map_map,List.getElem?_take] at hu
   by_cases hj:j < n
   ·rw [if_pos hj] at hu
    have hjz:j < zs.length:=by omega
    rw [List.getElem?_eq_getElem hjz] at hu
    simp only [Option.map_some,Function.comp,Option.some.injEq] at hu
    rw [hcell j hjz,← hu,toB_eq (hwz _ (List.getElem_mem hjz))]
    simp [hjz]
   ·rw [if_neg hj] at hu
    cases hu
theorem open_byteArr {t e m:Nat} (ht:P.underlying t=some (.array m e)) (he:P.underlying e=some (.int .u8)) (hc:P.cellsOf e=1) (hct:P.cellsOf t=m) {r:Reach} {b0:Nat} {v:Value} {d:DataW H} {p:List MemPlace}
  (hv:Value.okWide P W r b0 t v) (h:DataW.Trod enc P W 0 (fun _=>true) true t v d p) :∃ks:List UInt8,ks.length=m∧v=.agg (bsV ks).toArray:=by
 simp only [Value.okWide,ht] at hv
 obtain ⟨cs,rfl,h2,_⟩:=hv
 obtain ⟨fuel,hf⟩:=h
 obtain ⟨xs,k,_,_,hl,hxl,hx⟩:=DataW.trod_array ht hf
 have hcl:cs.toList.length=m:=by simpa [Value.cells,hct] using hl
 have each:∀ i (hi:i < cs.toList.length),∃ a:Int,cs.toList[i]=.int .u8 a∧(Lit.int .u8 a).wf=true:=by
  intro i hi
  have h3:=hx i (by omega)
  rw [hc,Nat.mul_one,List.getElem?_eq_getElem (by omega)] at h3
  have e1:((Value.agg cs).cells.toList.drop i).take 1=[cs.toList[i]]:=by
   show (cs.toList.drop i).take 1=_
   rw [List.drop_eq_getElem_cons hi]; rfl
  rw [e1] at h3
  obtain ⟨a,ea,_,wa⟩:=DataW.trod_int he h3
  simp at ea
  exact ⟨a,by simpa using ea,wa⟩
 refine ⟨cs.toList.map (fun u=>match u with | .int _ a=>toB a | _=>0),by simpa using hcl,?_⟩
 congr 1
 apply Array.toList_inj.1
 apply List.ext_getElem
 · simp
 ·intro i h1 h2
  obtain ⟨a,ea,wa⟩:=each i h1
  rw [ea]
  simp [bsV] at h2 ⊢
  have ea':cs[i]=.int .u8 a:=by simpa using ea
  rw [ea']
  exact (toB_eq wa).symm
end
end Go.Proofs.YtfbkkmnkpjgciaaGreat
