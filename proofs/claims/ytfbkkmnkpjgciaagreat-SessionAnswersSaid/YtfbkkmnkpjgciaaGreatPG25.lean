/- Joined of SShiftAll. No condition. -/
import Derived.Test.YtfbkkmnkpjgciaaGreatPG23
import Derived.Test.YtfbkkmnkpjgciaaGreatPG24
namespace Go.Proofs.YtfbkkmnkpjgciaaGreat
open Go.RowKit
def ZbS (h s n:Nat):Nat × Nat × Int :=
 if h < n then
  if 32≤n - h - 1 then (n,0,0) else (n,(2*s+if h=0 then 0 else 1)*2 ^ (n - h - 1) % 4294967296,0)
 else if n=0∨n=h then (0,0,45)
 else if 32≤h - n - 1 then (0,0,45)
 else if s.testBit (h - n - 1) then (0,0,45) else (h,s ||| 2 ^ (h - n - 1),0)
theorem bits32 (x:Nat) (hx:x < 4294967296):(BitVec.ofInt 32 (x:Int)).toNat=x:=by
 rw [BitVec.ofInt_natCast,BitVec.toNat_ofNat]; exact Nat.mod_eq_of_lt (by omega)
theorem and_u32 (x y:Nat) (hx:x < 4294967296) (hy:y < 4294967296):bits .and .u32 (x:Int) (y:Int)=((x &&& y:Nat):Int):=by
 have hz:x &&& y≤x:=Nat.and_le_left
 show IntKind.u32.wrap ((BitVec.ofInt 32 (x:Int) &&& BitVec.ofInt 32 (y:Int)).toNat:Int)=_
 rw [BitVec.toNat_and,bits32 x hx,bits32 y hy,IntKind.wrap_u32]
 omega
theorem or_u32 (x y:Nat) (hx:x < 4294967296) (hy:y < 4294967296):bits .or .u32 (x:Int) (y:Int)=((x ||| y:Nat):Int):=by
 have hz:x ||| y < 2 ^ 32:=Nat.or_lt_two_pow (by omega) (by omega)
 show IntKind.u32.wrap ((BitVec.ofInt 32 (x:Int) ||| BitVec.ofInt 32 (y:Int)).toNat:Int)=_
 rw [BitVec.toNat_or,bits32 x hx,bits32 y hy,IntKind.wrap_u32]
 omega
theorem pow32 {d:Nat} (h:d < 32):2 ^ d < 4294967296:=by
 have:2 ^ d < 2 ^ 32:=Nat.pow_lt_pow_right (by omega) h
 omega
theorem and_pow (s d:Nat):s &&& 2 ^ d=if s.testBit d then 2 ^ d else 0:=by
 apply Nat.eq_of_testBit_eq
 intro i
 rw [Nat.testBit_and,Nat.testBit_two_pow]
 by_cases hi:d=i
 ·subst hi
  cases h:s.testBit d<;>simp
 · cases h:s.testBit d<;>simp [hi]
theorem seen_and (s d:Nat) (hs:s < 4294967296) (hd:d < 32):(bits .and .u32 (s:Int) ((2 ^ d:Nat):Int) != 0)=s.testBit d:=by
 rw [and_u32 s _ hs (pow32 hd),and_pow]
 have hp:0 < 2 ^ d:=Nat.pow_pos (by omega)
 generalize 2 ^ d=b at hp
 cases s.testBit d with
 |true =>
  simp only [if_true,bne_iff_ne,ne_eq]
  omega
 | false=>rfl
theorem seen_shr (s d:Nat) (hs:s < 4294967296) (_hd:d < 32):(bits .and .u32 ((s:Int) / 2 ^ d) 1==1)=s.testBit d:=by
 have e:(s:Int) / 2 ^ d=((s / 2 ^ d:Nat):Int):=by simp
 have hl:s / 2 ^ d≤s:=Nat.div_le_self _ _
 rw [e,show (1:Int)=((1:Nat):Int) from rfl,and_u32 _ 1 (by omega) (by omega),Nat.and_one_is_mod,Nat.testBit_eq_decide_div_mod_eq]
 have h2:s / 2 ^ d % 2 < 2:=Nat.mod_lt _ (by omega)
 rcases (show s / 2 ^ d % 2=0∨s / 2 ^ d % 2=1 by omega) with h | h<;>simp [h]
def ShiftPost (w:World) (r:Nat × Nat × Int) (e:Ending) (w':World):Prop :=
 e=.returned (.tuple #[.agg #[.int .u32 (r.1:Int),.int .u32 (r.2.1:Int)],.int .i64 r.2.2])∧Below w.heap.size w w'
theorem shift_sx (w:World) (h s n:Nat) (hh:h < 4294967296) (hs:s < 4294967296) (hn:n < 4294967296) :
  Calls Tryz.prog 82 #[.agg #[.int .u32 (h:Int),.int .u32 (s:Int)],.int .u32 (n:Int)] w (ShiftPost w (ZbS h s n)):=by
 unfold ZbS
 by_cases c1:h < n
 ·obtain ⟨d,hd⟩ :∃d,n=h+1+d:=⟨n - h - 1,by omega⟩
  have hdd:n - h - 1=d:=by omega
  rw [if_pos c1,hdd]
  by_cases c2:32≤d
  ·rw [if_pos c2]
   by_cases c3:h=0
   · exact shift_far0 w h s n hh hs hn d hd c2 c3
   · exact shift_far1 w h s n hh hs hn d hd c2 (by omega)
  ·rw [if_neg c2]
   by_cases c3:h=0
   ·rw [if_pos c3]
    exact shift_on0 w h s n hh hs hn d hd (by omega) c3 (2*s+0) (by omega) _ rfl
   ·rw [if_neg c3]
    exact shift_on1 w h s n hh hs hn d hd (by omega) (by omega) (2*s+1) rfl _ rfl
 ·rw [if_neg c1]
  by_cases c2:n=0
  ·rw [if_pos (.inl c2)]
   exact shift_nil w h s n hh hs hn c2
  ·by_cases c3:n=h
   ·rw [if_pos (.inr c3)]
    exact shift_same w h s n hh hs hn (by omega) c3
   ·obtain ⟨d,hd⟩ :∃d,h=n+1+d:=⟨h - n - 1,by omega⟩
    have hdd:h - n - 1=d:=by omega
    rw [if_neg (by omega),hdd]
    by_cases c4:32≤d
    ·rw [if_pos c4]
     exact shift_old w h s n hh hs hn (by omega) d hd c4
    ·rw [if_neg c4]
     have hb:=seen_and s d hs (by omega)
     cases ht:s.testBit d with
     | true=>exact shift_seen w h s n hh hs hn (by omega) d hd (by omega) _ rfl (by rw [hb,ht])
     | false=>exact shift_new w h s n hh hs hn (by omega) d hd (by omega) _ rfl (by rw [hb,ht]) _ (or_u32 s _ hs (pow32 (by omega)))
theorem Zc0 (w:World) (h s n:Nat) (hh:h < 4294967296) (hs:s < 4294967296) (hn:n < 4294967296) :
  Calls Tryz.prog 85 #[.agg #[.int .u32 (h:Int),.int .u32 (s:Int)],.int .u32 (n:Int)] w (ShiftPost w (ZbS h s n)):=by
 unfold ZbS
 by_cases c1:h < n
 ·obtain ⟨d,hd⟩ :∃d,n=h+1+d:=⟨n - h - 1,by omega⟩
  have hdd:n - h - 1=d:=by omega
  rw [if_pos c1,hdd]
  by_cases c2:32≤d
  ·rw [if_pos c2]
   by_cases c3:h=0
   · exact rshift_far0 w h s n hh hs hn (by omega) d hd c2 c3
   · exact rshift_far1 w h s n hh hs hn (by omega) d hd c2 (by omega)
  ·rw [if_neg c2]
   by_cases c3:h=0
   ·rw [if_pos c3]
    exact rshift_on0 w h s n hh hs hn (by omega) d hd (by omega) c3 (2*s+0) (by omega) _ rfl
   ·rw [if_neg c3]
    exact rshift_on1 w h s n hh hs hn (by omega) d hd (by omega) (by omega) (2*s+1) rfl _ rfl
 ·rw [if_neg c1]
  by_cases c2:n=0
  ·rw [if_pos (.inl c2)]
   exact rshift_nil w h s n hh hs hn c2
  ·by_cases c3:n=h
   ·rw [if_pos (.inr c3)]
    exact rshift_same w h s n hh hs hn (by omega) c3
   ·obtain ⟨d,hd⟩ :∃d,h=n+1+d:=⟨h - n - 1,by omega⟩
    have hdd:h - n - 1=d:=by omega
    rw [if_neg (by omega),hdd]
    by_cases c4:32≤d
    ·rw [if_pos c4]
     exact rshift_old w h s n hh hs hn (by omega) d hd c4
    ·rw [if_neg c4]
     have hb:=seen_shr s d hs (by omega)
     cases ht:s.testBit d with
     | true=>exact rshift_seen w h s n hh hs hn (by omega) d hd (by omega) (by rw [hb,ht])
     | false=>exact rshift_new w h s n hh hs hn (by omega) d hd (by omega) (by rw [hb,ht]) _ rfl _ (or_u32 s _ hs (pow32 (by omega)))
theorem Zdr (h s n:Nat) (hh:h < 4294967296) (hs:s < 4294967296) (hn:n < 4294967296):(ZbS h s n).1 < 4294967296∧(ZbS h s n).2.1 < 4294967296:=by
 unfold ZbS
 split
 ·split
  · exact ⟨hn,by show 0 < 4294967296; omega⟩
  · exact ⟨hn,Nat.mod_lt _ (by omega)⟩
 ·split
  · exact ⟨by show 0 < 4294967296; omega,by show 0 < 4294967296; omega⟩
  ·split
   · exact ⟨by show 0 < 4294967296; omega,by show 0 < 4294967296; omega⟩
   ·split
    · exact ⟨by show 0 < 4294967296; omega,by show 0 < 4294967296; omega⟩
    ·refine ⟨hh,?_⟩
     have h1:s ||| 2 ^ (h - n - 1) < 2 ^ 32:=Nat.or_lt_two_pow (by omega) (by have:=pow32 (d:=h - n - 1) (by omega); omega)
     show s ||| 2 ^ (h - n - 1) < 4294967296
     omega
end Go.Proofs.YtfbkkmnkpjgciaaGreat
