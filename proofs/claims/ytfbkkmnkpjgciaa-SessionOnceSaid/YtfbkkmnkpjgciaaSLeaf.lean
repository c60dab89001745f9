/- session: level, time, sendable, New, equal. -/
import Derived.Test.YtfbkkmnkpjgciaaSLittle
import Derived.BigQuiet
import Derived.Test.YtfbkkmnkpjgciaaRow
import Derived.Test.YtfbkkmnkpjgciaaHEnd
namespace Go.Proofs.Ytfbkkmnkpjgciaa
open Go.RowKit
theorem level_sx (w : World) (n : Int) (r : Bool) (hr : decide (1 ≤ n ∧ n ≤ 3) = r) : Calls Try.prog 25 #[.int .i64 n] w fun e w' => e = .returned (.bool r) ∧ w = w' := by
  by_cases h1 : 1 ≤ n
  · by_cases h2 : n ≤ 3
    · obtain rfl : true = r := by rw [← hr]; simp; omega
      clear hr
      go_enter Try.func25, Try.ntmps25
      go_wp2_with fail
      go_ret
      exact ⟨rfl, rfl⟩
    · obtain rfl : false = r := by rw [← hr]; simp; omega
      clear hr
      go_enter Try.func25, Try.ntmps25
      go_wp2_with fail
      go_ret
      exact ⟨rfl, rfl⟩
  · obtain rfl : false = r := by rw [← hr]; simp; omega
    clear hr
    go_enter Try.func25, Try.ntmps25
    go_wp2_with fail
    go_ret
    exact ⟨rfl, rfl⟩
theorem time_sx (w : World) (n : Int) (r : Bool) (hr : decide (0 ≤ n ∧ n ≤ 17179869184) = r) : Calls Try.prog 24 #[.int .i64 n] w fun e w' => e = .returned (.bool r) ∧ w = w' := by
  by_cases h1 : 0 ≤ n
  · by_cases h2 : n ≤ 17179869184
    · obtain rfl : true = r := by rw [← hr]; simp; omega
      clear hr
      go_enter Try.func24, Try.ntmps24
      go_wp2_with fail
      go_ret
      exact ⟨rfl, rfl⟩
    · obtain rfl : false = r := by rw [← hr]; simp; omega
      clear hr
      go_enter Try.func24, Try.ntmps24
      go_wp2_with fail
      go_ret
      exact ⟨rfl, rfl⟩
  · obtain rfl : false = r := by rw [← hr]; simp; omega
    clear hr
    go_enter Try.func24, Try.ntmps24
    go_wp2_with fail
    go_ret
    exact ⟨rfl, rfl⟩
/-- why data cannot be sent -/
def sendF (kind : Int) (n : Nat) (out : Int) : Int := if kind ≠ 0 ∧ kind ≠ 1 then 2 else if 256 < n ∨ out = 4294967295 then 3 else 0
theorem sendable_sx (w : World) (kind : Int) (A : Option Addr) (n c : Nat) (out : Int) (x : Int) (hx : sendF kind n out = x) : Calls Try.prog 35 #[.int .i64 kind, .slice A n c, .int .u32 out] w
    fun e w' => e = .returned (.int .i64 x) ∧ w = w' := by
  by_cases k0 : kind = 0
  · subst k0
    by_cases h1 : 256 < n
    · obtain rfl : 3 = x := by rw [← hx]; simp [sendF, h1]
      clear hx
      go_enter Try.func35, Try.ntmps35
      go_wp2_with fail
      go_ret
      exact ⟨rfl, rfl⟩
    · by_cases h2 : out = 4294967295
      · subst h2
        obtain rfl : 3 = x := by rw [← hx]; simp [sendF]
        clear hx
        go_enter Try.func35, Try.ntmps35
        go_wp2_with fail
        go_ret
        exact ⟨rfl, rfl⟩
      · obtain rfl : 0 = x := by rw [← hx]; simp [sendF, h1, h2]
        clear hx
        have h2 : (out == 4294967295) = false := by simpa using h2
        go_enter Try.func35, Try.ntmps35
        go_wp2_with fail
        go_ret
        exact ⟨rfl, rfl⟩
  · by_cases k1 : kind = 1
    · subst k1
      by_cases h1 : 256 < n
      · obtain rfl : 3 = x := by rw [← hx]; simp [sendF, h1]
        clear hx
        go_enter Try.func35, Try.ntmps35
        go_wp2_with fail
        go_ret
        exact ⟨rfl, rfl⟩
      · by_cases h2 : out = 4294967295
        · subst h2
          obtain rfl : 3 = x := by rw [← hx]; simp [sendF]
          clear hx
          go_enter Try.func35, Try.ntmps35
          go_wp2_with fail
          go_ret
          exact ⟨rfl, rfl⟩
        · obtain rfl : 0 = x := by rw [← hx]; simp [sendF, h1, h2]
          clear hx
          have h2 : (out == 4294967295) = false := by simpa using h2
          go_enter Try.func35, Try.ntmps35
          go_wp2_with fail
          go_ret
          exact ⟨rfl, rfl⟩
    · obtain rfl : 2 = x := by rw [← hx]; simp [sendF, k0, k1]
      clear hx
      have k2 : (kind != 0) = true := by simpa using k0
      have k3 : (kind != 1) = true := by simpa using k1
      go_enter Try.func35, Try.ntmps35
      go_wp2_with fail
      go_ret
      exact ⟨rfl, rfl⟩
set_option maxRecDepth 100000 in
theorem new_sx (w : World) : Calls Try.prog 12 #[] w fun e w' => e = .returned (.agg #[.slice none 0 0, .int .u32 1]) ∧ Below w.heap.size w w' := by
  have HZ := hide (Blk.new w 53 #[.slice none 0 0, .int .u32 0])
  have HB := hide ((Below.refl w.heap.size w).alloc (Nat.le_refl _) (.cells #[.slice none 0 0, .int .u32 0] 53))
  have one : ∀ v ∈ (#[Value.slice none 0 0, .int .u32 1] : Array Value).toList, v.oneCell' = true := by intro v hv; simp at hv; rcases hv with rfl | rfl <;> rfl
  go_enter Try.func12, Try.ntmps12
  go_wp2_with (first
    | (refine wpList_store_blk rfl 53 (.tmp 0) (.tmp 1) rfl w.heap.size 53 _ #[.slice none 0 0, .int .u32 1] rfl rfl (unhide HZ) rfl (by kernel_rfl) one ?_
       intro w9 hb9 hg9
       have Z9 := hide hb9
       have B9 := hide ((unhide HB).grown hg9 (by simp) (fun j e => by injection e with e; omega))
       clear hb9 hg9)
    | fail)
  exact bodyPost_ret (v := .agg #[.slice none 0 0, .int .u32 1]) (res1 rfl _ w.heap.size 53 _ _ rfl (unhide Z9) Try.underlying53 rfl (by kernel_rfl)) rfl ⟨rfl, unhide B9⟩
theorem bits8 (x y : Nat) (hx : x < 256) (hy : y < 256) : (BitVec.ofInt 8 (x : Int)).toNat = x ∧ (BitVec.ofInt 8 (y : Int)).toNat = y := by
  have e : ∀ a : Nat, a < 256 → (BitVec.ofInt 8 (a : Int)).toNat = a := fun a ha => by
    rw [BitVec.ofInt_natCast, BitVec.toNat_ofNat]; exact Nat.mod_eq_of_lt (by omega)
  exact ⟨e x hx, e y hy⟩
theorem or_u8 (x y : Nat) (hx : x < 256) (hy : y < 256) : bits .or .u8 (x : Int) (y : Int) = ((x ||| y : Nat) : Int) := by
  have hz : x ||| y < 2 ^ 8 := Nat.or_lt_two_pow (by omega) (by omega)
  show IntKind.u8.wrap ((BitVec.ofInt 8 (x : Int) ||| BitVec.ofInt 8 (y : Int)).toNat : Int) = _
  have e := bits8 x y hx hy
  rw [BitVec.toNat_or, e.1, e.2, IntKind.wrap_u8']
  omega
theorem xor_u8 (x y : Nat) (hx : x < 256) (hy : y < 256) : bits .xor .u8 (x : Int) (y : Int) = ((x ^^^ y : Nat) : Int) := by
  have hz : x ^^^ y < 2 ^ 8 := Nat.xor_lt_two_pow (by omega) (by omega)
  show IntKind.u8.wrap ((BitVec.ofInt 8 (x : Int) ^^^ BitVec.ofInt 8 (y : Int)).toNat : Int) = _
  have e := bits8 x y hx hy
  rw [BitVec.toNat_xor, e.1, e.2, IntKind.wrap_u8']
  omega
theorem or_zero (x y : Nat) : x ||| y = 0 ↔ x = 0 ∧ y = 0 := by
  constructor
  · intro h
    refine ⟨?_, ?_⟩
    · have := @Nat.left_le_or x y; omega
    · have := @Nat.right_le_or x y; omega
  · rintro ⟨rfl, rfl⟩; rfl
theorem xor_zero (x y : Nat) : x ^^^ y = 0 ↔ x = y := by
  constructor
  · intro h
    have := congrArg (· ^^^ y) h
    simpa [Nat.xor_assoc] using this
  · rintro rfl; simp
/-- one byte more of a comparison -/
theorem diff_step (v : Nat) (hv : v < 256) (xs ys : List UInt8) (k : Nat) (a b : UInt8) (ha : xs[k]? = some a) (hb : ys[k]? = some b) (h : v = 0 ↔ xs.take k = ys.take k) :
    ∃ u : Nat, u < 256 ∧ bits .or .u8 (v : Int) (bits .xor .u8 (a.toNat : Int) (b.toNat : Int)) = (u : Int) ∧ (u = 0 ↔ xs.take (k + 1) = ys.take (k + 1)) := by
  have hxl : a.toNat ^^^ b.toNat < 2 ^ 8 := Nat.xor_lt_two_pow (by have := a.toNat_lt; omega) (by have := b.toNat_lt; omega)
  refine ⟨v ||| (a.toNat ^^^ b.toNat), ?_, ?_, ?_⟩
  · have : v ||| (a.toNat ^^^ b.toNat) < 2 ^ 8 := Nat.or_lt_two_pow (by omega) hxl
    omega
  · rw [xor_u8 _ _ (by have := a.toNat_lt; omega) (by have := b.toNat_lt; omega), or_u8 _ _ hv (by omega)]
  · rw [or_zero, xor_zero, h, take_snoc ha, take_snoc hb]
    have ka : (xs.take k).length = k := by rw [List.length_take]; have := (List.getElem?_eq_some_iff.1 ha).1; omega
    have kb : (ys.take k).length = k := by rw [List.length_take]; have := (List.getElem?_eq_some_iff.1 hb).1; omega
    constructor
    · rintro ⟨h1, h2⟩
      rw [h1, UInt8.toNat_inj.1 h2]
    · intro h1
      have := List.append_inj h1 (by omega)
      refine ⟨this.1, ?_⟩
      have h2 := this.2
      injection h2 with h2 _
      rw [h2]
set_option maxRecDepth 100000 in
set_option maxHeartbeats 4000000 in
theorem equal_sx (w : World) (n : Nat) (A A' : Option Addr) (c c' : Nat) (xs ys : List UInt8) (B : Nat) (ha : Reads w B 1 A n (bsV xs)) (hb : Reads w B 1 A' n (bsV ys)) (hn : n ≤ 1000) (r : Bool) (hr : decide (xs = ys) = r) :
    Calls Try.prog 33 #[.slice A n c, .slice A' n c'] w fun e w' => e = .returned (.bool r) ∧ Below w.heap.size w w' := by
  have hx0 : bits .xor .i64 (n : Int) (n : Int) = 0 := by
    show IntKind.i64.wrap ((BitVec.ofInt 64 (n : Int) ^^^ BitVec.ofInt 64 (n : Int)).toNat : Int) = _
    rw [BitVec.xor_self]; rfl
  have hlx : xs.length = n := by have := ha.1; simpa using this
  have hly : ys.length = n := by have := hb.1; simpa using this
  have HR := hide (show xs = ys ↔ r = true by rw [← hr]; simp)
  have HLX := Lib.hid hlx
  have HLY := Lib.hid hly
  clear hlx hly hr
  go_enter Try.func33, Try.ntmps33
  go_wp2_with fail
  go_loopw [5, 6] (fun d i wr => ∃ k v : Nat, k ≤ n ∧ v < 256 ∧ i = .int .i64 k ∧ d = .int .u8 (v : Int) ∧ Hid (v = 0 ↔ xs.take k = ys.take k) ∧ Below w.heap.size w wr ∧ Reads wr B 1 A n (bsV xs) ∧ Reads wr B 1 A' n (bsV ys)) (fun _ i _ => n - (intOf i).toNat)
  case atStart => exact ⟨0, 0, by omega, by omega, rfl, rfl, hide (by simp), Below.refl _ _, ha, hb⟩
  case round =>
    obtain ⟨k, v, hk, hv, rfl, rfl, HV, hg, hra, hrb⟩ := hrel
    by_cases hlt : k < n
    · have RA := hide hra
      have RB := hide hrb
      have HG := hide hg
      obtain ⟨ad, u, rfl, had, hx, hc⟩ := hra.at_ hlt
      obtain ⟨ad', u', rfl, had', hx', hc'⟩ := hrb.at_ hlt
      obtain ⟨a, ga, rfl, a0, a1⟩ := bsV_get hx
      obtain ⟨b, gb, rfl, b0, b1⟩ := bsV_get hx'
      obtain ⟨z, hz, ez, iz⟩ := diff_step v hv xs ys k a b ga gb (unhide HV)
      have IZ := hide iz
      clear ga gb hx hx' iz hra hrb ha hb hg HV
      go_wp2_with fail
      go_quiet (fail)
      go_wp2_with fail
      go_roundw
      case rel => exact ⟨k + 1, z, by omega, by omega, by go_num, rfl, IZ, below_drewN (unhide HG) _, (unhide RA).drewN _, (unhide RB).drewN _⟩
      case measure => simp [intOf]; omega
    · obtain rfl : k = n := by omega
      have HG := hide hg
      have hv0 : v = 0 ↔ r = true := by
        rw [unhide HV, List.take_of_length_le (by rw [HLX.out]; omega), List.take_of_length_le (by rw [HLY.out]; omega)]
        exact unhide HR
      have hvr : ((v : Int) == 0) = r := by
        cases r with
        | true => simpa using hv0
        | false => simpa using hv0
      clear hra hrb ha hb hg HV hv0
      go_wp2_with fail
      go_ret
      exact ⟨rfl, unhide HG⟩
end Go.Proofs.Ytfbkkmnkpjgciaa
