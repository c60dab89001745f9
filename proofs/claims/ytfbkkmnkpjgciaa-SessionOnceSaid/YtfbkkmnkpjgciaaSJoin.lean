/- session.joined: a first byte and pieces, one behind the other, in new memory. -/
import Derived.Test.YtfbkkmnkpjgciaaSLittle
import Derived.Test.YtfbkkmnkpjgciaaApp
import Derived.Test.YtfbkkmnkpjgciaaSSeal
namespace Go.Proofs.Ytfbkkmnkpjgciaa
open Go.RowKit
/-- the pieces as they lie in memory -/
def Pieces (w : World) (B : Nat) (V : List Value) (L : List (List UInt8)) : Prop :=
  V.length = L.length ∧ ∀ (k : Nat) (l : List UInt8), L[k]? = some l → ∃ A m c, V[k]? = some (Value.slice A m c) ∧ m ≤ c ∧ c ≤ maxLen ∧ Reads w B 1 A m (bsV l)
def joinF (f : UInt8) (L : List (List UInt8)) : List UInt8 := f :: L.flatten
theorem join_snoc (f : UInt8) (L : List (List UInt8)) (k : Nat) (l : List UInt8) (h : L[k]? = some l) : joinF f (L.take (k + 1)) = joinF f (L.take k) ++ l := by
  rw [show L.take (k + 1) = L.take k ++ [l] from by rw [List.take_add_one, h]; rfl]
  simp [joinF]
theorem Pieces.below {w w' : World} {B : Nat} {V : List Value} {L : List (List UInt8)} (h : Pieces w B V L) (hb : Below B w w') : Pieces w' B V L :=
  ⟨h.1, fun k l hl => by
    obtain ⟨A, m, c, h1, h2, h3, h4⟩ := h.2 k l hl
    exact ⟨A, m, c, h1, h2, h3, (h4.keep (fun p hp => hb.cell hp))⟩⟩
set_option maxRecDepth 100000 in
set_option maxHeartbeats 4000000 in
theorem joined_sx (w : World) (f : UInt8) (A : Option Addr) (n c : Nat) (V : List Value) (L : List (List UInt8)) (B : Nat) (hB : B ≤ w.heap.size) (hr : Reads w B 1 A n V) (hp : Pieces w B V L) (hl : L.flatten.length ≤ 1000) (hn : n ≤ 100) :
    Calls Try.prog 21 #[.int .u8 (f.toNat : Int), .slice A n c] w
      fun e w' => ∃ v, e = .returned v ∧ w'.ownsRow w.heap.size 5 1 v (joinF f L).length (bsV (joinF f L)) ∧ Below w.heap.size w w' := by
  obtain ⟨i0, hi, hz0, hz1, hz2⟩ := info_parts info_b
  have hlen : V.length = n := by have := hr.1; simpa using this
  have hO : (w.alloc (.cells #[.int .u8 (f.toNat : Int)] 5)).ownsRow w.heap.size 5 1 (.slice (some ⟨w.heap.size, 0, none⟩) 1 1) 1 (bsV (joinF f (L.take 0))) :=
    ⟨by simp [joinF, bsV], .inr ⟨w.heap.size, 1, _, rfl, Nat.le_refl _, Blk.new w _ _, Nat.le_refl _, by simp [maxLen], by simp, by simp [joinF, bsV]⟩⟩
  have HO := hide hO
  have HR := hide hr
  have HP := hide hp
  have HLn := Lib.hid hlen
  have HL := hide hl
  clear hO hr hp hlen hl
  go_enter Try.func21, Try.ntmps21
  go_wp2_with fail
  go_loopw [5, 12] (fun v i wr => ∃ k : Nat, k ≤ n ∧ i = .int .i64 k ∧ wr.ownsRow w.heap.size 5 1 v (joinF f (L.take k)).length (bsV (joinF f (L.take k))) ∧ Below w.heap.size w wr) (fun _ i _ => n - (intOf i).toNat)
  case atStart => exact ⟨0, by omega, rfl, unhide HO, (Below.refl _ _).alloc (Nat.le_refl _) _⟩
  case round =>
    obtain ⟨k, hk, rfl, hown, hg⟩ := hrel
    by_cases hlt : k < n
    · have hkL : k < L.length := by have := (unhide HP).1; have := HLn.out; omega
      have hgl : L[k]? = some L[k] := List.getElem?_eq_getElem hkL
      obtain ⟨A', m, c', hv, hmc, hcm, hrl⟩ := ((unhide HP).below (hg.mono hB)).2 k _ hgl
      obtain ⟨l, hL⟩ : ∃ l, L[k] = l := ⟨_, rfl⟩
      rw [hL] at hgl hrl
      obtain ⟨ad, u, rfl, _, hx, hc⟩ := ((unhide HR).keep (fun p hp => hg.cell (by omega))).at_ hlt
      obtain rfl : Value.slice A' m c' = u := Option.some.inj (hv.symm.trans hx)
      have hm : m = l.length := by have := hrl.1; simp [bsV] at this; omega
      have hjs := join_snoc f L k l hgl
      have hjl : (joinF f (L.take k)).length + m ≤ 1001 := by
        have h1 : (joinF f (L.take (k + 1))).length ≤ 1 + L.flatten.length := by
          have e : L.flatten = (L.take (k + 1)).flatten ++ (L.drop (k + 1)).flatten := by rw [← List.flatten_append, List.take_append_drop]
          have e2 := congrArg List.length e
          rw [List.length_append] at e2
          simp [joinF] at e2 ⊢
          omega
        rw [hjs, List.length_append] at h1
        have := unhide HL
        omega
      have HJ := hide hjs
      have HM := hide hm
      have HO2 := hide hown
      have HG := hide hg
      have HRL := hide hrl
      have hgs := hg.size
      clear hown hg hrl hx hv hgl hL hjs hm
      go_wp2_with (first
        | (at_builtin; refine wpList_append_b wr (.tmp 16) (.tmp 17) 32 _ A' m c' rfl rfl rfl rfl w.heap.size 5 i0 (.int .u8 0) 1 Try.underlying32 hi hz0 hz1 hz2 rfl _ _ (unhide HO2) B _ (unhide HRL) (bsV_one l) (by unfold maxLen; omega) (by omega) hgs ?_
           intro v2 w2 ho2 hb2
           have HO3 := hide ho2
           have HB3 := hide hb2
           clear ho2 hb2)
        | fail)
      go_roundw
      case rel => exact ⟨k + 1, by omega, by go_num, by rw [unhide HJ, List.length_append, ← unhide HM, show bsV (joinF f (L.take k) ++ l) = bsV (joinF f (L.take k)) ++ bsV l by simp [bsV]]; exact unhide HO3, (unhide HG).trans (unhide HB3)⟩
      case measure => simp [intOf]; omega
    · obtain rfl : k = n := by omega
      have hall : L.take k = L := List.take_of_length_le (by have := (unhide HP).1; have := HLn.out; omega)
      rw [hall] at hown
      have HO2 := hide hown
      have HG := hide hg
      clear hown hg
      go_wp2_with fail
      go_ret
      exact ⟨_, rfl, unhide HO2, unhide HG⟩
end Go.Proofs.Ytfbkkmnkpjgciaa
