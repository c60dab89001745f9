/- The reference's Digits: the decimal digits. No condition. -/
import Derived.Test.YtbcbleonpaemgaaDoorEDec
import Derived.Test.YtbcbleonpaemgaaDoorVRefA
import Derived.Test.YtbcbleonpaemgaaDoorConv
namespace Go.Proofs.YtbcbleonpaemgaaDoor
open Go.RowKit
theorem app2s (a b : List UInt8) : (⟨a.toArray⟩ : ByteArray) ++ ⟨b.toArray⟩ = ⟨(a ++ b).toArray⟩ := by
  apply ByteArray.ext
  simp
set_option maxRecDepth 100000 in
set_option maxHeartbeats 2000000 in
theorem rdig_any (w : World) (V : Nat) (hV : V < 1000) (D : List UInt8) (hD : Lib.decDigits V = D) :
    Calls Tryd.prog 31 #[.int .i64 (V : Int)] w fun e w' => e = .returned (.string ⟨D.toArray⟩) ∧ Below w.heap.size w w' := by
  have HD := hide hD
  clear hD
  go_enter Tryd.func31, Tryd.ntmps31
  go_wp2_with fail
  go_loopw [0, 3] (fun x y wr => ∃ (v : Nat) (s : List UInt8), v < 1000 ∧ x = .int .i64 v ∧ y = .string ⟨s.toArray⟩ ∧ Hid (Lib.decDigits v ++ s = D) ∧ Below w.heap.size w wr) (fun x _ _ => (intOf x).toNat)
  case atStart => exact ⟨V, [], hV, rfl, rfl, hide (by rw [List.append_nil]; exact unhide HD), Below.refl _ _⟩
  case round =>
    obtain ⟨v, s, hv, rfl, rfl, hs, hB⟩ := hrel
    have BB := hide hB
    have hsl : s.length ≤ 3 := by
      have h1 := congrArg List.length (unhide hs)
      have h2 := congrArg List.length (unhide HD)
      have h3 := dd_len 2 V (by omega)
      rw [List.length_append] at h1
      omega
    have hm : (v : Int).tmod 10 = ((v % 10 : Nat) : Int) := by rw [Int.tmod_eq_emod_of_nonneg (by omega)]; omega
    have hq : (v : Int).tdiv 10 = ((v / 10 : Nat) : Int) := by rw [Int.tdiv_eq_ediv_of_nonneg (by omega)]; omega
    have hbig : ¬ v < 10 → Lib.decDigits (v / 10) ++ UInt8.ofNat (48 + v % 10) :: s = D := fun h => by
      rw [← unhide hs, dd_big v h, List.append_assoc]
      rfl
    have hsmall : v < 10 → UInt8.ofNat (48 + v % 10) :: s = D := fun h => by
      rw [← unhide hs, dd_small v h, Nat.mod_eq_of_lt h]
      rfl
    have hd10 : v % 10 < 10 := by omega
    have hcn : (UInt8.ofNat (48 + v % 10)).toNat = 48 + v % 10 := by simp; omega
    have hqq : v / 10 < 1000 := by omega
    have hlt0 : v < 10 ↔ v / 10 = 0 := by omega
    have hv10 : ¬ v < 10 → v / 10 < v := by omega
    generalize v / 10 = q at hq hbig hqq hlt0 hv10
    generalize v % 10 = d at hm hbig hsmall hd10 hcn
    have w8 : IntKind.u8.wrap (48 + (d : Int)) = 48 + (d : Int) := IntWalk.u8_in _ (by omega)
    obtain ⟨c, hc⟩ : ∃ c, UInt8.ofNat (48 + d) = c := ⟨_, rfl⟩
    rw [hc] at hbig hsmall hcn
    have hci : (48 + (d : Int)) = (c.toNat : Int) := by omega
    have HB := hide hbig
    have HS := hide hsmall
    have hrd : Reads (wr.alloc (.cells #[.int .u8 (c.toNat : Int)] 5)) (wr.heap.size + 1) 1 (some ⟨wr.heap.size, 0, none⟩) 1 (bsV [c]) := by
      have := Reads.of_blk (Blk.new wr 5 #[Value.int .u8 (c.toNat : Int)]) 0 1 (by simp) (Nat.lt_succ_self wr.heap.size)
      simpa [bsV] using this
    have hcv := run_bytes_str (P := Tryd.prog) (c := 1) hrd 22 9 5 Tryd.underlying22 Tryd.underlying5 Tryd.underlying9
    rw [← hci] at hcv
    have hz2 : ((⟨s.toArray⟩ : ByteArray)).size ≤ 3 := by simpa [ByteArray.size] using hsl
    have B2 := hide (hB.alloc hB.size (.cells #[.int .u8 (48 + (d : Int))] 5))
    clear hbig hsmall hcn hc hrd hB hci
    by_cases h10 : v < 10
    · have hq0 : q = 0 := hlt0.1 h10
      have hqz : ((q : Int) == 0) = true := by simp; omega
      have HQ := hide hq0
      have HT := hide h10
      clear hq0 h10 hlt0 hv10
      go_wp2_with fail
      go_ret
      refine ⟨?_, unhide B2⟩
      rw [show (⟨#[c]⟩ : ByteArray) = ⟨[c].toArray⟩ from rfl, app2s]
      rw [← unhide HS (unhide HT)]
      rfl
    · have hqz : ((q : Int) == 0) = false := by simp; omega
      have hvq := hv10 h10
      have HT := hide h10
      clear h10 hlt0 hv10
      go_wp2_with fail
      go_roundw
      case rel =>
        refine ⟨q, c :: s, by omega, rfl, ?_, hide (unhide HB (unhide HT)), unhide B2⟩
        rw [show (⟨#[c]⟩ : ByteArray) = ⟨[c].toArray⟩ from rfl, app2s]
        rfl
      case measure => simp [intOf]; omega
end Go.Proofs.YtbcbleonpaemgaaDoor
