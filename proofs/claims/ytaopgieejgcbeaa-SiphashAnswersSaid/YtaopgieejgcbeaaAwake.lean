/- The sanity check of the laws: it returns true. -/
import Derived.Test.YtaopgieejgcbeaaRSum
import Derived.Test.YtaopgieejgcbeaaMem
namespace Go.Proofs.Ytaopgieejgcbeaa
open Go.RowKit
def keyL (k : Nat) : List UInt8 := (List.range 16).map fun j => if j < k then UInt8.ofNat j else 0
theorem keyL_step (k : Nat) (h : k < 16) : (bsV (keyL k)).toArray.setIfInBounds k (.int .u8 (k : Int)) = (bsV (keyL (k + 1))).toArray := by
  have : k = 0 ∨ k = 1 ∨ k = 2 ∨ k = 3 ∨ k = 4 ∨ k = 5 ∨ k = 6 ∨ k = 7 ∨ k = 8 ∨ k = 9 ∨ k = 10 ∨ k = 11 ∨ k = 12 ∨ k = 13 ∨ k = 14 ∨ k = 15 := by omega
  rcases this with rfl | rfl | rfl | rfl | rfl | rfl | rfl | rfl | rfl | rfl | rfl | rfl | rfl | rfl | rfl | rfl <;> rfl
def upL (k : Nat) : List UInt8 := (List.range k).map UInt8.ofNat
theorem upL_step (k : Nat) (h : k < 256) : bsV (upL (k + 1)) = bsV (upL k) ++ [.int .u8 (k : Int)] := by
  unfold upL bsV
  rw [List.range_succ, List.map_append, List.map_append]
  congr 1
  simp
  omega
theorem info_u8 : (Try.prog.info? 5).map (fun i => (i.zero, i.size, i.bytes)) = some (some (.int .u8 0), 1, 1) := by kernel_rfl
theorem example_sum : sumF (keyL 16) (upL 15) = 11613035633349379557 := by decide +kernel
set_option maxHeartbeats 1000000 in
theorem awake_any (w : World) : Calls Try.prog 7 #[] w fun e w' => e = .returned (.bool true) ∧ Below w.heap.size w w' := by
  obtain ⟨i0, hi, hz0, hz1, hz2⟩ := info_parts info_u8
  go_enter Try.func7, Try.ntmps7
  go_wp2_with fail
  go_loopw [3] (fun x wr => ∃ k : Nat, k ≤ 16 ∧ x = .int .i64 k ∧ Blk wr w.heap.size 23 (bsV (keyL k)).toArray ∧ Below w.heap.size w wr) (fun x _ => 16 - (intOf x).toNat)
  case atStart => exact ⟨0, by omega, rfl, Blk.new w _ _, (Below.refl _ _).alloc (Nat.le_refl _) _⟩
  case round =>
    obtain ⟨k, hk, rfl, hb, hg⟩ := hrel
    by_cases hlt : k < 16
    · obtain ⟨u, hu⟩ : ∃ u, wr.cell? ⟨w.heap.size, k, none⟩ = some u := by
        rw [hb.cell]
        exact ⟨_, Array.getElem?_eq_getElem (by simp [keyL]; exact hlt)⟩
      have hf := hb.frozen k
      have HB := hide (hb.set_ k (.int .u8 (k : Int)))
      clear hb
      go_wp2_with fail
      go_roundw
      case rel => exact ⟨k + 1, by omega, by go_num, by rw [← keyL_step k hlt]; exact unhide HB, hg.setCell (p := ⟨w.heap.size, k, none⟩) (Nat.le_refl _) _⟩
      case measure => simp [intOf]; omega
    · obtain rfl : k = 16 := by omega
      rw [show ((16 : Nat) : Int) = 16 from rfl]
      have HB := hide hb
      clear hb
      go_wp2_with fail
      go_loopw [2, 4] (fun v x wx => ∃ k : Nat, k ≤ 15 ∧ x = .int .i64 k ∧ wx.ownsRow (w.heap.size + 1) 5 1 v k (bsV (upL k)) ∧ Blk wx w.heap.size 23 (bsV (keyL 16)).toArray ∧ Below w.heap.size w wx) (fun _ x _ => 15 - (intOf x).toNat)
      case atStart => exact ⟨0, by omega, rfl, ⟨by simp [upL, bsV], .inl ⟨rfl, by simp⟩⟩, unhide HB, hg⟩
      case round =>
        obtain ⟨k, hk, rfl, hown, hb, hg2⟩ := hrel
        have hsz := hg2.size
        have hlt0 := hb.lt
        by_cases hlt : k < 15
        · have HO := hide hown
          have HB2 := hide hb
          have HG2 := hide hg2
          clear hown hb hg2
          go_wp2_with (at_builtin; refine wpList_append1 _ rfl (.tmp 17) (.tmp 20) 24 rfl (w.heap.size + 1) 5 i0 _ 1 Try.underlying24 hi hz0 hz1 hz2 rfl _ k (bsV (upL k)) rfl (unhide HO) _ rfl (by rfl) (by unfold maxLen; omega) (by omega) (by omega) ?_; intro v' w1 hown1 hbel1)
          go_roundw
          case rel =>
            refine ⟨k + 1, by omega, by go_num, ?_, (unhide HB2).below (hbel1.mono ?_) (Nat.lt_succ_self _), (unhide HG2).trans (hbel1.mono (by omega))⟩
            · rw [upL_step k (by omega)]; exact hown1
            · omega
          case measure => simp [intOf]; omega
        · obtain rfl : k = 15 := by omega
          rw [show ((15 : Nat) : Int) = 15 from rfl]
          have hsm := sum_any (keyL 16) (upL 15) (by simp [keyL])
          have HB2 := hide hb
          have HS := hide hsm
          have HO := hide hown
          clear hb hsm hown
          obtain ⟨A, c, rfl, hAc, hcm⟩ := slice_of_own (unhide HO)
          go_wp2_with (refine wpList_load_row rfl 23 _ rfl w.heap.size rfl 23 _ _ _ (unhide HB2) Try.underlying23 rfl (by kernel_rfl) ?_)
          refine (unhide HS _ _ _ _ ((Reads.of_own (unhide HO))) hAc hcm).mono ?_
          rintro e w1 ⟨rfl, hl1⟩
          have hex := example_sum
          have hg3 := hide (hg2.trans (hl1.mono hg2.size))
          clear hl1 hg2
          rw [hex]
          clear hex
          go_wp2_with fail
          go_ret
          exact ⟨rfl, unhide hg3⟩
end Go.Proofs.Ytaopgieejgcbeaa
