/- The law SiphashReturns, walked: it returns true; nothing that was there turns. -/
import Derived.Test.YtaopgieejgcbeaaOpens
import Derived.Test.YtaopgieejgcbeaaAwake
import Derived.Test.YtaopgieejgcbeaaLePlain
import Derived.Test.YtaopgieejgcbeaaConv
import Derived.Test.YtaopgieejgcbeaaOpen
namespace Go.Proofs.Ytaopgieejgcbeaa
open Go.RowKit
theorem slice_at {w : World} {base : Nat} {e : TypeId} {size n : Nat} {v : Value} {xs : List Value} (h : w.ownsRow base e size v n xs) (hn : 0 < n) : ∃ g c, v = .slice (some ⟨g, 0, none⟩) n c ∧ n ≤ c ∧ c ≤ maxLen := by
  rcases h.2 with ⟨rfl, rfl⟩ | ⟨g, cap, cur, rfl, _, _, hc, hm, _⟩
  · omega
  · exact ⟨g, cap, rfl, hc, hm⟩
set_option maxRecDepth 100000 in
set_option maxHeartbeats 2000000 in
theorem returns_long (w : World) (ks : List UInt8) (A : Option Addr) (n c : Nat) (at_ y : Int) (hlen : 3000 < n) :
    Calls Try.prog 5 #[.agg (bsV ks).toArray, .slice A n c, .int .u8 at_, .int .u8 y] w fun e w' => e = .returned (.bool true) ∧ Below w.heap.size w w' := by
  have HA := hide awake_any
  go_enter Try.func5, Try.ntmps5
  go_wp2_with fail
  refine (unhide HA _).mono ?_
  rintro e w1 ⟨rfl, hb1⟩
  have HB1 := hide (((Below.refl w.heap.size w).alloc (Nat.le_refl _) (.cells (bsV ks).toArray 23)).trans (hb1.mono (by rw [size_alloc]; omega)))
  clear hb1
  go_wp2_with fail
  go_ret
  exact ⟨rfl, unhide HB1⟩
set_option maxRecDepth 100000 in
set_option maxHeartbeats 2000000 in
theorem returns_short (w : World) (ks : List UInt8) (hk : ks.length = 16) (A : Option Addr) (n c : Nat) (bs : List UInt8) (hn : n ≤ c) (hc : c ≤ maxLen) (hr : Reads w w.heap.size 1 A n (bsV bs)) (at_ : Nat) (hat : at_ < 256) (y : UInt8) (hlen : n ≤ 3000) :
    Calls Try.prog 5 #[.agg (bsV ks).toArray, .slice A n c, .int .u8 (at_ : Int), .int .u8 (y.toNat : Int)] w fun e w' => e = .returned (.bool true) ∧ Below w.heap.size w w' := by
  have HR := hide hr
  have HK := hide hk
  have HC := hide hc
  have HA := hide awake_any
  clear hr hk hc
  go_enter Try.func5, Try.ntmps5
  go_wp2_with fail
  refine (unhide HA _).mono ?_
  rintro e w1 ⟨rfl, hb1⟩
  have hs1 := hb1.size
  have HKB := hide ((Blk.new w 23 (bsV ks).toArray).below hb1 (by rw [size_alloc]; omega))
  have hbel := ((Below.refl w.heap.size w).alloc (Nat.le_refl _) (.cells (bsV ks).toArray 23)).trans (hb1.mono (by rw [size_alloc]; omega))
  have HB1 := hide hbel
  have HR1 := hide (((unhide HR).below hbel).more (B' := w1.heap.size) hbel.size)
  rw [size_alloc] at hs1
  clear hb1 hbel
  go_wp2_with (refine wpList_load_row rfl 23 _ rfl w.heap.size rfl 23 _ _ _ (unhide HKB) Try.underlying23 rfl (key_size (unhide HK)) ?_)
  refine (seal_any ks bs (unhide HK) A n c w1 (unhide HR1) hn (unhide HC) (by omega)).mono ?_
  rintro e w2 ⟨v, rfl, hown, hb2⟩
  have hs2 := hb2.size
  obtain ⟨g, c2, rfl, hc2, hm2⟩ := slice_at hown (by omega)
  have hrd := Reads.of_own hown
  have HO2 := hide hown
  have HKB2 := hide ((unhide HKB).below hb2 (by omega))
  have HB2 := hide ((unhide HB1).trans (hb2.mono (unhide HB1).size))
  have HR2 := hide ((unhide HR1).below hb2)
  have hbv : bsV bs ++ bsV (leB (sumF ks bs) 8) = bsV (bs ++ leB (sumF ks bs) 8) := by simp [bsV]
  rw [hbv] at hrd
  have HRD := hide hrd
  clear hb2 hown hrd hbv
  go_wp2_with (refine wpList_load_row rfl 23 _ rfl w.heap.size rfl 23 _ _ _ (unhide HKB2) Try.underlying23 rfl (key_size (unhide HK)) ?_)
  have hnb : bs.length = n := by have := (unhide HR1).1; simpa using this
  have HNB := hide hnb
  refine (open_long ks (bs ++ leB (sumF ks bs) 8) (unhide HK) (some ⟨g, 0, none⟩) n c2 w2 (unhide HRD) hc2 hm2 (by omega) true (open_sealed ks bs n hnb)).mono ?_
  clear hnb
  rintro e w3 ⟨hb3, v3, rfl, hown3⟩
  have hs3 := hb3.size
  obtain ⟨A3, c3, rfl, hc3, hm3⟩ := slice_of_own hown3
  have e3 : (bs ++ leB (sumF ks bs) 8).take n = bs := List.take_left' HNB.out
  rw [e3] at hown3
  clear e3
  have hcv1 := run_bytes_str (c := c3) (Reads.of_own hown3) 24 9 5 Try.underlying24 Try.underlying5 Try.underlying9
  have hcv2 := run_bytes_str (c := c) (((unhide HR2).below (hb3.mono hs2)).more (B' := w3.heap.size) (by omega)) 24 9 5 Try.underlying24 Try.underlying5 Try.underlying9
  have HO3 := hide (own_below (unhide HO2) hb3)
  have HKB3 := hide ((unhide HKB2).below hb3 (by omega))
  have HB3 := hide ((unhide HB2).trans (hb3.mono (unhide HB2).size))
  clear hb3 hown3
  obtain ⟨b, hb⟩ : ∃ b, (bs ++ leB (sumF ks bs) 8)[n + at_ % 8]? = some b := ⟨_, List.getElem?_eq_getElem (by rw [List.length_append, leB_len, HNB.out]; omega)⟩
  have HBY := Lib.hid hb
  have hcell : w3.cell? ⟨g, n + at_ % 8, none⟩ = some (.int .u8 (b.toNat : Int)) := by
    rw [(unhide HO3).cellAt _ (by omega)]
    have hbv : bsV bs ++ bsV (leB (sumF ks bs) 8) = bsV (bs ++ leB (sumF ks bs) 8) := by simp [bsV]
    rw [hbv, bsV, List.getElem?_map, hb]
    rfl
  have hfr := (unhide HO3).frozenAt (n + at_ % 8)
  have hxor : bits .xor .u8 (b.toNat : Int) (y.toNat : Int) = ((b ^^^ y).toNat : Int) := by
    rw [u8_xor_nat _ _ b.toNat_lt y.toNat_lt]
    simp
  have hm64 := hm2
  unfold maxLen at hm64
  have hi1 : (0 : Int) ≤ (n : Int) + (at_ : Int) % 8 := by omega
  have hi2 : (n : Int) + (at_ : Int) % 8 < (n : Int) + 8 := by omega
  have hgN : w1.heap.size ≤ g := own_ge (unhide HO2) g rfl
  have HKB4 := hide ((unhide HKB3).far (p := ⟨g, n + at_ % 8, none⟩) (show w.heap.size ≠ g by omega) (.int .u8 ((b.toNat ^^^ y.toNat : Nat) : Int)))
  have HO4 := hide ((unhide HO3).stored (n + at_ % 8) (.int .u8 ((b.toNat ^^^ y.toNat : Nat) : Int))).1
  have HB4 := hide ((unhide HB3).setCell (p := ⟨g, n + at_ % 8, none⟩) (show w.heap.size ≤ g by omega) (.int .u8 ((b.toNat ^^^ y.toNat : Nat) : Int)))
  have hrd4 := Reads.of_own (unhide HO4)
  have hbv4 : (bsV bs ++ bsV (leB (sumF ks bs) 8)).set (n + at_ % 8) (.int .u8 ((b.toNat ^^^ y.toNat : Nat) : Int)) = bsV ((bs ++ leB (sumF ks bs) 8).set (n + at_ % 8) (b ^^^ y)) := by
    simp [bsV, List.map_set]
  rw [hbv4] at hrd4
  have HRD4 := hide hrd4
  clear hb hrd4 hbv4
  go_wp2_with (first | (refine wpList_load_row rfl 23 _ rfl w.heap.size rfl 23 _ _ _ (unhide HKB4) Try.underlying23 rfl (key_size (unhide HK)) ?_))
  have hop := open_long ks ((bs ++ leB (sumF ks bs) 8).set (n + at_ % 8) (b ^^^ y)) (unhide HK) (some ⟨g, 0, none⟩) n c2 _ (unhide HRD4) hc2 hm2 (by omega) (y == 0) (open_turned ks bs n (at_ % 8) HNB.out (by omega) y b HBY.out)
  refine hop.mono ?_
  clear hop
  rintro e w5 ⟨hb5, hp5⟩
  have HB5 := hide ((unhide HB4).trans (hb5.mono (unhide HB4).size))
  by_cases hy : y = 0
  · subst hy
    simp only [beq_self_eq_true] at hp5
    obtain ⟨v5, rfl, _⟩ := hp5
    clear hb5
    go_wp2_with fail
    go_ret
    exact ⟨rfl, unhide HB5⟩
  · have hyb : (y == 0) = false := by simpa using hy
    rw [hyb] at hp5
    obtain rfl := hp5
    have hy2 : ¬ (y.toNat : Int) = 0 := fun h => hy (UInt8.toNat_inj.1 (by simpa using h))
    have hy3 : (((y.toNat : Int)) == 0) = false := by simpa using hy2
    clear hb5 hy hyb
    go_wp2_with fail
    go_ret
    exact ⟨rfl, unhide HB5⟩
theorem returns_walk (w : World) (ks : List UInt8) (hk : ks.length = 16) (A : Option Addr) (n c : Nat) (bs : List UInt8) (hn : n ≤ c) (hc : c ≤ maxLen) (hr : Reads w w.heap.size 1 A n (bsV bs)) (at_ : Int) (hat : 0 ≤ at_ ∧ at_ ≤ 255) (y : Int) (hy : 0 ≤ y ∧ y ≤ 255) :
    Calls Try.prog 5 #[.agg (bsV ks).toArray, .slice A n c, .int .u8 at_, .int .u8 y] w fun e w' => e = .returned (.bool true) ∧ Below w.heap.size w w' := by
  by_cases h : 3000 < n
  · exact returns_long w ks A n c at_ y h
  · obtain ⟨k, rfl⟩ := Int.eq_ofNat_of_zero_le hat.1
    have e : y = ((toB y).toNat : Int) := (toB_of hy.1 (by omega)).symm
    rw [e]
    exact returns_short w ks hk A n c bs hn hc hr k (by omega) (toB y) (by omega)
end Go.Proofs.Ytaopgieejgcbeaa
