/- The law MicroWithin, walked: it returns true. -/
import Derived.Test.YtcebjipekodmpaaDoorMRoots
namespace Go.Proofs.YtcebjipekodmpaaDoor
open Go.RowKit
def Lim (v : Int) : Prop := -1000000000000 ≤ v ∧ v ≤ 1000000000000
theorem lim_div (a b : Int) : Lim (divF a b) := by
  unfold divF
  split
  · exact ⟨by omega, by omega⟩
  · exact clampF_bd _
theorem lim_root (a : Int) : Lim (rootF a) := by
  unfold rootF
  split
  · exact ⟨by omega, by omega⟩
  · obtain ⟨s1, s2⟩ := isq_spec (clampF a * 1000000).toNat
    have := clampF_bd a
    have := sq_le_bd (isq (clampF a * 1000000).toNat) (clampF a * 1000000).toNat 1000000000 s1 (by omega)
    exact ⟨by omega, by omega⟩
theorem six_at (v0 v1 v2 v3 v4 v5 : Int) (k : Nat) (hk : k < 6) (h0 : Lim v0) (h1 : Lim v1) (h2 : Lim v2) (h3 : Lim v3) (h4 : Lim v4) (h5 : Lim v5) :
    ∃ v, (#[Value.int .i64 v0, .int .i64 v1, .int .i64 v2, .int .i64 v3, .int .i64 v4, .int .i64 v5] : Array Value)[k]? = some (.int .i64 v) ∧ Lim v := by
  have : k = 0 ∨ k = 1 ∨ k = 2 ∨ k = 3 ∨ k = 4 ∨ k = 5 := by omega
  rcases this with rfl | rfl | rfl | rfl | rfl | rfl
  · exact ⟨v0, rfl, h0⟩
  · exact ⟨v1, rfl, h1⟩
  · exact ⟨v2, rfl, h2⟩
  · exact ⟨v3, rfl, h3⟩
  · exact ⟨v4, rfl, h4⟩
  · exact ⟨v5, rfl, h5⟩
set_option maxHeartbeats 1000000 in
theorem within_walk (w : World) (a : Int) (_wa : (Lit.int .i64 a).wf = true) (b : Int) (_wb : (Lit.int .i64 b).wf = true) (htab : Lib.TabIs Tryd.prog w "internal/strconv.uint64pow10" .u64 Lib.pow10Tab) :
    Calls Tryd.prog 9 #[.int .i64 a, .int .i64 b] w fun e w' => e = .returned (.bool true) ∧ Below w.heap.size w w' := by
  have HT := hide htab
  clear htab
  obtain ⟨v0, H0, l0⟩ : ∃ v, Hid (clampF a = v) ∧ Lim v := ⟨_, hide rfl, clampF_bd _⟩
  obtain ⟨v1, H1, l1⟩ : ∃ v, Hid (addF a b = v) ∧ Lim v := ⟨_, hide rfl, clampF_bd _⟩
  obtain ⟨v2, H2, l2⟩ : ∃ v, Hid (subF a b = v) ∧ Lim v := ⟨_, hide rfl, clampF_bd _⟩
  obtain ⟨v3, H3, l3⟩ : ∃ v, Hid (mulF a b = v) ∧ Lim v := ⟨_, hide rfl, clampF_bd _⟩
  obtain ⟨v4, H4, l4⟩ : ∃ v, Hid (divF a b = v) ∧ Lim v := ⟨_, hide rfl, lim_div a b⟩
  obtain ⟨v5, H5, l5⟩ : ∃ v, Hid (rootF a = v) ∧ Lim v := ⟨_, hide rfl, lim_root a⟩
  have HS := hide (fun k hk => six_at v0 v1 v2 v3 v4 v5 k hk l0 l1 l2 l3 l4 l5)
  clear l0 l1 l2 l3 l4 l5
  go_enter Tryd.func9, Tryd.ntmps9
  go_wp2_with fail
  refine (div_at _ a b v4 _ (unhide H4) rfl).mono ?_; rintro e w' ⟨rfl, rfl⟩; go_wp2_with fail
  refine (root_at _ a v5 _ (unhide H5) rfl).mono ?_; rintro e w' ⟨rfl, rfl⟩; go_wp2_with fail
  refine (clamp_at _ a v0 (unhide H0)).mono ?_; rintro e w' ⟨rfl, rfl⟩; go_wp2_with fail
  refine (add_at _ a b v1 (unhide H1)).mono ?_; rintro e w' ⟨rfl, rfl⟩; go_wp2_with fail
  refine (sub_at _ a b v2 (unhide H2)).mono ?_; rintro e w' ⟨rfl, rfl⟩; go_wp2_with fail
  refine (mul_at _ a b v3 (unhide H3)).mono ?_; rintro e w' ⟨rfl, n1, rfl⟩; go_wp2_with fail
  have HT2 := hide (Lib.tabIs_alloc (TabIs_drew (unhide HT) n1) (.cells #[.int .i64 v0, .int .i64 v1, .int .i64 v2, .int .i64 v3, .int .i64 v4, .int .i64 v5] 2))
  have HB2 := hide ((below_drewN (Below.refl w.heap.size w) n1).alloc (Nat.le_refl _) (.cells #[.int .i64 v0, .int .i64 v1, .int .i64 v2, .int .i64 v3, .int .i64 v4, .int .i64 v5] 2))
  have HK : Hid (∀ k : Nat, ((w.drewN n1).alloc (.cells #[.int .i64 v0, .int .i64 v1, .int .i64 v2, .int .i64 v3, .int .i64 v4, .int .i64 v5] 2)).cell? ⟨w.heap.size, k, none⟩ = (#[Value.int .i64 v0, .int .i64 v1, .int .i64 v2, .int .i64 v3, .int .i64 v4, .int .i64 v5] : Array Value)[k]?) := hide (fun k => (Blk.new (w.drewN n1) _ _).cell k)
  generalize ((w.drewN n1).alloc (.cells #[.int .i64 v0, .int .i64 v1, .int .i64 v2, .int .i64 v3, .int .i64 v4, .int .i64 v5] 2)) = w2 at *
  go_loop [37] (fun i => ∃ k : Nat, k ≤ 6 ∧ i = .int .i64 k) (fun i => 6 - (intOf i).toNat)
  case atStart => exact ⟨0, by omega, rfl⟩
  case round =>
    obtain ⟨k, hk, rfl⟩ := hrel
    by_cases hlt : k < 6
    · obtain ⟨v, hv, l1, l2⟩ := unhide HS k hlt
      have hcell : w2.cell? ⟨w.heap.size, k, none⟩ = some (.int .i64 v) := (unhide HK k).trans hv
      have HV := Lib.hid (clampF_id v l1 l2)
      clear hv
      go_wp2_with fail
      refine (clamp_at _ v v HV.out).mono ?_; rintro e w' ⟨rfl, rfl⟩
      go_wp2_with fail
      go_round
      case rel => exact ⟨k + 1, by omega, by go_num⟩
      case measure => simp [intOf]; omega
    · obtain rfl : k = 6 := by omega
      go_wp2_with fail
      refine (awake_any _ (unhide HT2)).mono ?_
      rintro e w3 ⟨rfl, hb⟩
      have HB := hide ((unhide HB2).trans (hb.mono (unhide HB2).size))
      clear hb
      go_wp2_with fail
      go_ret
      exact ⟨rfl, unhide HB⟩
end Go.Proofs.YtcebjipekodmpaaDoor
