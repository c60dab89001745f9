/- The law MicroRoots, walked: it returns true. -/
import Derived.Test.YtcebjipekodmpaaDoorMOrder
namespace Go.Proofs.YtcebjipekodmpaaDoor
open Go.RowKit
theorem mod_plain (n m : Int) (hm : 0 < m) : (if n.tmod m < 0 then n.tmod m + m else n.tmod m) = n % m := by
  by_cases hn : 0 ≤ n
  · have h := Int.tmod_nonneg m hn
    rw [if_neg (by omega), Int.tmod_eq_emod_of_nonneg hn]
  · have h := Int.tmod_nonneg m (a := -n) (by omega)
    have h2 := Int.tmod_lt_of_pos (-n) hm
    rw [Int.neg_tmod] at h h2
    have e1 := Int.mul_tdiv_add_tmod n m
    have e2 := Int.emod_nonneg n (show m ≠ 0 by omega)
    by_cases h0 : n.tmod m = 0
    · rw [if_neg (by omega), h0]
      exact (Int.emod_eq_zero_of_dvd (Int.dvd_of_tmod_eq_zero h0)).symm
    · rw [if_pos (by omega)]
      have e3 : n = (n.tmod m + m) + m * (n.tdiv m - 1) := by rw [Int.mul_sub]; omega
      conv => rhs; rw [e3]
      rw [Int.add_mul_emod_self_left, Int.emod_eq_of_lt (by omega) (by omega)]
theorem mod_any (w : World) (n m : Int) (j : Nat) (hm : 0 < m) (hm2 : m ≤ 1000000000000) (hj : n % m = (j : Int)) :
    Calls Tryd.prog 23 #[.int .i64 n, .int .i64 m] w fun e w' => e = .returned (.int .i64 (j : Int)) ∧ w = w' := by
  have hp := mod_plain n m hm
  have h1 := Int.lt_tmod_of_pos n hm
  have h2 := Int.tmod_lt_of_pos n hm
  rw [hj] at hp
  have hne : m ≠ 0 := by omega
  have HP := Lib.hid hp
  clear hp hj
  by_cases hn : n.tmod m < 0
  · have t1 : decide (n.tmod m < 0) = true := by simpa using hn
    go_enter Tryd.func23, Tryd.ntmps23
    go_wp2_with fail
    go_ret
    have := HP.out
    rw [if_pos (by omega)] at this
    exact ⟨ret_int this, rfl⟩
  · have t1 : decide (n.tmod m < 0) = false := by simpa using hn
    go_enter Tryd.func23, Tryd.ntmps23
    go_wp2_with fail
    go_ret
    have := HP.out
    rw [if_neg (by omega)] at this
    exact ⟨ret_int this, rfl⟩
theorem rootE_zero (a : Int) (h : 0 ≤ a) : rootE a = 0 := by
  unfold rootE
  rw [if_neg (by unfold clampF; omega)]
theorem rootE_two (a : Int) (h : a < 0) : rootE a = 2 := by
  unfold rootE
  rw [if_pos (by unfold clampF; omega)]
theorem rootF_neg (a : Int) (h : a < 0) : rootF a = 0 := by
  unfold rootF
  rw [if_pos (by unfold clampF; omega)]
theorem rootF_zero : rootF 0 = 0 := by
  unfold rootF
  rw [clampF_id 0 (by omega) (by omega), if_neg (by omega)]
  have h := isq_of 0 0 (by omega) (by omega)
  rw [show ((0 : Int) * 1000000).toNat = 0 from rfl, ← h]
  rfl
theorem sq_k (j : Nat) (hj : j ≤ 1000000) : mulF ((j : Int) * 1000) ((j : Int) * 1000) = (j : Int) * (j : Int) := by
  unfold mulF
  rw [clampF_id ((j : Int) * 1000) (by omega) (by omega)]
  have hb : j * j ≤ 1000000 * 1000000 := Nat.mul_le_mul hj hj
  have hc : ((j * j : Nat) : Int) = (j : Int) * (j : Int) := by simp
  have e : (j : Int) * 1000 * ((j : Int) * 1000) = (j : Int) * (j : Int) * 1000000 := by
    rw [Int.mul_assoc, Int.mul_left_comm 1000 (j : Int) 1000, ← Int.mul_assoc]
    rfl
  rw [e, Int.mul_ediv_cancel _ (by omega)]
  exact clampF_id _ (by omega) (by omega)
theorem root_k (j : Nat) (hj : j ≤ 1000000) : rootF ((j : Int) * (j : Int)) = (j : Int) * 1000 := by
  have hb : j * j ≤ 1000000 * 1000000 := Nat.mul_le_mul hj hj
  have hc : ((j * j : Nat) : Int) = (j : Int) * (j : Int) := by simp
  unfold rootF
  rw [← hc, clampF_id _ (by omega) (by omega), if_neg (by omega)]
  have e : (((j * j : Nat) : Int) * 1000000).toNat = j * 1000 * (j * 1000) := by
    have : j * 1000 * (j * 1000) = j * j * 1000000 := by rw [Nat.mul_mul_mul_comm]
    omega
  have h := isq_of (j * 1000 * (j * 1000)) (j * 1000) (by omega) (by
    simp only [Nat.add_mul, Nat.mul_add]; omega)
  rw [e, ← h]
  omega
set_option maxRecDepth 100000 in
set_option maxHeartbeats 1000000 in
theorem roots_walk (w : World) (v : Int) (_wv : (Lit.int .i64 v).wf = true) (n : Int) (_wn : (Lit.int .i64 n).wf = true) (htab : Lib.TabIs Tryd.prog w "internal/strconv.uint64pow10" .u64 Lib.pow10Tab) :
    Calls Tryd.prog 5 #[.int .i64 v, .int .i64 n] w fun e w' => e = .returned (.bool true) ∧ Below w.heap.size w w' := by
  have HT := hide htab
  clear htab
  obtain ⟨j, HJ, hj⟩ : ∃ j : Nat, Hid (n % 1000001 = (j : Int)) ∧ j ≤ 1000000 := ⟨(n % 1000001).toNat, hide (by omega), by omega⟩
  have HK := Lib.hid (sq_k j hj)
  have HR := Lib.hid (root_k j hj)
  have hjb : j * j ≤ 1000000 * 1000000 := Nat.mul_le_mul hj hj
  have hjc : ((j * j : Nat) : Int) = (j : Int) * (j : Int) := by simp
  have hj0 : (0 : Int) ≤ (j : Int) * (j : Int) := by omega
  have HE := Lib.hid (rootE_zero _ hj0)
  clear hjb hjc
  obtain ⟨x, HX, x1, x2⟩ : ∃ x, Hid (clampF v = x) ∧ -1000000000000 ≤ x ∧ x ≤ 1000000000000 := ⟨_, hide rfl, (clampF_bd v).1, (clampF_bd v).2⟩
  obtain ⟨y, hM, y1⟩ : ∃ y, min v (-1) = y ∧ y ≤ -1 := ⟨_, rfl, by omega⟩
  obtain ⟨a, hA, a1, a2⟩ : ∃ a, max x 0 = a ∧ 0 ≤ a ∧ a ≤ 1000000000000 := ⟨_, rfl, by omega, by omega⟩
  obtain ⟨N, hN⟩ : ∃ N : Nat, a * 1000000 = (N : Int) := ⟨(a * 1000000).toNat, by omega⟩
  obtain ⟨s1, s2⟩ := isq_spec N
  obtain ⟨r, HQ⟩ : ∃ r, Hid (isq N = r) := ⟨_, hide rfl⟩
  rw [unhide HQ] at s1 s2
  have hr9 : r ≤ 1000000000 := sq_le_bd r N 1000000000 s1 (by omega)
  have HF : Hid (rootF a = (r : Int)) := hide (by
    unfold rootF
    rw [clampF_id a (by omega) a2, if_neg (by omega), ← unhide HQ, hN]
    rfl)
  have c1 : ((r * r : Nat) : Int) = (r : Int) * (r : Int) := by simp
  have c2 : (((r + 1) * (r + 1) : Nat) : Int) = ((r : Int) + 1) * ((r : Int) + 1) := by simp
  have b1 : (r + 1) * (r + 1) ≤ 1000000001 * 1000000001 := Nat.mul_le_mul (by omega) (by omega)
  have b2 : r * r ≤ 1000000000 * 1000000000 := Nat.mul_le_mul hr9 hr9
  obtain ⟨Q, hQ⟩ : ∃ Q : Nat, (r : Int) * (r : Int) = (Q : Int) := ⟨_, c1.symm⟩
  obtain ⟨S, hS⟩ : ∃ S : Nat, ((r : Int) + 1) * ((r : Int) + 1) = (S : Int) := ⟨_, c2.symm⟩
  have q1 : Q ≤ N := by omega
  have q2 : N < S := by omega
  have q3 : N ≤ 1000000000000000000 := by omega
  have q4 : S ≤ 1000000002000000001 := by omega
  have t1 : decide (N < Q) = false := by simp; omega
  have t2 : decide (S ≤ N) = false := by simp; omega
  clear s1 s2 c1 c2 b1 b2
  go_enter Tryd.func5, Tryd.ntmps5
  go_wp2_with fail
  refine (clamp_at _ v x (unhide HX)).mono ?_; rintro e w' ⟨rfl, rfl⟩; go_wp2_with fail
  refine (root_at _ a (r : Int) 0 (unhide HF) (rootE_zero _ (by omega))).mono ?_; rintro e w' ⟨rfl, rfl⟩; go_wp2_with fail
  refine (mod_any _ n 1000001 j (by omega) (by omega) (unhide HJ)).mono ?_; rintro e w' ⟨rfl, rfl⟩; go_wp2_with fail
  refine (mul_at _ ((j : Int) * 1000) ((j : Int) * 1000) ((j : Int) * (j : Int)) HK.out).mono ?_; rintro e w' ⟨rfl, n1, rfl⟩; go_wp2_with fail
  refine (root_at _ ((j : Int) * (j : Int)) ((j : Int) * 1000) 0 HR.out HE.out).mono ?_; rintro e w' ⟨rfl, rfl⟩; go_wp2_with fail
  refine (root_at _ y 0 2 (rootF_neg _ (by omega)) (rootE_two _ (by omega))).mono ?_; rintro e w' ⟨rfl, rfl⟩; go_wp2_with fail
  refine (awake_drew w _ (unhide HT)).mono ?_
  rintro e w2 ⟨rfl, hb⟩
  have HB := hide hb
  clear hb
  go_wp2_with fail
  go_ret
  exact ⟨rfl, unhide HB⟩
end Go.Proofs.YtcebjipekodmpaaDoor
