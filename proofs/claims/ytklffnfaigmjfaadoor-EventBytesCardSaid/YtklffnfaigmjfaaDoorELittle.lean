/- baseboardref01.Little and the reference's Encode. No condition. -/
import Derived.Test.YtklffnfaigmjfaaDoorESame
import Derived.Test.YtklffnfaigmjfaaDoorMem
import Derived.Test.YtklffnfaigmjfaaDoorEFormat
namespace Go.Proofs.YtklffnfaigmjfaaDoor
open Go.RowKit
def leL : Nat → Int → List Int
  | 0, _ => []
  | n + 1, v => v % 256 :: leL n (v / 256)
theorem leL_len (n : Nat) : ∀ v, (leL n v).length = n := by
  induction n with
  | zero => intro v; rfl
  | succ n ih => intro v; simp [leL, ih]
theorem leL_step (n k : Nat) (v : Int) (h : k < n) : leL (n - k) v = v % 256 :: leL (n - (k + 1)) (v / 256) := by
  rw [show n - k = (n - (k + 1)) + 1 by omega]; rfl
/-- What Little leaves. -/
def LePost (w : World) (n : Nat) (v : Int) (e : Ending) (w' : World) : Prop :=
  ∃ x, e = .returned x ∧ w'.ownsRow w.heap.size 5 1 x n (u8V (leL n v)) ∧ Below w.heap.size w w'
set_option maxRecDepth 100000 in
set_option maxHeartbeats 4000000 in
theorem little_any (w : World) (v : Int) (n : Nat) (hv0 : 0 ≤ v) (hv1 : v < 18446744073709551616) (hn : n ≤ 8) :
    Calls Tryd.prog 43 #[.int .u64 v, .int .i64 (n : Int)] w (LePost w n v) := by
  obtain ⟨i0, hi, hz0, hz1, hz2⟩ := info_parts info_u8
  have HI := hide hi
  have HI0 := hide hz0
  have HI1 := hide hz1
  have HI2 := hide hz2
  have BW := hide (Below.refl w.heap.size w)
  clear hi hz0 hz1 hz2
  go_enter Tryd.func43, Tryd.ntmps43
  go_wp2_with fail
  go_loopw [0, 5, 6] (fun r x i wr => ∃ (k : Nat) (z : Int) (xs : List Int), k ≤ n ∧ i = .int .i64 k ∧ r = .int .u64 z ∧ 0 ≤ z ∧ z < 18446744073709551616 ∧ xs ++ leL (n - k) z = leL n v ∧ wr.ownsRow w.heap.size 5 1 x k (u8V xs) ∧ Below w.heap.size w wr) (fun _ _ i _ => n - (intOf i).toNat)
  case atStart => exact ⟨0, v, [], by omega, rfl, rfl, hv0, hv1, rfl, World.ownsRow_nil _ _ _ _, unhide BW⟩
  case round =>
    obtain ⟨k, z, xs, hk, rfl, rfl, hz0, hz1, hxs, hown, hB⟩ := hrel
    have OWN := hide hown
    have BB := hide hB
    have HXS := hide hxs
    clear hown hB hxs
    by_cases hkn : k < n
    · have hki : (k : Int) < (n : Int) := by omega
      have hm0 : 0 ≤ z % 256 := by omega
      have hm1 : z % 256 < 256 := by omega
      have hq0 : 0 ≤ z / 256 := by omega
      have hq1 : z / 256 < 18446744073709551616 := by omega
      obtain ⟨m, hm⟩ : ∃ m, z % 256 = m := ⟨_, rfl⟩
      obtain ⟨q, hq⟩ : ∃ q, z / 256 = q := ⟨_, rfl⟩
      have hmt : z.tmod 256 = m := by rw [Int.tmod_eq_emod_of_nonneg hz0, hm]
      have hqt : z.tdiv 256 = q := by rw [Int.tdiv_eq_ediv_of_nonneg hz0, hq]
      rw [hm] at hm0 hm1
      rw [hq] at hq0 hq1
      have hw8 : IntKind.u8.wrap m = m := IntWalk.u8_in _ (by omega)
      have hw64 : IntKind.u64.wrap m = m := IntWalk.u64_in _ (by omega)
      have STEP : Hid ((xs ++ [m]) ++ leL (n - (k + 1)) q = leL n v) := hide (by
        rw [← unhide HXS, leL_step n k z hkn, hm, hq]
        simp)
      have RD : Hid (Reads (wr.alloc (.cells #[.int .u8 m] 5)) (wr.heap.size + 1) 1 (some ⟨wr.heap.size, 0, none⟩) 1 [.int .u8 m]) := hide (by
        have := Reads.of_blk (Blk.new wr 5 [Value.int .u8 m].toArray) 0 1 (by simp) (by omega : wr.heap.size < wr.heap.size + 1)
        simpa using this)
      go_wp2_with (first
        | (at_builtin; refine wpList_append_any (wr.alloc (.cells #[.int .u8 m] 5)) rfl (.tmp 12) (.tmp 16) 45 rfl w.heap.size 5 i0 (.int .u8 0) 1 1 Tryd.underlying45 (unhide HI) (unhide HI0) (unhide HI1) (unhide HI2) rfl (by decide) u5 k _ rfl ((unhide OWN).alloc _) (wr.heap.size + 1) (some ⟨wr.heap.size, 0, none⟩) 1 1 [.int .u8 m] rfl (unhide RD) (by intro u hu; simp at hu; subst hu; rfl) (by unfold maxLen; omega) (by omega) (by have := (unhide BB).size; rw [size_alloc]; omega) ?_
           intro v6 w6 hown6 hgr6 _
           have OWN6 : Hid (w6.ownsRow w.heap.size 5 1 v6 (k + 1) (u8V (xs ++ [m]))) := hide (by unfold u8V; rw [List.map_append]; exact hown6)
           have BB6 := hide (((unhide BB).alloc (unhide BB).size (.cells #[.int .u8 m] 5)).grown hgr6 (by have := (unhide BB).size; rw [size_alloc]; omega) (fun g e => ((unhide OWN).lt g e).1))
           clear hown6 hgr6)
        | fail)
      go_roundw
      case rel => exact ⟨k + 1, q, xs ++ [m], by omega, by go_num, rfl, hq0, hq1, unhide STEP, unhide OWN6, unhide BB6⟩
      case measure => simp [intOf]; omega
    · have hk1 : k = n := by omega
      have HK := hide hk1
      have hkf : ((k : Int) < (n : Int)) = False := by simp; omega
      clear hk1 hkn hk
      go_wp2_with fail
      go_ret
      have e := unhide HXS
      rw [unhide HK, Nat.sub_self] at e
      have e2 : xs = leL n v := by rw [← e]; simp [leL]
      have ho := unhide OWN
      rw [e2, unhide HK] at ho
      exact ⟨u5, rfl, ho, unhide BB⟩
end Go.Proofs.YtklffnfaigmjfaaDoor
