/- The law MicroOrder, walked: it returns true. -/
import Derived.Test.YtcebjipekodmpaaDoorMLaid
import Derived.Test.YtcebjipekodmpaaDoorMRefRoot
namespace Go.Proofs.YtcebjipekodmpaaDoor
open Go.RowKit
theorem clamp_at (w : World) (a x : Int) (h : clampF a = x) : Calls Tryd.prog 22 #[.int .i64 a] w fun e w' => e = .returned (.int .i64 x) ∧ w = w' := by subst h; exact clamp_any w a
theorem add_at (w : World) (a b x : Int) (h : addF a b = x) : Calls Tryd.prog 25 #[.int .i64 a, .int .i64 b] w fun e w' => e = .returned (.int .i64 x) ∧ w = w' := by subst h; exact add_any w a b
theorem sub_at (w : World) (a b x : Int) (h : subF a b = x) : Calls Tryd.prog 27 #[.int .i64 a, .int .i64 b] w fun e w' => e = .returned (.int .i64 x) ∧ w = w' := by subst h; exact sub_any w a b
theorem mul_at (w : World) (a b x : Int) (h : mulF a b = x) : Calls Tryd.prog 21 #[.int .i64 a, .int .i64 b] w fun e w' => e = .returned (.int .i64 x) ∧ ∃ n, w' = w.drewN n := by subst h; exact mul_any w a b
theorem div_at (w : World) (a b x y : Int) (h : divF a b = x) (h2 : divE b = y) : Calls Tryd.prog 17 #[.int .i64 a, .int .i64 b] w fun e w' => e = .returned (.tuple #[.int .i64 x, .int .i64 y]) ∧ w = w' := by subst h; subst h2; exact div_any w a b
theorem root_at (w : World) (a x y : Int) (h : rootF a = x) (h2 : rootE a = y) : Calls Tryd.prog 19 #[.int .i64 a] w fun e w' => e = .returned (.tuple #[.int .i64 x, .int .i64 y]) ∧ w = w' := by subst h; subst h2; exact root_any w a
theorem ord_sub (a b : Int) : addF (clampF a) (-clampF b) = subF a b := by unfold addF subF clampF; omega
theorem ord_back (a b : Int) (h1 : -1000000000000 < addF a b) (h2 : addF a b < 1000000000000) : subF (addF a b) b = clampF a := by unfold addF subF clampF at *; omega
theorem ord_one (a : Int) : mulF a 1000000 = clampF a := by
  unfold mulF
  rw [clampF_id 1000000 (by omega) (by omega), Int.mul_ediv_cancel _ (by omega), clampF_clampF]
theorem ord_zero (a : Int) : addF a 0 = clampF a := by unfold addF clampF; omega
theorem addF_comm (a b : Int) : addF b a = addF a b := by unfold addF; rw [Int.add_comm]
theorem mulF_comm (a b : Int) : mulF b a = mulF a b := by unfold mulF; rw [Int.mul_comm]
set_option maxHeartbeats 1000000 in
theorem order_walk (w : World) (a : Int) (_wa : (Lit.int .i64 a).wf = true) (b : Int) (_wb : (Lit.int .i64 b).wf = true) (htab : Lib.TabIs Tryd.prog w "internal/strconv.uint64pow10" .u64 Lib.pow10Tab) :
    Calls Tryd.prog 7 #[.int .i64 a, .int .i64 b] w fun e w' => e = .returned (.bool true) ∧ Below w.heap.size w w' := by
  have HT := hide htab
  obtain ⟨x, HX, x1, x2⟩ : ∃ x, Hid (clampF a = x) ∧ -1000000000000 ≤ x ∧ x ≤ 1000000000000 := ⟨_, hide rfl, (clampF_bd a).1, (clampF_bd a).2⟩
  obtain ⟨y, HY, y1, y2⟩ : ∃ y, Hid (clampF b = y) ∧ -1000000000000 ≤ y ∧ y ≤ 1000000000000 := ⟨_, hide rfl, (clampF_bd b).1, (clampF_bd b).2⟩
  obtain ⟨s, HS⟩ : ∃ s, Hid (addF a b = s) := ⟨_, hide rfl⟩
  obtain ⟨m, HM⟩ : ∃ m, Hid (mulF a b = m) := ⟨_, hide rfl⟩
  obtain ⟨d, HD⟩ : ∃ d, Hid (subF a b = d) := ⟨_, hide rfl⟩
  have HS' := Lib.hid ((addF_comm a b).trans (unhide HS))
  have HM' := Lib.hid ((mulF_comm a b).trans (unhide HM))
  have HD' : Hid (addF x (-y) = d) := hide (by rw [← unhide HX, ← unhide HY, ord_sub]; exact unhide HD)
  have H1 := Lib.hid ((ord_one a).trans (unhide HX))
  have H0 := Lib.hid ((ord_zero a).trans (unhide HX))
  clear htab
  have HB : Hid (-1000000000000 < s → s < 1000000000000 → subF s b = x) := hide (fun h1 h2 => by rw [← unhide HS] at h1 h2 ⊢; rw [← unhide HX]; exact ord_back a b h1 h2)
  by_cases hw : -1000000000000 < s ∧ s < 1000000000000
  · obtain ⟨hw1, hw2⟩ := hw
    have HW := hide (unhide HB hw1 hw2)
    have hd1 : decide (-1000000000000 < s) = true := by simpa using hw1
    have hd2 : decide (s < 1000000000000) = true := by simpa using hw2
    go_enter Tryd.func7, Tryd.ntmps7
    go_wp2_with fail
    refine (clamp_at _ a x (unhide HX)).mono ?_; rintro e w' ⟨rfl, rfl⟩; go_wp2_with fail
    refine (clamp_at _ b y (unhide HY)).mono ?_; rintro e w' ⟨rfl, rfl⟩; go_wp2_with fail
    refine (add_at _ a b s (unhide HS)).mono ?_; rintro e w' ⟨rfl, rfl⟩; go_wp2_with fail
    refine (add_at _ b a s HS'.out).mono ?_; rintro e w' ⟨rfl, rfl⟩; go_wp2_with fail
    refine (mul_at _ a b m (unhide HM)).mono ?_; rintro e w' ⟨rfl, n1, rfl⟩; go_wp2_with fail
    refine (mul_at _ b a m HM'.out).mono ?_; rintro e w' ⟨rfl, n2, rfl⟩; go_wp2_with fail
    refine (sub_at _ a b d (unhide HD)).mono ?_; rintro e w' ⟨rfl, rfl⟩; go_wp2_with fail
    refine (add_at _ x (-y) d (unhide HD')).mono ?_; rintro e w' ⟨rfl, rfl⟩; go_wp2_with fail
    refine (sub_at _ s b x (unhide HW)).mono ?_; rintro e w' ⟨rfl, rfl⟩; go_wp2_with fail
    refine (mul_at _ a 1000000 x H1.out).mono ?_; rintro e w' ⟨rfl, n3, rfl⟩; go_wp2_with fail
    refine (add_at _ a 0 x H0.out).mono ?_; rintro e w' ⟨rfl, rfl⟩; go_wp2_with fail
    refine (awake_drew w _ (unhide HT)).mono ?_
    rintro e w2 ⟨rfl, hb⟩
    have HB := hide hb
    clear hb
    go_wp2_with fail
    go_ret
    exact ⟨rfl, unhide HB⟩
  · have hw' : s ≤ -1000000000000 ∨ 1000000000000 ≤ s := by omega
    clear hw
    have fin : ∀ q1 q2 : Bool, q1 = decide (-1000000000000 < s) → q2 = decide (s < 1000000000000) → (q1 && q2) = false := by
      intro q1 q2 h1 h2; subst h1; subst h2; rcases hw' with h | h <;> simp <;> omega
    rcases hw' with hw | hw
    · have hd1 : decide (-1000000000000 < s) = false := by simp; omega
      clear fin
      go_enter Tryd.func7, Tryd.ntmps7
      go_wp2_with fail
      refine (clamp_at _ a x (unhide HX)).mono ?_; rintro e w' ⟨rfl, rfl⟩; go_wp2_with fail
      refine (clamp_at _ b y (unhide HY)).mono ?_; rintro e w' ⟨rfl, rfl⟩; go_wp2_with fail
      refine (add_at _ a b s (unhide HS)).mono ?_; rintro e w' ⟨rfl, rfl⟩; go_wp2_with fail
      refine (add_at _ b a s HS'.out).mono ?_; rintro e w' ⟨rfl, rfl⟩; go_wp2_with fail
      refine (mul_at _ a b m (unhide HM)).mono ?_; rintro e w' ⟨rfl, n1, rfl⟩; go_wp2_with fail
      refine (mul_at _ b a m HM'.out).mono ?_; rintro e w' ⟨rfl, n2, rfl⟩; go_wp2_with fail
      refine (sub_at _ a b d (unhide HD)).mono ?_; rintro e w' ⟨rfl, rfl⟩; go_wp2_with fail
      refine (add_at _ x (-y) d (unhide HD')).mono ?_; rintro e w' ⟨rfl, rfl⟩; go_wp2_with fail
      refine (mul_at _ a 1000000 x H1.out).mono ?_; rintro e w' ⟨rfl, n3, rfl⟩; go_wp2_with fail
      refine (add_at _ a 0 x H0.out).mono ?_; rintro e w' ⟨rfl, rfl⟩; go_wp2_with fail
      refine (awake_drew w _ (unhide HT)).mono ?_
      rintro e w2 ⟨rfl, hb⟩
      have HB := hide hb
      clear hb
      go_wp2_with fail
      go_ret
      exact ⟨rfl, unhide HB⟩
    · have hd1 : decide (-1000000000000 < s) = true := by simp; omega
      have hd2 : decide (s < 1000000000000) = false := by simp; omega
      clear fin
      go_enter Tryd.func7, Tryd.ntmps7
      go_wp2_with fail
      refine (clamp_at _ a x (unhide HX)).mono ?_; rintro e w' ⟨rfl, rfl⟩; go_wp2_with fail
      refine (clamp_at _ b y (unhide HY)).mono ?_; rintro e w' ⟨rfl, rfl⟩; go_wp2_with fail
      refine (add_at _ a b s (unhide HS)).mono ?_; rintro e w' ⟨rfl, rfl⟩; go_wp2_with fail
      refine (add_at _ b a s HS'.out).mono ?_; rintro e w' ⟨rfl, rfl⟩; go_wp2_with fail
      refine (mul_at _ a b m (unhide HM)).mono ?_; rintro e w' ⟨rfl, n1, rfl⟩; go_wp2_with fail
      refine (mul_at _ b a m HM'.out).mono ?_; rintro e w' ⟨rfl, n2, rfl⟩; go_wp2_with fail
      refine (sub_at _ a b d (unhide HD)).mono ?_; rintro e w' ⟨rfl, rfl⟩; go_wp2_with fail
      refine (add_at _ x (-y) d (unhide HD')).mono ?_; rintro e w' ⟨rfl, rfl⟩; go_wp2_with fail
      refine (mul_at _ a 1000000 x H1.out).mono ?_; rintro e w' ⟨rfl, n3, rfl⟩; go_wp2_with fail
      refine (add_at _ a 0 x H0.out).mono ?_; rintro e w' ⟨rfl, rfl⟩; go_wp2_with fail
      refine (awake_drew w _ (unhide HT)).mono ?_
      rintro e w2 ⟨rfl, hb⟩
      have HB := hide hb
      clear hb
      go_wp2_with fail
      go_ret
      exact ⟨rfl, unhide HB⟩
end Go.Proofs.YtcebjipekodmpaaDoor
