/- siphash.Open and the reference's Open: too short, a wrong digest, a right one. No condition but a bound on the length. -/
import Derived.Test.YtaopgieejgcbeaaSeal
import Derived.Test.YtaopgieejgcbeaaClass
import Derived.Test.YtaopgieejgcbeaaLengths
namespace Go.Proofs.Ytaopgieejgcbeaa
open Go.RowKit
/-- What a call of Open leaves: the bytes before the digest and OK, or nil and ErrDigest. -/
def OpenPost (w : World) (bs : List UInt8) (m : Nat) (ok : Bool) (e : Ending) (w' : World) : Prop :=
  Below w.heap.size w w' ∧ match ok with
    | true => ∃ v, e = .returned (.tuple #[v, .int .i64 0]) ∧ w'.ownsRow w.heap.size 5 1 v m (bsV (bs.take m))
    | false => e = .returned (.tuple #[.slice none 0 0, .int .i64 50])
set_option maxRecDepth 100000 in
set_option maxHeartbeats 1000000 in
theorem open_short (ks bs : List UInt8) (A : Option Addr) (n c : Nat) (w : World) (hlen : n < 8) :
    Calls Try.prog 14 #[.agg (bsV ks).toArray, .slice A n c] w
      fun e w' => e = .returned (.tuple #[.slice none 0 0, .int .i64 4]) ∧ Below w.heap.size w w' := by
  have hbs : bs = bs := rfl
  clear hbs
  go_enter Try.func14, Try.ntmps14
  go_wp2_with fail
  go_ret2
  exact ⟨rfl, (Below.refl _ _).alloc (Nat.le_refl _) _⟩
set_option maxRecDepth 100000 in
set_option maxHeartbeats 1000000 in
theorem open_long (ks bs : List UInt8) (hk : ks.length = 16) (A : Option Addr) (m c : Nat) (w : World) (h : Reads w w.heap.size 1 A (m + 8) (bsV bs)) (hn : m + 8 ≤ c) (hc : c ≤ maxLen) (hlen : m ≤ 1000000) (ok : Bool)
    (hok : decide ((leW (bs.drop m) : Int) = sumF ks (bs.take m)) = ok) :
    Calls Try.prog 14 #[.agg (bsV ks).toArray, .slice A (m + 8) c] w
      fun e w' => OpenPost w bs m ok e w' := by
  obtain ⟨i0, hi, hz0, hz1, hz2⟩ := info_parts info_b
  obtain ⟨ad, rfl⟩ := h.some_ (by omega)
  have hKB := Blk.new w 23 (bsV ks).toArray
  have hR0 := (h.alloc (Nat.le_refl _) (.cells (bsV ks).toArray 23))
  have hbel0 := (Below.refl w.heap.size w).alloc (Nat.le_refl _) (.cells (bsV ks).toArray 23)
  have hlo := hR0.take (m := m) (by omega)
  have hhi := hR0.tail_ (k := m) (A' := some (ad.add m)) (by omega) (fun _ => rfl)
  have e1 : (bsV bs).take m = bsV (bs.take m) := by simp [bsV, List.map_take]
  have e2 : (bsV bs).drop m = bsV (bs.drop m) := by simp [bsV, List.map_drop]
  rw [e1] at hlo
  rw [e2, Nat.add_sub_cancel_left] at hhi
  clear e1 e2
  have hbase : ∀ x : InClass (fun W => Below (w.heap.size + 1) (w.alloc (.cells (bsV ks).toArray 23)) W), w.heap.size ≤ x.val.heap.size := fun x => by have := x.ok.size; rw [size_alloc] at this; omega
  have h1 : ∀ x : InClass (fun W => Below (w.heap.size + 1) (w.alloc (.cells (bsV ks).toArray 23)) W), Calls Try.prog 19 #[.slice (some (ad.add m)) 8 (c - m)] x.val fun e w'' => e = .returned (.int .u64 (leW (bs.drop m) : Int)) ∧ ∃ y : InClass (fun W => Below (w.heap.size + 1) (w.alloc (.cells (bsV ks).toArray 23)) W), w'' = y.val := fun x => by
    have hx := x.ok
    refine (word_any (some (ad.add m)) 8 (c - m) (bs.drop m) x.val w.heap.size (hhi.keep fun p hp => hx.cell (by omega)) (by omega)).mono ?_
    rintro e w' ⟨rfl, rfl⟩
    exact ⟨rfl, x, rfl⟩
  have h2 : ∀ x : InClass (fun W => Below (w.heap.size + 1) (w.alloc (.cells (bsV ks).toArray 23)) W), Calls Try.prog 10 #[.agg (bsV ks).toArray, .slice (some ad) m c] x.val fun e w'' => e = .returned (.int .u64 (sumF ks (bs.take m))) ∧ ∃ y : InClass (fun W => Below (w.heap.size + 1) (w.alloc (.cells (bsV ks).toArray 23)) W), w'' = y.val := fun x => by
    have hx := x.ok
    have hxs := hx.size
    rw [size_alloc] at hxs
    exact class_call (sum_any ks (bs.take m) hk _ _ _ _ ((hlo.keep fun p hp => hx.cell (by omega)).more (hbase x)) (by omega) hc) (fun w' h => hx.trans (h.mono hxs))
  have hin : Nonempty (InClass (fun W => Below (w.heap.size + 1) (w.alloc (.cells (bsV ks).toArray 23)) W)) := ⟨⟨_, Below.refl _ _⟩⟩
  have H1 := hide h1
  have H2 := hide h2
  have HKB := hide hKB
  have HK := hide hk
  have HLO := hide hlo
  have HB0 := hide hbel0
  have HOK := hide hok
  have hS0 := hide ((Below.refl (w.heap.size + 1) (w.alloc (.cells (bsV ks).toArray 23))).drew)
  have hcm : ¬ c = m := by omega
  have hc63 := hc
  unfold maxLen at hc63
  have hm0 : (0 : Int) ≤ (m : Int) := by omega
  have hm1 : (m : Int) ≤ (c : Int) := by omega
  have hm2 : (m : Int) ≤ (m : Int) + 8 := by omega
  clear h1 h2 hKB hk hlo hhi hR0 hbel0 h hbase hok
  go_enter Try.func14, Try.ntmps14
  go_wp2_with fail
  refine wp_region_class (fun W => Below (w.heap.size + 1) (w.alloc (.cells (bsV ks).toArray 23)) W) (by kernel_rfl) (by kernel_rfl) (unhide hS0) ?_
  repeat (go_big_quiet_step ((first | (go_at_call 19; exact (unhide H1) _))))
  refine BigFrame.wpQuiet_want rfl (fun K hK => quiet_load_row _ _ rfl w.heap.size rfl 23 (bsV ks).toArray _ (fun W hW => by obtain ⟨x, rfl⟩ := hW; exact (unhide HKB).below x.ok (Nat.lt_succ_self _)) Try.underlying23 rfl (key_size (unhide HK)) (hK _ ?_))
  simp only [Act.put, List.setIfInBounds_toArray, List.set_cons_zero, List.set_cons_succ]
  repeat (go_big_quiet_step ((first | (go_at_call 10; exact (unhide H2) _))))
  refine wpQuiet_nil ?_
  intro _ hw'
  obtain ⟨x, hw''⟩ := hw'
  subst hw''
  have hx := x.ok
  have HX := hide hx
  have hxs := hx.size
  rw [size_alloc] at hxs
  have HR3 := hide ((unhide HLO).keep fun p hp => hx.cell (by omega))
  have HO3 := hide (World.ownsRow_nil x.val w.heap.size 5 1)
  clear hx
  cases ok
  · have hne : ((leW (bs.drop m) : Int) != sumF ks (bs.take m)) = true := by
      have := unhide HOK
      simpa using this
    have hne2 := hide hne
    clear hne
    simp only [hne2.out]
    go_wp2_with fail
    go_ret2
    exact ⟨(unhide HB0).trans ((unhide HX).mono (by omega)), rfl⟩
  · have hne : ((leW (bs.drop m) : Int) != sumF ks (bs.take m)) = false := by
      have := unhide HOK
      simpa using this
    have hne2 := hide hne
    clear hne
    simp only [hne2.out]
    go_wp2_with (refine wpList_append_b _ (.const (.slice none 0 0)) (.tmp 24) 24 (.slice none 0 0) (some ad) m c rfl rfl rfl rfl w.heap.size 5 i0 (.int .u8 0) 1 Try.underlying24 hi hz0 hz1 hz2 rfl 0 [] (unhide HO3) w.heap.size (bsV (bs.take m)) (unhide HR3) (bsV_one _) (by unfold maxLen; omega) (by omega) (by omega) ?_; intro v1 w5 hown5 hb5)
    go_ret2
    refine ⟨((unhide HB0).trans ((unhide HX).mono (by omega))).trans hb5, v1, rfl, ?_⟩
    simpa using hown5
set_option maxRecDepth 100000 in
set_option maxHeartbeats 1000000 in
theorem ref_open_short (ks bs : List UInt8) (A : Option Addr) (n c : Nat) (w : World) (hlen : n < 8) :
    Calls Try.prog 16 #[.agg (bsV ks).toArray, .slice A n c] w
      fun e w' => e = .returned (.tuple #[.slice none 0 0, .int .i64 4]) ∧ Below w.heap.size w w' := by
  have hbs : bs = bs := rfl
  clear hbs
  go_enter Try.func16, Try.ntmps16
  go_wp2_with fail
  go_ret2
  exact ⟨rfl, (Below.refl _ _).alloc (Nat.le_refl _) _⟩
set_option maxRecDepth 100000 in
set_option maxHeartbeats 1000000 in
theorem ref_open_long (ks bs : List UInt8) (hk : ks.length = 16) (A : Option Addr) (m c : Nat) (w : World) (h : Reads w w.heap.size 1 A (m + 8) (bsV bs)) (hn : m + 8 ≤ c) (hc : c ≤ maxLen) (hlen : m ≤ 1000000) (ok : Bool)
    (hok : decide ((leW (bs.drop m) : Int) = sumF ks (bs.take m)) = ok) :
    Calls Try.prog 16 #[.agg (bsV ks).toArray, .slice A (m + 8) c] w
      fun e w' => OpenPost w bs m ok e w' := by
  obtain ⟨i0, hi, hz0, hz1, hz2⟩ := info_parts info_b
  obtain ⟨ad, rfl⟩ := h.some_ (by omega)
  have hKB := Blk.new w 23 (bsV ks).toArray
  have hR0 := (h.alloc (Nat.le_refl _) (.cells (bsV ks).toArray 23))
  have hbel0 := (Below.refl w.heap.size w).alloc (Nat.le_refl _) (.cells (bsV ks).toArray 23)
  have hlo := hR0.take (m := m) (by omega)
  have hhi := hR0.tail_ (k := m) (A' := some (ad.add m)) (by omega) (fun _ => rfl)
  have e1 : (bsV bs).take m = bsV (bs.take m) := by simp [bsV, List.map_take]
  have e2 : (bsV bs).drop m = bsV (bs.drop m) := by simp [bsV, List.map_drop]
  rw [e1] at hlo
  rw [e2, Nat.add_sub_cancel_left] at hhi
  clear e1 e2
  have hbase : ∀ x : InClass (fun W => Below (w.heap.size + 1) (w.alloc (.cells (bsV ks).toArray 23)) W), w.heap.size ≤ x.val.heap.size := fun x => by have := x.ok.size; rw [size_alloc] at this; omega
  have h1 : ∀ x : InClass (fun W => Below (w.heap.size + 1) (w.alloc (.cells (bsV ks).toArray 23)) W), Calls Try.prog 22 #[.slice (some (ad.add m)) 8 (c - m)] x.val fun e w'' => e = .returned (.int .u64 (leW (bs.drop m) : Int)) ∧ ∃ y : InClass (fun W => Below (w.heap.size + 1) (w.alloc (.cells (bsV ks).toArray 23)) W), w'' = y.val := fun x => by
    have hx := x.ok
    refine (ref_word_any (some (ad.add m)) 8 (c - m) (bs.drop m) x.val w.heap.size (hhi.keep fun p hp => hx.cell (by omega)) (by omega)).mono ?_
    rintro e w' ⟨rfl, rfl⟩
    exact ⟨rfl, x, rfl⟩
  have h2 : ∀ x : InClass (fun W => Below (w.heap.size + 1) (w.alloc (.cells (bsV ks).toArray 23)) W), Calls Try.prog 11 #[.agg (bsV ks).toArray, .slice (some ad) m c] x.val fun e w'' => e = .returned (.int .u64 (sumF ks (bs.take m))) ∧ ∃ y : InClass (fun W => Below (w.heap.size + 1) (w.alloc (.cells (bsV ks).toArray 23)) W), w'' = y.val := fun x => by
    have hx := x.ok
    have hxs := hx.size
    rw [size_alloc] at hxs
    exact class_call (ref_sum_any ks (bs.take m) hk _ _ _ _ ((hlo.keep fun p hp => hx.cell (by omega)).more (hbase x)) (by omega) hc) (fun w' h => hx.trans (h.mono hxs))
  have hin : Nonempty (InClass (fun W => Below (w.heap.size + 1) (w.alloc (.cells (bsV ks).toArray 23)) W)) := ⟨⟨_, Below.refl _ _⟩⟩
  have H1 := hide h1
  have H2 := hide h2
  have HKB := hide hKB
  have HK := hide hk
  have HLO := hide hlo
  have HB0 := hide hbel0
  have HOK := hide hok
  have hS0 := hide ((Below.refl (w.heap.size + 1) (w.alloc (.cells (bsV ks).toArray 23))).drew)
  have hcm : ¬ c = m := by omega
  have hc63 := hc
  unfold maxLen at hc63
  have hm0 : (0 : Int) ≤ (m : Int) := by omega
  have hm1 : (m : Int) ≤ (c : Int) := by omega
  have hm2 : (m : Int) ≤ (m : Int) + 8 := by omega
  clear h1 h2 hKB hk hlo hhi hR0 hbel0 h hbase hok
  go_enter Try.func16, Try.ntmps16
  go_wp2_with fail
  refine wp_region_class (fun W => Below (w.heap.size + 1) (w.alloc (.cells (bsV ks).toArray 23)) W) (by kernel_rfl) (by kernel_rfl) (unhide hS0) ?_
  repeat (go_big_quiet_step ((first | (go_at_call 22; exact (unhide H1) _))))
  refine BigFrame.wpQuiet_want rfl (fun K hK => quiet_load_row _ _ rfl w.heap.size rfl 23 (bsV ks).toArray _ (fun W hW => by obtain ⟨x, rfl⟩ := hW; exact (unhide HKB).below x.ok (Nat.lt_succ_self _)) Try.underlying23 rfl (key_size (unhide HK)) (hK _ ?_))
  simp only [Act.put, List.setIfInBounds_toArray, List.set_cons_zero, List.set_cons_succ]
  repeat (go_big_quiet_step ((first | (go_at_call 11; exact (unhide H2) _))))
  refine wpQuiet_nil ?_
  intro _ hw'
  obtain ⟨x, hw''⟩ := hw'
  subst hw''
  have hx := x.ok
  have HX := hide hx
  have hxs := hx.size
  rw [size_alloc] at hxs
  have HR3 := hide ((unhide HLO).keep fun p hp => hx.cell (by omega))
  have HO3 := hide (World.ownsRow_nil x.val w.heap.size 5 1)
  clear hx
  cases ok
  · have hne : ((leW (bs.drop m) : Int) != sumF ks (bs.take m)) = true := by
      have := unhide HOK
      simpa using this
    have hne2 := hide hne
    clear hne
    simp only [hne2.out]
    go_wp2_with fail
    go_ret2
    exact ⟨(unhide HB0).trans ((unhide HX).mono (by omega)), rfl⟩
  · have hne : ((leW (bs.drop m) : Int) != sumF ks (bs.take m)) = false := by
      have := unhide HOK
      simpa using this
    have hne2 := hide hne
    clear hne
    simp only [hne2.out]
    go_wp2_with (refine wpList_append_b _ (.const (.slice none 0 0)) (.tmp 24) 24 (.slice none 0 0) (some ad) m c rfl rfl rfl rfl w.heap.size 5 i0 (.int .u8 0) 1 Try.underlying24 hi hz0 hz1 hz2 rfl 0 [] (unhide HO3) w.heap.size (bsV (bs.take m)) (unhide HR3) (bsV_one _) (by unfold maxLen; omega) (by omega) (by omega) ?_; intro v1 w5 hown5 hb5)
    go_ret2
    refine ⟨((unhide HB0).trans ((unhide HX).mono (by omega))).trans hb5, v1, rfl, ?_⟩
    simpa using hown5
end Go.Proofs.Ytaopgieejgcbeaa
