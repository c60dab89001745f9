/- The law SiphashAnswers, walked: it returns true; nothing that was there turns. -/
import Derived.Test.YtaopgieejgcbeaaOpenAll
import Derived.Test.YtaopgieejgcbeaaHeld
import Derived.Test.YtaopgieejgcbeaaRDerive
import Derived.Test.YtaopgieejgcbeaaRSum
import Derived.Test.YtaopgieejgcbeaaAwake
import Derived.Test.YtaopgieejgcbeaaLePlain
import Derived.Test.YtaopgieejgcbeaaOpen
import Derived.Test.YtaopgieejgcbeaaReturns
namespace Go.Proofs.Ytaopgieejgcbeaa
open Go.RowKit
/-- A slice and the bytes that it reads. -/
def ZAt (W : World) (N : Nat) (p : Value × List UInt8) : Prop := ∃ A n c, p.1 = .slice A n c ∧ Reads W N 1 A n (bsV p.2) ∧ n ≤ c ∧ c ≤ maxLen ∧ n ≤ 1000000
/-- What the loop over the slices leaves as it is. -/
structure Env (w W : World) (N : Nat) (ks : List UInt8) (ps : List (Value × List UInt8)) : Prop where
  key : Blk W w.heap.size 23 (bsV ks).toArray
  row : Blk W N 24 (ps.map Prod.fst).toArray
  rd : ∀ p ∈ ps, ZAt W N p
  bel : Below w.heap.size w W
  hk : w.heap.size < N
theorem held_call {N : Nat} {w0 : World} {b : Nat} {cs : List Value} {w w' : World} (h : Below N w0 w ∧ w.rangeAt b 0 cs) (hb : Below w.heap.size w w') (hN : N ≤ w0.heap.size) (hbN : b < N) : Below N w0 w' ∧ w'.rangeAt b 0 cs :=
  held_below h hb (Nat.le_trans hN h.1.size) hbN
theorem ZAt.below {W W' : World} {N B : Nat} {p : Value × List UInt8} (h : ZAt W N p) (hb : Below B W W') (hN : N ≤ B) : ZAt W' N p := by
  obtain ⟨A, n, c, e, hr, h2⟩ := h
  exact ⟨A, n, c, e, hr.below (hb.mono hN), h2⟩
theorem Env.below {w W W' : World} {N : Nat} {ks : List UInt8} {ps : List (Value × List UInt8)} (h : Env w W N ks ps) (hb : Below W.heap.size W W') : Env w W' N ks ps :=
  ⟨h.key.below hb h.key.lt, h.row.below hb h.row.lt, fun p hp => (h.rd p hp).below hb (Nat.le_of_lt h.row.lt), h.bel.trans (hb.mono h.bel.size), h.hk⟩
set_option maxRecDepth 100000 in
set_option maxHeartbeats 2000000 in
theorem answers_long (w : World) (ks : List UInt8) (A : Option Addr) (n c : Nat) (s : ByteArray) (x y at_ b_ : Int) (hlen : 3000 < n ∨ 300 < s.size) :
    Calls Try.prog 6 #[.agg (bsV ks).toArray, .slice A n c, .string s, .int .u64 x, .int .u64 y, .int .u16 at_, .int .u8 b_] w fun e w' => e = .returned (.bool true) ∧ Below w.heap.size w w' := by
  have HA := hide awake_any
  go_enter Try.func6, Try.ntmps6
  go_wp2_with fail
  refine (unhide HA _).mono ?_
  rintro e w1 ⟨rfl, hb1⟩
  have HB1 := hide (((Below.refl w.heap.size w).alloc (Nat.le_refl _) (.cells (bsV ks).toArray 23)).trans (hb1.mono (by rw [size_alloc]; omega)))
  clear hb1
  by_cases h1 : 3000 < n
  · have hd1 : decide (3000 < (n : Int)) = true := by simp; omega
    have hd1' : (3000 : Int) < (n : Int) := by omega
    go_wp2_with fail
    go_ret
    exact ⟨rfl, unhide HB1⟩
  · have hd1 : decide (3000 < (n : Int)) = false := by simp; omega
    have hd1' : ¬ (3000 : Int) < (n : Int) := by omega
    have hd2 : decide (300 < (s.size : Int)) = true := by simp; omega
    have hd2' : (300 : Int) < (s.size : Int) := by omega
    go_wp2_with fail
    go_ret
    exact ⟨rfl, unhide HB1⟩
set_option maxRecDepth 100000 in
set_option maxHeartbeats 4000000 in
theorem answers_short (w : World) (ks : List UInt8) (hk : ks.length = 16) (A : Option Addr) (n c : Nat) (bs : List UInt8) (hn : n ≤ c) (hc : c ≤ maxLen) (hr : Reads w w.heap.size 1 A n (bsV bs)) (s : ByteArray) (x y : Int) (hx : 0 ≤ x) (hy : 0 ≤ y) (at_ : Nat) (hat : at_ < 65536) (b_ : UInt8) (hlen : n ≤ 3000) (hsl : s.size ≤ 300) :
    Calls Try.prog 6 #[.agg (bsV ks).toArray, .slice A n c, .string s, .int .u64 x, .int .u64 y, .int .u16 (at_ : Int), .int .u8 (b_.toNat : Int)] w fun e w' => e = .returned (.bool true) ∧ Below w.heap.size w w' := by
  obtain ⟨i0, hi, hz0, hz1, hz2⟩ := info_parts info_b
  have HR := hide hr
  have HK := hide hk
  have HC := hide hc
  have HA := hide awake_any
  clear hr hk hc
  have hd1 : decide (3000 < (n : Int)) = false := by simp; omega
  have hd1' : ¬ (3000 : Int) < (n : Int) := by omega
  have hd2 : decide (300 < (s.size : Int)) = false := by simp; omega
  have hd2' : ¬ (300 : Int) < (s.size : Int) := by omega
  go_enter Try.func6, Try.ntmps6
  go_wp2_with fail
  refine (unhide HA _).mono ?_
  rintro e w1 ⟨rfl, hb1⟩
  have hs1 := hb1.size
  have HKB := hide ((Blk.new w 23 (bsV ks).toArray).below hb1 (by rw [size_alloc]; omega))
  have hbel := ((Below.refl w.heap.size w).alloc (Nat.le_refl _) (.cells (bsV ks).toArray 23)).trans (hb1.mono (by rw [size_alloc]; omega))
  have HB1 := hide hbel
  have HR1 := hide (((unhide HR).below hbel).more (B' := w1.heap.size) hbel.size)
  rw [size_alloc] at hs1
  clear hb1 hbel
  go_wp2_with (refine wpList_load_row rfl 23 _ rfl w.heap.size rfl 23 _ _ _ (unhide HKB) Try.underlying23 rfl (key_size (unhide HK)) ?_)
  refine (ref_seal_any ks bs (unhide HK) A n c w1 (unhide HR1) hn (unhide HC) (by omega)).mono ?_
  rintro e w2 ⟨v, rfl, hown, hb2⟩
  have hs2 := hb2.size
  obtain ⟨g, c2, rfl, hc2, hm2⟩ := slice_at hown (by omega)
  have hbv : bsV bs ++ bsV (leB (sumF ks bs) 8) = bsV (bs ++ leB (sumF ks bs) 8) := by simp [bsV]
  rw [hbv] at hown
  have hrd := Reads.of_own hown
  have HO2 := hide (Own.of_ownsRow hown)
  have HKB2 := hide ((unhide HKB).below hb2 (by omega))
  have HB2 := hide ((unhide HB1).trans (hb2.mono (unhide HB1).size))
  have HR2 := hide ((unhide HR1).below hb2)
  have HRD := hide hrd
  have hnb : bs.length = n := by have := (unhide HR1).1; simpa using this
  have HNB := Lib.hid hnb
  have hgN : w1.heap.size ≤ g := own_ge hown g rfl
  clear hb2 hown hrd hbv hnb
  go_wp2_with (first
    | (at_builtin; refine wpList_append_O w2 (.const (.slice none 0 0)) (.tmp 36) 24 (.slice none 0 0) (some ⟨g, 0, none⟩) (n + 8) c2 rfl rfl rfl rfl w2.heap.size 5 i0 (.int .u8 0) 1 1 Try.underlying24 hi hz0 hz1 hz2 rfl (by omega) 0 [] (Own.nil_ _ _ _ _) w2.heap.size _ (unhide HRD) (bsV_one _) (by unfold maxLen; omega) (by omega) (Nat.le_refl _) ?_
       intro v3 w3 ho3 _ hb3 _
       rw [Nat.zero_add, List.nil_append] at ho3
       obtain ⟨g3, c3, rfl, hc3, hm3⟩ := ho3.at_ (by omega)
       have hg3 : w2.heap.size ≤ g3 := ho3.ge_ g3 rfl
       have hs3 := hb3.size
       have HO3 := hide ho3
       have HRD3 := hide ((unhide HRD).below hb3)
       have HKB3 := hide ((unhide HKB2).below hb3 (by omega))
       have HB3 := hide ((unhide HB2).trans (hb3.mono (by have := (unhide HB2).size; omega)))
       have HR3 := hide ((unhide HR2).below (hb3.mono hs2))
       have hI : at_ % (n + 8) < n + 8 := Nat.mod_lt _ (by omega)
       obtain ⟨b, hb⟩ : ∃ b, (bs ++ leB (sumF ks bs) 8)[at_ % (n + 8)]? = some b := ⟨_, List.getElem?_eq_getElem (by rw [List.length_append, leB_len, HNB.out]; exact hI)⟩
       have hcell : w3.cell? ⟨g3, at_ % (n + 8), none⟩ = some (.int .u8 (b.toNat : Int)) := (by
         obtain ⟨ad, e, _, hcl⟩ := ho3.reads.2 (by omega)
         injection e with e
         subst e
         have := hcl (at_ % (n + 8)) (.int .u8 (b.toNat : Int)) (by rw [bsV, List.getElem?_map, hb]; rfl)
         rw [add_mk, Nat.zero_add] at this
         exact this)
       have hfr := ho3.frozenAt (at_ % (n + 8)) (by omega)
       have hxor : bits .xor .u8 (b.toNat : Int) (b_.toNat : Int) = ((b ^^^ b_).toNat : Int) := (by
         rw [u8_xor_nat _ _ b.toNat_lt b_.toNat_lt]
         simp)
       have hm64 := hm2
       unfold maxLen at hm64
       have hm63 := hm3
       unfold maxLen at hm63
       have hi1 : (0 : Int) ≤ (at_ : Int) % ((n : Int) + 8) := Int.emod_nonneg _ (by omega)
       have hi2 : (at_ : Int) % ((n : Int) + 8) < (n : Int) + 8 := Int.emod_lt_of_pos _ (by omega)
       have hi3 : (at_ : Int) % ((n : Int) + 8) ≤ (c2 : Int) := Int.le_of_lt (Int.lt_of_lt_of_le hi2 (by omega))
       have hi4 : (at_ : Int) % ((n : Int) + 8) < 4000 := Int.lt_of_lt_of_le hi2 (by omega)
       have hi5 : at_ % (n + 8) ≤ c2 := Nat.le_of_lt (Nat.lt_of_lt_of_le hI hc2)
       have HBY := Lib.hid hb
       clear ho3 hb3 hb)
    | fail)
  obtain ⟨ps, hp4, hp0, hp1, henv⟩ : ∃ ps : List (Value × List UInt8), ps.length = 4 ∧ (Value.slice A n c, bs) ∈ ps ∧ (Value.slice (some ⟨g, 0, none⟩) (n + 8) c2, bs ++ leB (sumF ks bs) 8) ∈ ps ∧
      Env w ((w3.setCell ⟨g3, at_ % (n + 8), none⟩ (.int .u8 ((b.toNat ^^^ b_.toNat : Nat) : Int))).alloc (.cells #[.slice A n c, .slice (some ⟨g, 0, none⟩) (n + 8) c2, .slice (some ⟨g3, 0, none⟩) (n + 8) c3, .slice (some ⟨g, 0, none⟩) (at_ % (n + 8)) c2] 24)) w3.heap.size ks ps := by
    have hsz : ∀ u, (w3.setCell ⟨g3, at_ % (n + 8), none⟩ u).heap.size = w3.heap.size := fun u => by simp
    refine ⟨[(.slice A n c, bs), (.slice (some ⟨g, 0, none⟩) (n + 8) c2, bs ++ leB (sumF ks bs) 8), (.slice (some ⟨g3, 0, none⟩) (n + 8) c3, (bs ++ leB (sumF ks bs) 8).set (at_ % (n + 8)) (b ^^^ b_)), (.slice (some ⟨g, 0, none⟩) (at_ % (n + 8)) c2, (bs ++ leB (sumF ks bs) 8).take (at_ % (n + 8)))], rfl, by simp, by simp, ?_⟩
    have hbl : Below w2.heap.size w3 ((w3.setCell ⟨g3, at_ % (n + 8), none⟩ (.int .u8 ((b.toNat ^^^ b_.toNat : Nat) : Int))).alloc (.cells #[.slice A n c, .slice (some ⟨g, 0, none⟩) (n + 8) c2, .slice (some ⟨g3, 0, none⟩) (n + 8) c3, .slice (some ⟨g, 0, none⟩) (at_ % (n + 8)) c2] 24)) :=
      ((Below.refl w2.heap.size w3).setCell (p := ⟨g3, at_ % (n + 8), none⟩) hg3 _).alloc (by rw [hsz]; exact hs3) _
    have hb0 := unhide HB2
    have hs02 := hb0.size
    have hr2 := ((unhide HRD3).below hbl).more (B' := w3.heap.size) hs3
    refine ⟨(unhide HKB3).below hbl (by omega), ?_, ?_, (unhide HB3).trans (hbl.mono (by omega)), by omega⟩
    · exact Blk.new' (hsz _).symm
    · intro p hp
      simp only [List.mem_cons, List.not_mem_nil, or_false] at hp
      rcases hp with rfl | rfl | rfl | rfl
      · exact ⟨A, n, c, rfl, ((unhide HR3).below (hbl.mono hs2)).more (by omega), hn, unhide HC, by omega⟩
      · exact ⟨_, _, _, rfl, hr2, hc2, hm2, by omega⟩
      · refine ⟨_, _, _, rfl, ?_, hc3, hm3, by omega⟩
        have ho := ((unhide HO3).stored (at_ % (n + 8)) (.int .u8 ((b.toNat ^^^ b_.toNat : Nat) : Int))).reads
        have e : (bsV (bs ++ leB (sumF ks bs) 8)).set (at_ % (n + 8)) (.int .u8 ((b.toNat ^^^ b_.toNat : Nat) : Int)) = bsV ((bs ++ leB (sumF ks bs) 8).set (at_ % (n + 8)) (b ^^^ b_)) := by
          simp [bsV, List.map_set]
        rw [e, hsz] at ho
        exact ho.alloc (by rw [hsz]; exact Nat.le_refl _) _
      · refine ⟨_, _, _, rfl, ?_, hi5, hm2, by omega⟩
        have := hr2.take (m := at_ % (n + 8)) (Nat.le_of_lt hI)
        have e : (bsV (bs ++ leB (sumF ks bs) 8)).take (at_ % (n + 8)) = bsV ((bs ++ leB (sumF ks bs) 8).take (at_ % (n + 8))) := by simp [bsV, List.map_take]
        rw [e] at this
        exact this
  have HE6 := hide henv
  clear henv hcell hfr hxor hi1 hi2 hi3 hi4
  go_loopw [61] (fun i wr => ∃ j : Nat, j ≤ 4 ∧ i = .int .i64 j ∧ Env w wr w3.heap.size ks ps)
    (fun i _ => 4 - (intOf i).toNat)
  case atStart => exact ⟨0, by omega, rfl, unhide HE6⟩
  case round =>
    obtain ⟨j, hj, rfl, henv⟩ := hrel
    by_cases hlt : j < 4
    · obtain ⟨p, hp⟩ : ∃ p, ps[j]? = some p := ⟨_, List.getElem?_eq_getElem (by omega)⟩
      obtain ⟨Az, nz, cz, hze, hzr, hzn, hzc, hzl⟩ := henv.rd p (List.mem_of_getElem? hp)
      have hcell : wr.cell? ⟨w3.heap.size, j, none⟩ = some (.slice Az nz cz) := by
        rw [henv.row.cell]
        simp [hp, hze]
      have hfr := henv.row.frozen j
      have hNr : w3.heap.size < wr.heap.size := henv.row.lt
      have HEr := hide henv
      have HZ := hide (hzr.more (B' := wr.heap.size) (Nat.le_of_lt hNr))
      have HZC := hide hzc
      clear henv hzr hzc hp
      go_wp2_with (first
        | (refine wpList_load_row rfl 23 _ rfl w.heap.size rfl 23 _ _ _ (unhide HEr).key Try.underlying23 rfl (key_size (unhide HK)) ?_)
        | fail)
      refine (open_all ks p.2 (unhide HK) Az nz cz wr (unhide HZ) hzn (unhide HZC) hzl).mono ?_
      rintro e w7 ⟨hb7, A7, n7, c7, rfl, hr7, hn7, hc7⟩
      have hs7 := hb7.size
      have HE7 := hide ((unhide HEr).below hb7)
      have HZ7 := hide (((unhide HZ).below hb7).more (B' := w7.heap.size) hs7)
      have HP7 := hide hr7
      clear hb7 hr7
      go_wp2_with (first
        | (refine wpList_load_row rfl 23 _ rfl w.heap.size rfl 23 _ _ _ (unhide HE7).key Try.underlying23 rfl (key_size (unhide HK)) ?_)
        | fail)
      refine (ref_open_all ks p.2 (unhide HK) Az nz cz w7 (unhide HZ7) hzn (unhide HZC) hzl).mono ?_
      rintro e w8 ⟨hb8, A8, n8, c8, rfl, hr8, hn8, hc8⟩
      have hs8 := hb8.size
      have HE8 := hide ((unhide HE7).below hb8)
      have HZ8 := hide (((unhide HZ7).below hb8).more (B' := w8.heap.size) hs8)
      have HP8 := hide (((unhide HP7).below hb8).more (B' := w8.heap.size) hs8)
      have HQ8 := hide hr8
      clear hb8 hr8
      generalize codeO ks p.2 = q
      have hS0 := hide ((Below.refl w8.heap.size w8).drew)
      have hin : Nonempty (InClass (fun W => Below w8.heap.size w8 W)) := ⟨⟨_, Below.refl _ _⟩⟩
      have H1 : Hid (∀ x : InClass (fun W => Below w8.heap.size w8 W), Calls Try.prog 10 #[.agg (bsV ks).toArray, .slice Az nz cz] x.val fun e w'' => e = .returned (.int .u64 (sumF ks p.2)) ∧ ∃ y : InClass (fun W => Below w8.heap.size w8 W), w'' = y.val) := hide (fun x =>
        class_call (sum_any ks p.2 (unhide HK) _ _ _ _ (((unhide HZ8).below x.ok).more x.ok.size) hzn (unhide HZC)) (fun w' h => x.ok.trans (h.mono x.ok.size)))
      have H2 : Hid (∀ x : InClass (fun W => Below w8.heap.size w8 W), Calls Try.prog 11 #[.agg (bsV ks).toArray, .slice Az nz cz] x.val fun e w'' => e = .returned (.int .u64 (sumF ks p.2)) ∧ ∃ y : InClass (fun W => Below w8.heap.size w8 W), w'' = y.val) := hide (fun x =>
        class_call (ref_sum_any ks p.2 (unhide HK) _ _ _ _ (((unhide HZ8).below x.ok).more x.ok.size) hzn (unhide HZC)) (fun w' h => x.ok.trans (h.mono x.ok.size)))
      go_upto_region 13 with fail
      refine wp_region_class (fun W => Below w8.heap.size w8 W) (by kernel_rfl) (by kernel_rfl) (unhide hS0) ?_
      repeat (go_big_quiet_step (fail))
      refine BigFrame.wpQuiet_want rfl (fun K hK => quiet_bytes_str 24 9 5 _ rfl A7 n7 c7 rfl w8.heap.size (outO ks p.2) (fun W hW => by obtain ⟨x, rfl⟩ := hW; exact (unhide HP8).below x.ok) Try.underlying24 Try.underlying5 Try.underlying9 (hK _ ?_))
      simp only [Act.put, List.setIfInBounds_toArray, List.set_cons_zero, List.set_cons_succ]
      repeat (go_big_quiet_step (fail))
      refine BigFrame.wpQuiet_want rfl (fun K hK => quiet_bytes_str 24 9 5 _ rfl A8 n8 c8 rfl w8.heap.size (outO ks p.2) (fun W hW => by obtain ⟨x, rfl⟩ := hW; exact (unhide HQ8).below x.ok) Try.underlying24 Try.underlying5 Try.underlying9 (hK _ ?_))
      simp only [Act.put, List.setIfInBounds_toArray, List.set_cons_zero, List.set_cons_succ]
      repeat (go_big_quiet_step (fail))
      refine BigFrame.wpQuiet_want rfl (fun K hK => quiet_load_row _ _ rfl w.heap.size rfl 23 (bsV ks).toArray _ (fun W hW => by obtain ⟨x, rfl⟩ := hW; exact (unhide HE8).key.below x.ok (unhide HE8).key.lt) Try.underlying23 rfl (key_size (unhide HK)) (hK _ ?_))
      simp only [Act.put, List.setIfInBounds_toArray, List.set_cons_zero, List.set_cons_succ]
      repeat (go_big_quiet_step ((first | (go_at_call 10; exact (unhide H1) _))))
      refine BigFrame.wpQuiet_want rfl (fun K hK => quiet_load_row _ _ rfl w.heap.size rfl 23 (bsV ks).toArray _ (fun W hW => by obtain ⟨x, rfl⟩ := hW; exact (unhide HE8).key.below x.ok (unhide HE8).key.lt) Try.underlying23 rfl (key_size (unhide HK)) (hK _ ?_))
      simp only [Act.put, List.setIfInBounds_toArray, List.set_cons_zero, List.set_cons_succ]
      repeat (go_big_quiet_step ((first | (go_at_call 11; exact (unhide H2) _))))
      refine wpQuiet_nil ?_
      intro _ hw'
      obtain ⟨x13, hw''⟩ := hw'
      subst hw''
      have HE13 := hide ((unhide HE8).below x13.ok)
      go_wp2_with fail
      go_roundw
      case rel => exact ⟨j + 1, by omega, by go_num, unhide HE13⟩
      case measure => simp [intOf]; omega
    · obtain rfl : j = 4 := by omega
      have hkr : w.heap.size < wr.heap.size := henv.key.lt
      obtain ⟨A0, n0, c0, e0, hr0, _⟩ := henv.rd _ hp0
      obtain ⟨A1, n1, c1, e1, hr1, _⟩ := henv.rd _ hp1
      injection e0 with ea eb ec
      subst ea eb ec
      injection e1 with ea eb ec
      subst ea eb ec
      have HEr := hide henv
      have HRr := hide ((hr0.drew).more (B' := wr.heap.size) (Nat.le_of_lt henv.row.lt))
      have HRb := hide (hr1.more (B' := wr.heap.size) (Nat.le_of_lt henv.row.lt))
      have hS0 : Below wr.heap.size wr wr.drew ∧ wr.drew.rangeAt w.heap.size 0 (bsV ks) := ⟨(Below.refl _ _).drew, (World.rangeAt_drew _ _ _ _).2 (range_of_blk henv.key)⟩
      have hu23 := Try.underlying23
      have hsz23 : (Try.prog.info? 23).map (·.size) = some (bsV ks).length := by
        have e : (bsV ks).length = 16 := by simp [unhide HK]
        rw [e]
        exact (by kernel_rfl : (Try.prog.info? 23).map (·.size) = some 16)
      clear henv hr0 hr1
      rw [show ((4 : Nat) : Int) = 4 from rfl]
      go_wp2_with fail
      refine wp_region_noPanic (wp_region_held_drew (S := fun W => Below wr.heap.size wr W ∧ W.rangeAt w.heap.size 0 (bsV ks)) (by kernel_rfl) hS0 (fun _ => ?_))
      refine th_take (i := 0) rfl (by kernel_rfl) (by kernel_rfl) (by kernel_rfl) (yieldsIf_load_mid (by rfl) _ _ rfl w.heap.size 0 rfl (bsV ks) _ (fun _ h => h.2) hu23 rfl hsz23) hS0 ?_
      simp only [Act.put, List.setIfInBounds_toArray, List.set_cons_zero, List.set_cons_succ]
      refine th_take (i := 1) rfl (by kernel_rfl) (by kernel_rfl) (by kernel_rfl) (y_move (v := .slice A n c) _ (by rfl) rfl rfl) hS0 ?_
      simp only [Act.put, List.setIfInBounds_toArray, List.set_cons_zero, List.set_cons_succ]
      refine th_take (i := 4) rfl (by kernel_rfl) (by kernel_rfl) (by kernel_rfl) (y_move (v := .slice (some ⟨g, 0, none⟩) (n + 8) c2) _ (by rfl) rfl rfl) hS0 ?_
      simp only [Act.put, List.setIfInBounds_toArray, List.set_cons_zero, List.set_cons_succ]
      refine th_take (i := 5) rfl (by kernel_rfl) (by kernel_rfl) (by kernel_rfl) (y_conv 24 9 5 _ (by rfl) rfl (some ⟨g, 0, none⟩) (n + 8) c2 rfl wr.heap.size (bs ++ leB (sumF ks bs) 8) (fun _ h => (unhide HRb).below h.1) Try.underlying24 Try.underlying5 Try.underlying9) hS0 ?_
      simp only [Act.put, List.setIfInBounds_toArray, List.set_cons_zero, List.set_cons_succ]
      refine th_one (i := 2) rfl (by kernel_rfl) (fun K hK => ?_)
      go_simp
      go_at_call 13
      refine (seal_any ks bs (unhide HK) A n c wr.drew (unhide HRr) hn (unhide HC) (by omega)).mono ?_
      rintro e w10 ⟨v10, rfl, ho10, hb10⟩
      have hS10 : Below wr.heap.size wr w10 ∧ w10.rangeAt w.heap.size 0 (bsV ks) := held_call hS0 hb10 (Nat.le_refl _) hkr
      obtain ⟨A10, c10, rfl, hc10, hm10⟩ := slice_of_own ho10
      have hbv : bsV bs ++ bsV (leB (sumF ks bs) 8) = bsV (bs ++ leB (sumF ks bs) 8) := by simp [bsV]
      have hr10 := Reads.of_own ho10
      rw [hbv] at hr10
      have HR10 := hide hr10
      clear ho10 hb10 hr10 hbv
      refine hK.out _ _ hS10 (fun _ => ?_)
      clear hK K
      refine th_one (i := 3) rfl (by kernel_rfl) (fun K hK => ?_)
      refine step_conv_b w10 (by rfl) 24 9 5 (.tmp 99) rfl A10 (n + 8) c10 rfl w10.heap.size (bs ++ leB (sumF ks bs) 8) (unhide HR10) Try.underlying24 Try.underlying5 Try.underlying9 ?_
      refine hK.out _ _ hS10 (fun _ => ?_)
      clear hK K
      simp only [Act.put, List.setIfInBounds_toArray, List.set_cons_zero, List.set_cons_succ]
      refine th_take (i := 6) rfl (by kernel_rfl) (by kernel_rfl) (by kernel_rfl) (y_eqs _ _ _ _ _ (by rfl) rfl rfl rfl) hS10 ?_
      simp only [Act.put, List.setIfInBounds_toArray, List.set_cons_zero, List.set_cons_succ]
      refine th_take (i := 7) rfl (by kernel_rfl) (by kernel_rfl) (by kernel_rfl) (y_move (v := .bool true) _ (by rfl) rfl rfl) hS10 ?_
      simp only [Act.put, List.setIfInBounds_toArray, List.set_cons_zero, List.set_cons_succ]
      refine th_take (i := 8) rfl (by kernel_rfl) (by kernel_rfl) (by kernel_rfl) (yieldsIf_load_mid (by rfl) _ _ rfl w.heap.size 0 rfl (bsV ks) _ (fun _ h => h.2) hu23 rfl hsz23) hS10 ?_
      simp only [Act.put, List.setIfInBounds_toArray, List.set_cons_zero, List.set_cons_succ]
      refine th_take (i := 9) rfl (by kernel_rfl) (by kernel_rfl) (by kernel_rfl) (y_move (v := .string s) _ (by rfl) rfl rfl) hS10 ?_
      simp only [Act.put, List.setIfInBounds_toArray, List.set_cons_zero, List.set_cons_succ]
      refine th_take (i := 10) rfl (by kernel_rfl) (by kernel_rfl) (by kernel_rfl) (y_move (v := .int .u64 x) _ (by rfl) rfl rfl) hS10 ?_
      simp only [Act.put, List.setIfInBounds_toArray, List.set_cons_zero, List.set_cons_succ]
      refine th_take (i := 11) rfl (by kernel_rfl) (by kernel_rfl) (by kernel_rfl) (y_move (v := .int .u64 y) _ (by rfl) rfl rfl) hS10 ?_
      simp only [Act.put, List.setIfInBounds_toArray, List.set_cons_zero, List.set_cons_succ]
      refine th_take (i := 13) rfl (by kernel_rfl) (by kernel_rfl) (by kernel_rfl) (yieldsIf_load_mid (by rfl) _ _ rfl w.heap.size 0 rfl (bsV ks) _ (fun _ h => h.2) hu23 rfl hsz23) hS10 ?_
      simp only [Act.put, List.setIfInBounds_toArray, List.set_cons_zero, List.set_cons_succ]
      refine th_take (i := 14) rfl (by kernel_rfl) (by kernel_rfl) (by kernel_rfl) (y_move (v := .string s) _ (by rfl) rfl rfl) hS10 ?_
      simp only [Act.put, List.setIfInBounds_toArray, List.set_cons_zero, List.set_cons_succ]
      refine th_take (i := 15) rfl (by kernel_rfl) (by kernel_rfl) (by kernel_rfl) (y_move (v := .int .u64 x) _ (by rfl) rfl rfl) hS10 ?_
      simp only [Act.put, List.setIfInBounds_toArray, List.set_cons_zero, List.set_cons_succ]
      refine th_take (i := 16) rfl (by kernel_rfl) (by kernel_rfl) (by kernel_rfl) (y_move (v := .int .u64 y) _ (by rfl) rfl rfl) hS10 ?_
      simp only [Act.put, List.setIfInBounds_toArray, List.set_cons_zero, List.set_cons_succ]
      refine th_one (i := 12) rfl (by kernel_rfl) (fun K hK => ?_)
      go_simp
      go_at_call 12
      refine (derive_any w10 ks (unhide HK) s (by omega) x y hx hy).mono ?_
      rintro e w11 ⟨rfl, hbw11⟩
      have hS11 : Below wr.heap.size wr w11 ∧ w11.rangeAt w.heap.size 0 (bsV ks) := held_call hS10 hbw11 (Nat.le_refl _) hkr
      clear hbw11
      refine hK.out _ _ hS11 (fun _ => ?_)
      clear hK K
      refine th_one (i := 17) rfl (by kernel_rfl) (fun K hK => ?_)
      go_simp
      go_at_call 17
      refine (ref_derive_any w11 ks (unhide HK) s (by omega) x y hx hy).mono ?_
      rintro e w12 ⟨rfl, hbw12⟩
      have hS12 : Below wr.heap.size wr w12 ∧ w12.rangeAt w.heap.size 0 (bsV ks) := held_call hS11 hbw12 (Nat.le_refl _) hkr
      clear hbw12
      refine hK.out _ _ hS12 (fun _ => ?_)
      clear hK K
      refine th_take (i := 18) rfl (by kernel_rfl) (by kernel_rfl) (by kernel_rfl) (y_arr 23 _ 5 (.tmp 109) (.tmp 114) (by rfl) rfl (derF ks s.data.toList x y) rfl rfl (by kernel_rfl) 16 i0 (der_len _ _ _ _) Try.underlying23 hi (by kernel_rfl) Try.underlying5 (by kernel_rfl)) hS12 ?_
      simp only [Act.put, List.setIfInBounds_toArray, List.set_cons_zero, List.set_cons_succ]
      refine th_take (i := 19) rfl (by kernel_rfl) (by kernel_rfl) (by kernel_rfl) (y_pick (v := .bool true) _ _ _ true (by rfl) rfl rfl rfl) hS12 ?_
      simp only [Act.put, List.setIfInBounds_toArray, List.set_cons_zero, List.set_cons_succ]
      refine th_take (i := 20) rfl (by kernel_rfl) (by kernel_rfl) (by kernel_rfl) (y_assign (v := .bool true) _ (by rfl) rfl rfl) hS12 ?_
      simp only [Act.put, List.setIfInBounds_toArray, List.set_cons_zero, List.set_cons_succ]
      refine wpAnyH_done (by kernel_rfl) (NoPanic.normal ?_) _
      go_wp2_with fail
      go_ret
      exact ⟨rfl, (unhide HEr).bel.trans (hS12.1.mono (unhide HEr).bel.size)⟩
theorem answers_walk (w : World) (ks : List UInt8) (hk : ks.length = 16) (A : Option Addr) (n c : Nat) (bs : List UInt8) (hn : n ≤ c) (hc : c ≤ maxLen) (hr : Reads w w.heap.size 1 A n (bsV bs)) (s : ByteArray) (_ : s.size ≤ maxLen)
    (x : Int) (hx : 0 ≤ x ∧ x ≤ 18446744073709551615) (y : Int) (hy : 0 ≤ y ∧ y ≤ 18446744073709551615) (at_ : Int) (hat : 0 ≤ at_ ∧ at_ ≤ 65535) (b_ : Int) (hb : 0 ≤ b_ ∧ b_ ≤ 255) :
    Calls Try.prog 6 #[.agg (bsV ks).toArray, .slice A n c, .string s, .int .u64 x, .int .u64 y, .int .u16 at_, .int .u8 b_] w fun e w' => e = .returned (.bool true) ∧ Below w.heap.size w w' := by
  by_cases h : 3000 < n ∨ 300 < s.size
  · exact answers_long w ks A n c s x y at_ b_ h
  · obtain ⟨k, rfl⟩ := Int.eq_ofNat_of_zero_le hat.1
    have e : b_ = ((toB b_).toNat : Int) := (toB_of hb.1 (by omega)).symm
    rw [e]
    exact answers_short w ks hk A n c bs hn hc hr s x y hx.1 hy.1 k (by omega) (toB b_) (by omega) (by omega)
end Go.Proofs.Ytaopgieejgcbeaa
