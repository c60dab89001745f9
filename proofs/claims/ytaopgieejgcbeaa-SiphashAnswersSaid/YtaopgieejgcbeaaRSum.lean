/- The reference's Sum returns the same digest sumF; nothing that was there turns. -/
import Derived.Test.YtaopgieejgcbeaaSum
import Derived.Test.YtaopgieejgcbeaaMem
namespace Go.Proofs.Ytaopgieejgcbeaa
open Go.RowKit
def Sip.all (s : Sip) (bs : List UInt8) (i : Nat) : Sip :=
  if i ≤ bs.length / 8 then s.feed bs i else (s.feed bs (bs.length / 8)).absorb (lastW bs)
def chunkW (bs : List UInt8) (i : Nat) : Int := if i < bs.length / 8 then (leW ((bs.drop (8 * i)).take 8) : Int) else lastW bs
theorem all_step (s : Sip) (bs : List UInt8) (i : Nat) (h : i ≤ bs.length / 8) : s.all bs (i + 1) = (s.all bs i).absorb (chunkW bs i) := by
  unfold Sip.all chunkW
  by_cases h1 : i < bs.length / 8
  · rw [if_pos (by omega), if_pos h, if_pos h1]; rfl
  · rw [if_neg (by omega), if_pos h, if_neg h1]
    congr 2
    omega
theorem lastW_eq' (bs : List UInt8) (n i : Nat) (hn : bs.length = n) (hi : i = n / 8) :
    bits .or .u64 (leW (bs.drop (8 * i)) : Int) ((n : Int) % 256 * 72057594037927936) = lastW bs := by
  subst hi hn
  have h := leW_lt64 (bs.drop (8 * (bs.length / 8))) (by rw [List.length_drop]; omega)
  have e : ((bs.length : Int) % 256 * 72057594037927936) = ((bs.length % 256 * 72057594037927936 : Nat) : Int) := by omega
  rw [e, or_u64 _ _ h (by omega), Nat.or_comm]
  rfl
theorem all_zero (s : Sip) (bs : List UInt8) : s.all bs 0 = s := by simp [Sip.all, Sip.feed]
theorem all_last (s : Sip) (bs : List UInt8) (i : Nat) (h : i = bs.length / 8 + 1) : s.all bs i = (s.feed bs (bs.length / 8)).absorb (lastW bs) := by
  unfold Sip.all; rw [if_neg (by omega)]
/-- The reference's word: from the top. -/
theorem leW_up {bs : List UInt8} {k : Nat} {b : UInt8} (h : bs[k]? = some b) (hl : bs.length ≤ 8) :
    bits .or .u64 (IntKind.u64.wrap ((leW (bs.drop (k + 1)) : Int) * 256)) (b.toNat : Int) = (leW (bs.drop k) : Int) := by
  have hk : k < bs.length := (List.getElem?_eq_some_iff.1 h).1
  have hb : bs[k] = b := (List.getElem?_eq_some_iff.1 h).2
  have h1 := leW_lt (bs.drop (k + 1))
  rw [List.length_drop] at h1
  have h2 : 256 ^ (bs.length - (k + 1)) ≤ 256 ^ 7 := pow_le _ _ (by omega)
  have h3 : (256 : Nat) ^ 7 = 72057594037927936 := rfl
  have hbl := b.toNat_lt
  have e : bs.drop k = b :: bs.drop (k + 1) := by rw [List.drop_eq_getElem_cons hk, hb]
  rw [e, leW, IntKind.wrap_u64]
  have e1 : (leW (bs.drop (k + 1)) : Int) * 256 % 18446744073709551616 = ((leW (bs.drop (k + 1)) * 256 : Nat) : Int) := by omega
  rw [e1, or_u64 _ _ (by omega) (by omega)]
  congr 1
  rw [Nat.mul_comm, show (256 : Nat) = 2 ^ 8 from rfl, ← Nat.two_pow_add_eq_or_of_lt (by simpa using hbl)]
  omega
set_option maxHeartbeats 400000 in
theorem ref_word_any (A : Option Addr) (n c : Nat) (bs : List UInt8) (w : World) (B : Nat) (h : Reads w B 1 A n (bsV bs)) (hn : n ≤ 8) :
    Calls Try.prog 22 #[.slice A n c] w fun e w' => e = .returned (.int .u64 (leW bs : Int)) ∧ w = w' := by
  have hlen : bs.length = n := by have := h.1; simpa using this
  have HL := Lib.hid hlen
  clear hlen
  go_enter Try.func22, Try.ntmps22
  go_wp2
  go_loop [3, 4] (fun x i => ∃ k : Nat, k ≤ n ∧ i = .int .i64 ((k : Int) - 1) ∧ x = .int .u64 (leW (bs.drop k) : Int)) (fun _ i => (intOf i + 1).toNat)
  case atStart => exact ⟨n, Nat.le_refl _, rfl, by rw [List.drop_of_length_le (by rw [HL.out]; omega)]; rfl⟩
  case round =>
    obtain ⟨k, hk, rfl, rfl⟩ := hrel
    by_cases hlt : 0 < k
    · obtain ⟨k, rfl⟩ : ∃ j, k = j + 1 := ⟨k - 1, by omega⟩
      obtain ⟨ad, u, rfl, _, hx, hc⟩ := h.at_ (show k < n by omega)
      obtain ⟨b, hb, rfl, hb0, hb1⟩ := bsV_get hx
      have HB := Lib.hid hb
      clear hb hx
      have ek : ((k + 1 : Nat) : Int) - 1 = (k : Int) := by omega
      rw [ek]
      clear ek
      go_wp2
      go_round
      case rel => exact ⟨k, by omega, rfl, by rw [leW_up HB.out (by rw [HL.out]; omega)]⟩
      case measure => simp [intOf]
    · obtain rfl : k = 0 := by omega
      go_wp2
      go_ret
      exact ⟨rfl, rfl⟩
set_option maxHeartbeats 1000000 in
theorem ref_sum_any (ks bs : List UInt8) (hk : ks.length = 16) (A : Option Addr) (n c : Nat) (w : World) (h : Reads w w.heap.size 1 A n (bsV bs)) (hn : n ≤ c) (hc : c ≤ maxLen) :
    Calls Try.prog 11 #[.agg (bsV ks).toArray, .slice A n c] w
      fun e w' => e = .returned (.int .u64 (sumF ks bs)) ∧ Below w.heap.size w w' := by
  have hlen : bs.length = n := by have := h.1; simpa using this
  have HLn := Lib.hid hlen
  clear hlen
  have hK := Blk.new w 23 (bsV ks).toArray
  have r1 := Reads.of_blk hK 0 8 (by simp [hk]) (Nat.lt_succ_self _)
  have r2 := Reads.of_blk hK 8 8 (by simp [hk]) (Nat.lt_succ_self _)
  have e1 : ((bsV ks).drop 0).take 8 = bsV (ks.take 8) := by simp [bsV, List.map_take]
  have e2 : ((bsV ks).drop 8).take 8 = bsV (ks.drop 8) := by
    rw [List.take_of_length_le (by simp [hk])]; simp [bsV, List.map_drop]
  rw [e1] at r1
  rw [e2] at r2
  clear e1 e2
  have k1 := fun m => ref_word_any _ 8 16 _ ((w.alloc (.cells (bsV ks).toArray 23)).drewN m) _ (r1.drewN m) (by omega)
  have k2 := fun m => ref_word_any _ 8 8 _ ((w.alloc (.cells (bsV ks).toArray 23)).drewN m) _ (r2.drewN m) (by omega)
  have HK := hide hK
  have K1 := hide k1
  have K2 := hide k2
  have HL := hide hk
  clear hK r1 r2 k1 k2 hk
  unfold maxLen at hc
  go_enter Try.func11, Try.ntmps11
  go_wp2_with fail
  go_quiet (first | (go_at_call 22; with_reducible exact quiet_left ((unhide K1) _)) | (go_at_call 22; with_reducible exact quiet_left ((unhide K2) _)))
  go_wp2_with fail
  go_loopw [8] (fun x wr => ∃ i : Nat, i ≤ n / 8 + 1 ∧ x = .int .i64 i ∧ Blk wr (w.heap.size + 1) 53 ((Sip.start ks).all bs i).cells ∧ Below w.heap.size w wr)
    (fun x _ => n / 8 + 1 - (intOf x).toNat)
  case atStart =>
    refine ⟨0, by omega, rfl, ?_, ?_⟩
    · exact Blk.new' (by rw [World.heap_drewN, size_alloc])
    · exact (below_drewN ((Below.refl _ _).alloc (Nat.le_refl _) _) _).alloc (by rw [World.heap_drewN, size_alloc]; omega) _
  case round =>
    obtain ⟨i, hi, rfl, hb, hg⟩ := hrel
    have hr := h.below hg
    generalize hT : (Sip.start ks).all bs i = T at hb
    have HT := Lib.hid hT
    clear hT
    obtain ⟨s0, s1, s2, s3⟩ := T
    have z0 := hb.cell 0
    have z1 := hb.cell 1
    have z2 := hb.cell 2
    have z3 := hb.cell 3
    have y0 := hb.frozen 0
    have y1 := hb.frozen 1
    have y2 := hb.frozen 2
    have y3 := hb.frozen 3
    simp only [Sip.cells, List.getElem?_toArray, List.getElem?_cons_zero, List.getElem?_cons_succ] at z0 z1 z2 z3
    have HR := hide hr
    have HB := hide hb
    have HG := hide hg
    have HH := hide h
    clear hr hb hg h
    by_cases h0 : i ≤ n / 8
    · obtain ⟨M, HM⟩ : ∃ M : Int, Hid (M = chunkW bs i) := ⟨_, Lib.hid rfl⟩
      go_upto_if 34 with fail
      go_cut [9] from 23 to 65 (fun x wx => x = .int .u64 M ∧ wr = wx)
      case first =>
        by_cases h1 : i < n / 8
        · obtain ⟨ad, rfl⟩ := (unhide HH).some_ (by omega)
          have hs : Reads wr w.heap.size 1 (some (ad.add (8 * i))) 8 (bsV ((bs.drop (8 * i)).take 8)) := by
            have := (unhide HR).sub (k := 8 * i) (m := 8) (by omega)
            simpa [bsV, List.map_take, List.map_drop] using this
          have HS := hide hs
          clear hs
          go_wp2_with fail
          refine (ref_word_any _ _ _ _ _ _ (unhide HS) (by omega)).mono ?_
          rintro e w1 ⟨rfl, rfl⟩
          go_wp2_with fail
          go_meet
          case rel => exact ⟨by rw [HM.out, chunkW, HLn.out, if_pos h1], rfl⟩
        · have hA3 : (A = none) ∨ (∃ ad, A = some ad ∧ 8 * i = c) ∨ (∃ ad, A = some ad ∧ ¬ c = 8 * i) := by
            rcases A with _ | ad
            · exact .inl rfl
            · by_cases e : 8 * i = c
              · exact .inr (.inl ⟨ad, rfl, e⟩)
              · exact .inr (.inr ⟨ad, rfl, fun h => e h.symm⟩)
          have ht : ∀ A', (8 * i < n → A' = A.map (·.add (8 * i))) → Reads wr w.heap.size 1 A' (n - 8 * i) (bsV (bs.drop (8 * i))) := fun A' h' => by
            have := (unhide HR).tail_ (k := 8 * i) (A' := A') (by omega) h'
            simpa [bsV, List.map_drop] using this
          have HT2 := hide ht
          clear ht
          have h8 : n - 8 * i ≤ 8 := by omega
          rcases hA3 with rfl | ⟨ad, rfl, rfl⟩ | ⟨ad, rfl, hne⟩
          all_goals
            go_wp2_with fail
            refine (ref_word_any _ _ _ (bs.drop (8 * i)) _ w.heap.size ?_ (by omega)).mono ?_
            · first
                | exact (unhide HT2) _ (fun _ => rfl)
                | (have h2 := (unhide HT2) (some ad) (fun h => absurd h (by omega))
                   rw [show n - 8 * i = 0 from by omega] at h2
                   exact h2)
            rintro e w1 ⟨rfl, rfl⟩
            go_wp2_with fail
            go_meet
            case rel => exact ⟨by rw [HM.out, chunkW, HLn.out, if_neg h1, lastW_eq' bs n i HLn.out (by omega)], rfl⟩
      case rest =>
        obtain ⟨rfl, rfl⟩ := hcut
        have hcell := ref_rounds_any 2 ⟨s0, s1, s2, xor64 s3 M⟩
        have hb0 := (unhide HB).set_ 3 (.int .u64 (xor64 s3 M))
        have hg0 := (unhide HG).setCell (p := ⟨w.heap.size + 1, 3, none⟩) (by simp) (.int .u64 (xor64 s3 M))
        have HC := hide hcell
        have HB0 := hide hb0
        have HG0 := hide hg0
        clear hcell hb0 hg0
        go_wp2_with fail
        refine (unhide HC _ (by omega)).mono ?_
        rintro e w1 ⟨rfl, hl1⟩
        have hb1 := (unhide HB0).below hl1 (unhide HB0).lt
        have hg1 := (unhide HG0).trans (hl1.mono (unhide HG0).size)
        generalize hT1 : Sip.run 2 ⟨s0, s1, s2, xor64 s3 M⟩ = T1
        have HT1 := Lib.hid hT1
        clear hT1 hl1
        obtain ⟨t0, t1, t2, t3⟩ := T1
        simp only [Sip.cells]
        have x0 := hb1.cell 0
        have x1 := hb1.cell 1
        have x2 := hb1.cell 2
        have x3 := hb1.cell 3
        have v0 := hb1.frozen 0
        have v1 := hb1.frozen 1
        have v2 := hb1.frozen 2
        have v3 := hb1.frozen 3
        simp [Sip.cells] at x0 x1 x2 x3
        have HB5 := hide (((((hb1.set_ 0 (.int .u64 t0)).set_ 1 (.int .u64 t1)).set_ 2 (.int .u64 t2)).set_ 3 (.int .u64 t3)).set_ 0 (.int .u64 (xor64 t0 M)))
        have HG5 := hide (((((hg1.setCell (p := ⟨w.heap.size + 1, 0, none⟩) (by simp) (.int .u64 t0)).setCell (p := ⟨w.heap.size + 1, 1, none⟩) (by simp) (.int .u64 t1)).setCell (p := ⟨w.heap.size + 1, 2, none⟩) (by simp) (.int .u64 t2)).setCell (p := ⟨w.heap.size + 1, 3, none⟩) (by simp) (.int .u64 t3)).setCell (p := ⟨w.heap.size + 1, 0, none⟩) (by simp) (.int .u64 (xor64 t0 M)))
        clear hb1 hg1
        go_wp2_with fail
        go_roundw
        case rel =>
          refine ⟨i + 1, by omega, by go_num, ?_, unhide HG5⟩
          rw [all_step _ _ _ (by rw [HLn.out]; exact h0), HT.out, ← HM.out]
          simp only [Sip.absorb, HT1.out]
          exact unhide HB5
        case measure => simp [intOf]; omega
    · have HI := Lib.hid (show i = n / 8 + 1 by omega)
      have HR4 := hide (ref_rounds_any 4 ⟨s0, s1, xor64 s2 255, s3⟩)
      have HB0 := hide ((unhide HB).set_ 2 (.int .u64 (xor64 s2 255)))
      have HG0 := hide ((unhide HG).setCell (p := ⟨w.heap.size + 1, 2, none⟩) (by simp) (.int .u64 (xor64 s2 255)))
      go_wp2_with fail
      refine (unhide HR4 _ (by omega)).mono ?_
      rintro e w1 ⟨rfl, hl1⟩
      have hb1 := (unhide HB0).below hl1 (unhide HB0).lt
      have hg1 := (unhide HG0).trans (hl1.mono (unhide HG0).size)
      generalize hT1 : Sip.run 4 ⟨s0, s1, xor64 s2 255, s3⟩ = T1
      have HT1 := Lib.hid hT1
      clear hT1 hl1
      obtain ⟨t0, t1, t2, t3⟩ := T1
      simp only [Sip.cells]
      have x0 := hb1.cell 0
      have x1 := hb1.cell 1
      have x2 := hb1.cell 2
      have x3 := hb1.cell 3
      have v0 := hb1.frozen 0
      have v1 := hb1.frozen 1
      have v2 := hb1.frozen 2
      have v3 := hb1.frozen 3
      simp [Sip.cells] at x0 x1 x2 x3
      have HG5 := hide ((((hg1.setCell (p := ⟨w.heap.size + 1, 0, none⟩) (by simp) (.int .u64 t0)).setCell (p := ⟨w.heap.size + 1, 1, none⟩) (by simp) (.int .u64 t1)).setCell (p := ⟨w.heap.size + 1, 2, none⟩) (by simp) (.int .u64 t2)).setCell (p := ⟨w.heap.size + 1, 3, none⟩) (by simp) (.int .u64 t3))
      clear hb1 hg1
      go_wp2_with fail
      go_ret
      refine ⟨?_, unhide HG5⟩
      have e1 : sumF ks bs = xor64 (xor64 (xor64 t0 t1) t2) t3 := by
        unfold sumF
        rw [← all_last _ _ i (by rw [HLn.out]; exact HI.out), HT.out]
        simp only [Sip.fin, HT1.out]
      rw [e1]
      rfl
end Go.Proofs.Ytaopgieejgcbeaa
