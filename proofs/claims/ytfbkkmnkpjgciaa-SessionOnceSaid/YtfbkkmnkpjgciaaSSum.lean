/- Printed by wip/gen_s35.py from XSum: the same without the reference of chapter 33. -/
import Derived.Test.YtfbkkmnkpjgciaaSSip
import Derived.Test.YtfbkkmnkpjgciaaWord
namespace Go.Proofs.Ytfbkkmnkpjgciaa
open Go.RowKit
def Sip.absorb (s : Sip) (m : Int) : Sip :=
  let t := Sip.run 2 ⟨s.a, s.b, s.c, xor64 s.d m⟩
  ⟨xor64 t.a m, t.b, t.c, t.d⟩
set_option maxHeartbeats 400000 in
theorem add_any (m : Int) (g p : Nat) (s : Sip) (w : World) (hs : Blk w g 112 s.cells) (hp : Blk w p 110 #[.pointer (some ⟨g, 0, none⟩)]) :
    Calls Try.prog 55 #[.int .u64 m, .pointer (some ⟨p, 0, none⟩)] w
      fun e w' => e = .returned (.tuple #[]) ∧ Blk w' g 112 (s.absorb m).cells ∧ w.grownBy w' (some g) := by
  have hne := hs.ne_ hp (by decide)
  obtain ⟨a, b, c, d⟩ := s
  have h1 := (hs.set_ 3 (.int .u64 (xor64 d m)))
  have p1 := hp.far (p := ⟨g, 3, none⟩) (fun e => hne e.symm) (.int .u64 (xor64 d m))
  have g1 := only_setCell (p := ⟨g, 3, none⟩) (World.grownBy.refl w (some g)) (.inl rfl) (.int .u64 (xor64 d m))
  have c3 := hs.cell 3
  have f3 := hs.frozen 3
  have cp := hp.cell 0
  have cp1 := p1.cell 0
  simp only [Sip.cells, List.getElem?_toArray, List.getElem?_cons_zero, List.getElem?_cons_succ] at c3 cp cp1
  have H1 := hide h1
  have P1 := hide p1
  have G1 := hide g1
  have HN := hide hne
  clear h1 p1 g1 hs hp hne
  go_enter Try.func55, Try.ntmps55
  go_wp2_with fail
  refine (rounds_any g 2 ⟨a, b, c, xor64 d m⟩ _ (by omega) (unhide H1)).mono ?_
  rintro e w1 ⟨rfl, hb, hg⟩
  have hg' := (unhide P1).grown hg (by simpa using fun e => (unhide HN) e.symm)
  generalize hT : Sip.run 2 ⟨a, b, c, xor64 d m⟩ = T at hb
  have HT := Lib.hid hT
  clear hT
  obtain ⟨a', b', c', d'⟩ := T
  have q0 := hg'.cell 0
  have q1 := hb.cell 0
  have q2 := hb.frozen 0
  simp only [Sip.cells, List.getElem?_toArray, List.getElem?_cons_zero] at q0 q1
  have HB := hide (hb.set_ 0 (.int .u64 (xor64 a' m)))
  have G2 := hide (only_setCell (p := ⟨g, 0, none⟩) (World.grownBy.trans (unhide G1) hg) (.inl rfl) (.int .u64 (xor64 a' m)))
  clear hg hg' hb
  go_wp2_with fail
  go_end0
  exact ⟨rfl, by simp only [Sip.absorb, HT.out]; exact unhide HB, unhide G2⟩
def Sip.feed (s : Sip) (bs : List UInt8) : Nat → Sip
  | 0 => s
  | i + 1 => (Sip.feed s bs i).absorb (leW ((bs.drop (8 * i)).take 8) : Int)
def Sip.start (ks : List UInt8) : Sip :=
  ⟨xor64 (leW (ks.take 8) : Int) 8317987319222330741, xor64 (leW (ks.drop 8) : Int) 7237128888997146477, xor64 (leW (ks.take 8) : Int) 7816392313619706465, xor64 (leW (ks.drop 8) : Int) 8387220255154660723⟩
def lastW (bs : List UInt8) : Int := ((bs.length % 256 * 2 ^ 56 ||| leW (bs.drop (8 * (bs.length / 8))) : Nat) : Int)
theorem leW_lt64 (l : List UInt8) (h : l.length ≤ 8) : leW l < 18446744073709551616 := by
  have h1 := leW_lt l
  have h2 : 256 ^ l.length ≤ 256 ^ 8 := pow_le _ _ h
  have h3 : (256 : Nat) ^ 8 = 18446744073709551616 := rfl
  omega
theorem lastW_eq (bs : List UInt8) (n i : Nat) (hn : bs.length = n) (hi : i = n / 8) :
    bits .or .u64 ((n : Int) % 256 * 72057594037927936) (leW (bs.drop (8 * i)) : Int) = lastW bs := by
  subst hi hn
  have h := leW_lt64 (bs.drop (8 * (bs.length / 8))) (by rw [List.length_drop]; omega)
  have e : ((bs.length : Int) % 256 * 72057594037927936) = ((bs.length % 256 * 72057594037927936 : Nat) : Int) := by omega
  rw [e, or_u64 _ _ (by omega) h]
  rfl
def Sip.fin (s : Sip) : Int :=
  let t := Sip.run 4 ⟨s.a, s.b, xor64 s.c 255, s.d⟩
  xor64 (xor64 (xor64 t.a t.b) t.c) t.d
def sumF (ks bs : List UInt8) : Int := (((Sip.start ks).feed bs (bs.length / 8)).absorb (lastW bs)).fin
set_option maxHeartbeats 400000 in
theorem sum_any (ks bs : List UInt8) (hk : ks.length = 16) (A : Option Addr) (n c : Nat) (w : World) (h : Reads w w.heap.size 1 A n (bsV bs)) (hn : n ≤ c) (hc : c ≤ maxLen) :
    Calls Try.prog 48 #[.agg (bsV ks).toArray, .slice A n c] w
      fun e w' => e = .returned (.int .u64 (sumF ks bs)) ∧ Below w.heap.size w w' := by
  have hlen : bs.length = n := by have := h.1; simpa using this
  have HLn := Lib.hid hlen
  clear hlen
  have hK := Blk.new w 36 (bsV ks).toArray
  have r1 := Reads.of_blk hK 0 8 (by simp [hk]) (Nat.lt_succ_self _)
  have r2 := Reads.of_blk hK 8 8 (by simp [hk]) (Nat.lt_succ_self _)
  have e1 : ((bsV ks).drop 0).take 8 = bsV (ks.take 8) := by simp [bsV, List.map_take]
  have e2 : ((bsV ks).drop 8).take 8 = bsV (ks.drop 8) := by
    rw [List.take_of_length_le (by simp [hk])]; simp [bsV, List.map_drop]
  rw [e1] at r1
  rw [e2] at r2
  clear e1 e2
  have k1 := fun m => word_any _ 8 16 _ ((w.alloc (.cells (bsV ks).toArray 36)).drewN m) _ (r1.drewN m) (by omega)
  have k2 := fun m => word_any _ 8 8 _ ((w.alloc (.cells (bsV ks).toArray 36)).drewN m) _ (r2.drewN m) (by omega)
  have HK := hide hK
  have K1 := hide k1
  have K2 := hide k2
  have HL := hide hk
  clear hK r1 r2 k1 k2 hk
  go_enter Try.func48, Try.ntmps48
  go_wp2_with fail
  go_quiet (first | (go_at_call 54; with_reducible exact quiet_left ((unhide K1) _)) | (go_at_call 54; with_reducible exact quiet_left ((unhide K2) _)))
  go_wp2_with fail
  go_loopw [1] (fun x wr => ∃ (i m c' : Nat) (A' : Option Addr), Hid (n = 8 * i + m) ∧ m ≤ c' ∧ c' ≤ maxLen ∧ x = .slice A' m c' ∧ Reads wr w.heap.size 1 A' m (bsV (bs.drop (8 * i))) ∧
      Blk wr (w.heap.size + 1) 112 ((Sip.start ks).feed bs i).cells ∧ Blk wr (w.heap.size + 1 + 1) 110 #[.pointer (some ⟨w.heap.size + 1, 0, none⟩)] ∧ Below w.heap.size w wr)
    (fun x _ => sliceLen x)
  case atStart =>
    refine ⟨0, n, c, A, Lib.hid (by omega), hn, hc, rfl, ?_, ?_, ?_, ?_⟩
    · exact (((h.alloc (Nat.le_refl _) _).drewN _).alloc (by rw [World.heap_drewN]; exact size_le _ _) _).alloc (by rw [size_alloc, World.heap_drewN]; have := size_le w (.cells (bsV ks).toArray 36); omega) _
    · exact (Blk.new' (by rw [World.heap_drewN, size_alloc])).alloc _
    · exact Blk.new' (by rw [size_alloc, World.heap_drewN, size_alloc])
    · exact ((below_drewN ((Below.refl _ _).alloc (Nat.le_refl _) _) _).alloc (by rw [World.heap_drewN, size_alloc]; omega) _).alloc (by rw [size_alloc, World.heap_drewN, size_alloc]; omega) _
  case round =>
    obtain ⟨i, m, c', A', HI, hmc, hcm, rfl, hr, hb, hp, hg⟩ := hrel
    by_cases h8 : 8 ≤ m
    · have ht := hr.take h8
      obtain ⟨ad, rfl⟩ := hr.some_ (by omega)
      have hd := hr.cut (cap := c') h8 hmc
      have e1 : (bsV (bs.drop (8 * i))).take 8 = bsV ((bs.drop (8 * i)).take 8) := by simp [bsV, List.map_take]
      have e2 : (bsV (bs.drop (8 * i))).drop (8 * 1) = bsV (bs.drop (8 * (i + 1))) := by simp [bsV, List.map_drop, List.drop_drop, Nat.mul_add]
      rw [e1] at ht
      rw [e2] at hd
      clear e1 e2
      unfold maxLen at hcm
      have HT := hide ht
      have HD := hide hd
      have HB := hide hb
      have HP := hide hp
      have HR := hide hr
      clear ht hd hb hp hr h hn hc
      go_wp2_with fail
      refine (word_any _ _ _ _ _ _ (unhide HT) (by omega)).mono ?_
      rintro e w1 ⟨rfl, rfl⟩
      go_wp2_with fail
      refine (add_any _ _ _ _ _ (unhide HB) (unhide HP)).mono ?_
      rintro e w1 ⟨rfl, hb1, hg1⟩
      have HB1 := hide hb1
      have HP1 := hide ((unhide HP).grown hg1 (by simp))
      have HD1 := hide ((unhide HD).grown hg1 hg.size (fun g e => by injection e; omega))
      have HG1 := hide (hg.grown hg1 hg.size (fun g e => by injection e; omega))
      clear hb1 hg1 hg
      go_wp2_with fail
      go_roundw
      case rel =>
        refine ⟨i + 1, m - 8, c' - 8, _, Lib.hid (by have := HI.out; omega), by omega, by unfold maxLen; omega, ?_, unhide HD1, ?_, unhide HP1, unhide HG1⟩
        · split <;> rfl
        · exact unhide HB1
      case measure => simp [sliceLen]; omega
    · have h0 := add_any (bits .or .u64 ((n : Int) % 256 * 72057594037927936) (leW (bs.drop (8 * i)) : Int)) _ _ _ _ hb hp
      have HR := hide hr
      have HP := hide hp
      have H0 := hide h0
      clear h0 hr hb hp h hn hc
      have hm : m ≤ 8 := by omega
      go_wp2_with fail
      refine (word_any _ _ _ _ _ _ (unhide HR) hm).mono ?_
      rintro e w1 ⟨rfl, rfl⟩
      go_wp2_with fail
      refine (unhide H0).mono ?_
      rintro e w1 ⟨rfl, hb1, hg1⟩
      have hp1 := (unhide HP).grown hg1 (by simp)
      have hl1 := hg.grown hg1 hg.size (fun g e => by injection e; omega)
      generalize hT : Sip.absorb ((Sip.start ks).feed bs i) (bits .or .u64 ((n : Int) % 256 * 72057594037927936) (leW (bs.drop (8 * i)) : Int)) = T at hb1
      have HT := Lib.hid hT
      clear hT hg hg1
      obtain ⟨a, b, cc, d⟩ := T
      have q0 := hp1.cell 0
      have q1 := hb1.cell 2
      have q2 := hb1.frozen 2
      simp only [Sip.cells, List.getElem?_toArray, List.getElem?_cons_zero, List.getElem?_cons_succ] at q0 q1
      have hp2 := hp1.far (p := ⟨w.heap.size + 1, 2, none⟩) (by simp) (.int .u64 (xor64 cc 255))
      have q3 := hp2.cell 0
      simp only [List.getElem?_toArray, List.getElem?_cons_zero] at q3
      have HP2 := hide hp2
      have HR4 := hide (rounds_any (w.heap.size + 1) 4 ⟨a, b, xor64 cc 255, d⟩ _ (by omega) (hb1.set_ 2 (.int .u64 (xor64 cc 255))))
      have HL2 := hide (hl1.setCell (p := ⟨w.heap.size + 1, 2, none⟩) (by simp) (.int .u64 (xor64 cc 255)))
      clear hp1 hl1 hb1 hp2
      go_wp2_with fail
      refine (unhide HR4).mono ?_
      rintro e w2 ⟨rfl, hb2, hg2⟩
      have hp3 := (unhide HP2).grown hg2 (by simp)
      have HG3 := hide ((unhide HL2).grown hg2 (unhide HL2).size (fun g e => by injection e; omega))
      generalize hT2 : Sip.run 4 ⟨a, b, xor64 cc 255, d⟩ = T2 at hb2
      have HT2 := Lib.hid hT2
      clear hT2 hg2
      obtain ⟨a2, b2, c2, d2⟩ := T2
      have z := hp3.cell 0
      have z0 := hb2.cell 0
      have z1 := hb2.cell 1
      have z2 := hb2.cell 2
      have z3 := hb2.cell 3
      simp only [Sip.cells, List.getElem?_toArray, List.getElem?_cons_zero, List.getElem?_cons_succ] at z z0 z1 z2 z3
      clear hp3 hb2
      go_wp2_with fail
      go_quiet (fail)
      go_wp2_with fail
      go_ret
      refine ⟨?_, below_drewN (unhide HG3) _⟩
      have hi : i = n / 8 := by have := HI.out; omega
      have e1 : sumF ks bs = xor64 (xor64 (xor64 a2 b2) c2) d2 := by
        unfold sumF
        rw [← lastW_eq bs n i HLn.out hi, HLn.out, ← hi, HT.out]
        simp only [Sip.fin, HT2.out]
      rw [e1]
      rfl
end Go.Proofs.Ytfbkkmnkpjgciaa
