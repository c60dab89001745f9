/- event.data returns the three bytes that six hexadecimal digits spell. No condition. -/
import Derived.Test.YtklffnfaigmjfaaDoorENumW
import Derived.Test.YtklffnfaigmjfaaDoorEMake
namespace Go.Proofs.YtklffnfaigmjfaaDoor
open Go.RowKit Go.Sort
def hexSet : List UInt8 := [48, 49, 50, 51, 52, 53, 54, 55, 56, 57, 97, 98, 99, 100, 101, 102]
theorem isH_mem (b : UInt8) : hexSet.contains b = isH b := by
  have h : ∀ n : Fin 256, hexSet.contains (UInt8.ofNat n.val) = isH (UInt8.ofNat n.val) := by decide +kernel
  have h2 := h ⟨b.toNat, UInt8.toNat_lt b⟩
  simpa using h2
theorem ix_hex (b : UInt8) (hb : isH b = true) : Lib.indexByte hexSet b = (hxN b : Int) ∧ hxN b < 16 := by
  have h : ∀ n : Fin 256, isH (UInt8.ofNat n.val) = true → Lib.indexByte hexSet (UInt8.ofNat n.val) = (hxN (UInt8.ofNat n.val) : Int) ∧ hxN (UInt8.ofNat n.val) < 16 := by decide +kernel
  have h2 := h ⟨b.toNat, UInt8.toNat_lt b⟩
  simp only [UInt8.ofNat_toNat] at h2
  exact h2 hb
theorem trim_hex (l : List UInt8) : Lib.trimS l hexSet = [] ↔ l.all isH = true := by
  unfold Lib.trimS Lib.trimLeftS Lib.trimRightS
  have hf : (hexSet.contains ·) = isH := funext isH_mem
  rw [hf]
  constructor
  · intro h
    have h1 : ∀ b ∈ (l.reverse.dropWhile isH).reverse, isH b = true := (dw_nil _ _).1 h
    have h2 : l.reverse.dropWhile isH = [] := by
      rcases hd : l.reverse.dropWhile isH with _ | ⟨c, r⟩
      · rfl
      · have hc := List.head?_dropWhile_not isH l.reverse
        rw [hd] at hc h1
        simp at hc
        have := h1 c (by simp)
        rw [hc] at this
        cases this
    have h3 := (dw_nil _ _).1 h2
    simpa using h3
  · intro h
    have h2 : l.reverse.dropWhile isH = [] := (dw_nil _ _).2 (by simpa using h)
    rw [h2]
    rfl
theorem trimh_at (w : World) (l : List UInt8) (hl : l.length ≤ 1000) (r : List UInt8) (hr : Lib.trimS l hexSet = r) :
    Calls Tryd.prog 59 #[.string ⟨l.toArray⟩, .string ⟨#[48, 49, 50, 51, 52, 53, 54, 55, 56, 57, 97, 98, 99, 100, 101, 102]⟩] w fun e w' => e = .returned (.string ⟨r.toArray⟩) ∧ Below w.heap.size w w' := by
  subst hr
  have h := Any.strings_Trim_laid Tryd.lays160 (by kernel_rfl) ⟨l.toArray⟩ ⟨#[48, 49, 50, 51, 52, 53, 54, 55, 56, 57, 97, 98, 99, 100, 101, 102]⟩ w (by rw [size_mk]; omega) (by decide) (ascii_of_all (by decide))
  rw [toList_mk] at h
  exact h
theorem ix_at (w : World) (b : UInt8) (hb : isH b = true) (n : Nat) (hn : hxN b = n) :
    Calls Tryd.prog 61 #[.string ⟨#[48, 49, 50, 51, 52, 53, 54, 55, 56, 57, 97, 98, 99, 100, 101, 102]⟩, .int .u8 (b.toNat : Int)] w fun e w' => e = .returned (.int .i64 (n : Int)) ∧ w = w' := by
  refine (Tryd.strings_IndexByte ⟨#[48, 49, 50, 51, 52, 53, 54, 55, 56, 57, 97, 98, 99, 100, 101, 102]⟩ (b.toNat : Int) w).mono fun e w' h => ⟨?_, h.2.symm⟩
  rw [h.1]
  have e1 : ((b.toNat : Int)).toNat.toUInt8 = b := by simp
  rw [e1]
  have e2 : (⟨#[48, 49, 50, 51, 52, 53, 54, 55, 56, 57, 97, 98, 99, 100, 101, 102]⟩ : ByteArray).data.toList = hexSet := rfl
  rw [e2, (ix_hex b hb).1, hn]
theorem or_hex (h m : Nat) (hh : h < 16) (hm : m < 16) : bits .or .i64 ((h : Int) * 16) (m : Int) = ((16 * h + m : Nat) : Int) := by
  have k : ∀ a b : Fin 16, bits .or .i64 ((a.val : Int) * 16) (b.val : Int) = ((16 * a.val + b.val : Nat) : Int) := by decide +kernel
  exact k ⟨h, hh⟩ ⟨m, hm⟩
def DPost (w : World) (d0 d1 d2 : Nat) (ok : Bool) (e : Ending) (w' : World) : Prop := e = .returned (.tuple #[.agg #[.int .u8 (d0 : Int), .int .u8 (d1 : Int), .int .u8 (d2 : Int)], .bool ok]) ∧ Below w.heap.size w w'
set_option maxRecDepth 100000 in
set_option maxHeartbeats 4000000 in
theorem data_bad (w : World) (l : List UInt8) (hl : l.length ≤ maxLen) (hb : hexF l = false) :
    Calls Tryd.prog 49 #[.string ⟨l.toArray⟩] w (DPost w 0 0 0 false) := by
  unfold maxLen at hl
  have hz := size_list l _ hl
  obtain ⟨r, hr⟩ : ∃ r, w.heap.size = r := ⟨_, rfl⟩
  have HR := hide hr
  obtain ⟨W1, hW1⟩ : ∃ W1, (w.alloc (.cells #[.int .u8 0, .int .u8 0, .int .u8 0] 24)).alloc (.cells #[.int .u8 0, .int .u8 0, .int .u8 0] 24) = W1 := ⟨_, rfl⟩
  have R1 : Hid (Blk W1 r 24 #[.int .u8 0, .int .u8 0, .int .u8 0]) := hide (hr ▸ hW1 ▸ (Blk.new w _ _).alloc _)
  have N1 : Hid (Blk W1 (r + 1) 24 #[.int .u8 0, .int .u8 0, .int .u8 0]) := hide (hW1 ▸ Blk.new' (by rw [size_alloc, hr]))
  have B1 : Hid (Below r w W1) := hide (hW1 ▸ hr ▸ ((Below.refl w.heap.size w).alloc (Nat.le_refl _) _).alloc (by simp) _)
  have HW1 := hide hW1
  clear hr hW1
  by_cases h6 : l.length = 6
  · have hna : l.all isH = false := by
      cases h : l.all isH
      · rfl
      · rw [hexF, h6, h] at hb; cases hb
    obtain ⟨t, ht⟩ : ∃ t, Lib.trimS l hexSet = t := ⟨_, rfl⟩
    have htn := trim_hex l
    rw [ht] at htn
    have TR := hide fun W => trimh_at W l (by omega) t ht
    rcases t with _ | ⟨c, t⟩
    · rw [htn.1 rfl] at hna; cases hna
    have h6i : (l.length : Int) = 6 := by omega
    have h6' : ((l.length : Int) != 6) = false := by simp; omega
    clear htn ht hb hna
    go_enter Tryd.func49, Tryd.ntmps49
    go_upto_region 2 with fail
    rw [unhide HW1]
    simp only [unhide HR]
    go_wp2_with (first
      | (go_at_call 59; refine (unhide TR _).mono ?_
         rintro e w2 ⟨rfl, hb2⟩
         have R2 := hide ((unhide R1).below hb2 (unhide R1).lt)
         have N2 := hide ((unhide N1).below hb2 (unhide N1).lt)
         have B2 := hide ((unhide B1).trans (hb2.mono (by have := (unhide R1).lt; omega)))
         have c0 : w2.cell? ⟨r + 1, 0, none⟩ = some (.int .u8 0) := (unhide N2).cell 0
         have c1 : w2.cell? ⟨r + 1, 1, none⟩ = some (.int .u8 0) := (unhide N2).cell 1
         have c2 : w2.cell? ⟨r + 1, 2, none⟩ = some (.int .u8 0) := (unhide N2).cell 2
         have hnl : r + 1 < w2.heap.size := (unhide N2).lt
         clear hb2)
      | (refine wpList_store_blk rfl 24 (.tmp 2) (.tmp 14) rfl r 24 _ #[.int .u8 0, .int .u8 0, .int .u8 0] rfl rfl (unhide R2) rfl (by kernel_rfl) (by intro u hu; simp at hu; subst hu; rfl) ?_
         intro w9 hb9 hg9
         have Z9 := hide hb9
         have B9 := hide ((unhide B2).grown hg9 (by have := (unhide R2).lt; have := (unhide B2).size; omega) (fun j e => by injection e with e; omega))
         clear hb9 hg9)
      | fail)
    exact bodyPost_ret (v := .tuple #[.agg #[.int .u8 0, .int .u8 0, .int .u8 0], .bool false]) (res2 rfl _ r 24 #[.int .u8 0, .int .u8 0, .int .u8 0] _ _ rfl rfl (unhide Z9) Tryd.underlying24 rfl (by kernel_rfl)) rfl ⟨rfl, by rw [unhide HR]; exact unhide B9⟩
  · have h6' : ((l.length : Int) != 6) = true := by simp; omega
    have c0 : W1.cell? ⟨r + 1, 0, none⟩ = some (.int .u8 0) := (unhide N1).cell 0
    have c1 : W1.cell? ⟨r + 1, 1, none⟩ = some (.int .u8 0) := (unhide N1).cell 1
    have c2 : W1.cell? ⟨r + 1, 2, none⟩ = some (.int .u8 0) := (unhide N1).cell 2
    have hnl : r + 1 < W1.heap.size := (unhide N1).lt
    go_enter Tryd.func49, Tryd.ntmps49
    go_upto_region 2 with fail
    rw [unhide HW1]
    simp only [unhide HR]
    go_wp2_with (first
      | (refine wpList_store_blk rfl 24 (.tmp 2) (.tmp 14) rfl r 24 _ #[.int .u8 0, .int .u8 0, .int .u8 0] rfl rfl (unhide R1) rfl (by kernel_rfl) (by intro u hu; simp at hu; subst hu; rfl) ?_
         intro w9 hb9 hg9
         have Z9 := hide hb9
         have B9 := hide ((unhide B1).grown hg9 (by have := (unhide R1).lt; have := (unhide B1).size; omega) (fun j e => by injection e with e; omega))
         clear hb9 hg9)
      | fail)
    exact bodyPost_ret (v := .tuple #[.agg #[.int .u8 0, .int .u8 0, .int .u8 0], .bool false]) (res2 rfl _ r 24 #[.int .u8 0, .int .u8 0, .int .u8 0] _ _ rfl rfl (unhide Z9) Tryd.underlying24 rfl (by kernel_rfl)) rfl ⟨rfl, by rw [unhide HR]; exact unhide B9⟩
set_option maxRecDepth 100000 in
set_option maxHeartbeats 8000000 in
theorem data_ok (w : World) (l : List UInt8) (hb : hexF l = true) :
    Calls Tryd.prog 49 #[.string ⟨l.toArray⟩] w (DPost w (hx2 l 0) (hx2 l 1) (hx2 l 2) true) := by
  simp only [hexF, Bool.and_eq_true, decide_eq_true_eq] at hb
  obtain ⟨h6, hall⟩ := hb
  have TR := hide fun W => trimh_at W l (by omega) [] ((trim_hex l).2 hall)
  obtain ⟨b0, b1, b2, b3, b4, b5, rfl⟩ : ∃ b0 b1 b2 b3 b4 b5, l = [b0, b1, b2, b3, b4, b5] := by
    rcases l with _ | ⟨x0, _ | ⟨x1, _ | ⟨x2, _ | ⟨x3, _ | ⟨x4, _ | ⟨x5, _ | ⟨x6, t⟩⟩⟩⟩⟩⟩⟩
    all_goals try (simp at h6; done)
    exact ⟨x0, x1, x2, x3, x4, x5, rfl⟩
  simp only [List.all_cons, List.all_nil, Bool.and_true, Bool.and_eq_true] at hall
  obtain ⟨g0, g1, g2, g3, g4, g5⟩ := hall
  obtain ⟨n0, e0⟩ : ∃ n, hxN b0 = n := ⟨_, rfl⟩
  obtain ⟨n1, e1⟩ : ∃ n, hxN b1 = n := ⟨_, rfl⟩
  obtain ⟨n2, e2⟩ : ∃ n, hxN b2 = n := ⟨_, rfl⟩
  obtain ⟨n3, e3⟩ : ∃ n, hxN b3 = n := ⟨_, rfl⟩
  obtain ⟨n4, e4⟩ : ∃ n, hxN b4 = n := ⟨_, rfl⟩
  obtain ⟨n5, e5⟩ : ∃ n, hxN b5 = n := ⟨_, rfl⟩
  have l0 : n0 < 16 := e0 ▸ (ix_hex b0 g0).2
  have l1 : n1 < 16 := e1 ▸ (ix_hex b1 g1).2
  have l2 : n2 < 16 := e2 ▸ (ix_hex b2 g2).2
  have l3 : n3 < 16 := e3 ▸ (ix_hex b3 g3).2
  have l4 : n4 < 16 := e4 ▸ (ix_hex b4 g4).2
  have l5 : n5 < 16 := e5 ▸ (ix_hex b5 g5).2
  have I0 := hide fun W => ix_at W b0 g0 n0 e0
  have I1 := hide fun W => ix_at W b1 g1 n1 e1
  have I2 := hide fun W => ix_at W b2 g2 n2 e2
  have I3 := hide fun W => ix_at W b3 g3 n3 e3
  have I4 := hide fun W => ix_at W b4 g4 n4 e4
  have I5 := hide fun W => ix_at W b5 g5 n5 e5
  have q0 : hx2 [b0, b1, b2, b3, b4, b5] 0 = 16 * n0 + n1 := by rw [← e0, ← e1]; rfl
  have q1 : hx2 [b0, b1, b2, b3, b4, b5] 1 = 16 * n2 + n3 := by rw [← e2, ← e3]; rfl
  have q2 : hx2 [b0, b1, b2, b3, b4, b5] 2 = 16 * n4 + n5 := by rw [← e4, ← e5]; rfl
  rw [q0, q1, q2]
  obtain ⟨r, hr⟩ : ∃ r, w.heap.size = r := ⟨_, rfl⟩
  have HR := hide hr
  obtain ⟨W1, hW1⟩ : ∃ W1, (w.alloc (.cells #[.int .u8 0, .int .u8 0, .int .u8 0] 24)).alloc (.cells #[.int .u8 0, .int .u8 0, .int .u8 0] 24) = W1 := ⟨_, rfl⟩
  have R1 : Hid (Blk W1 r 24 #[.int .u8 0, .int .u8 0, .int .u8 0]) := hide (hr ▸ hW1 ▸ (Blk.new w _ _).alloc _)
  have N1 : Hid (Blk W1 (r + 1) 24 #[.int .u8 0, .int .u8 0, .int .u8 0]) := hide (hW1 ▸ Blk.new' (by rw [size_alloc, hr]))
  have B1 : Hid (Below r w W1) := hide (hW1 ▸ hr ▸ ((Below.refl w.heap.size w).alloc (Nat.le_refl _) _).alloc (by simp) _)
  have HW1 := hide hW1
  clear hr hW1 q0 q1 q2 e0 e1 e2 e3 e4 e5 g0 g1 g2 g3 g4 g5 h6
  go_enter Tryd.func49, Tryd.ntmps49
  go_upto_region 2 with fail
  rw [unhide HW1]
  simp only [unhide HR]
  go_wp2_with (first
    | (go_at_call 59; refine (unhide TR _).mono ?_
       rintro e w2 ⟨rfl, hb2⟩
       have R2 := hide ((unhide R1).below hb2 (unhide R1).lt)
       have N2 := hide ((unhide N1).below hb2 (unhide N1).lt)
       have B2 := hide ((unhide B1).trans (hb2.mono (by have := (unhide R1).lt; omega)))
       clear hb2)
    | fail)
  go_loopw [15] (fun i W => ∃ k d0 d1 d2 : Nat, k ≤ 3 ∧ i = .int .i64 k ∧ (1 ≤ k → d0 = 16 * n0 + n1) ∧ (2 ≤ k → d1 = 16 * n2 + n3) ∧ (3 ≤ k → d2 = 16 * n4 + n5) ∧ Blk W r 24 #[.int .u8 0, .int .u8 0, .int .u8 0] ∧ Blk W (r + 1) 24 #[.int .u8 (d0 : Int), .int .u8 (d1 : Int), .int .u8 (d2 : Int)] ∧ Below r w W) (fun i _ => 3 - (intOf i).toNat)
  case atStart => exact ⟨0, 0, 0, 0, by omega, rfl, by omega, by omega, by omega, unhide R2, unhide N2, unhide B2⟩
  case round =>
    obtain ⟨k, d0, d1, d2, hk, rfl, hd0, hd1, hd2, hR, hN, hB⟩ := hrel
    have RR := hide hR
    have NN := hide hN
    have BB := hide hB
    have H0 := hide hd0
    have H1 := hide hd1
    have H2 := hide hd2
    have hnl : r + 1 < wr.heap.size := hN.lt
    clear hR hB hd0 hd1 hd2
    rcases (show k = 0 ∨ k = 1 ∨ k = 2 ∨ k = 3 by omega) with rfl | rfl | rfl | rfl
    · have q1 : wr.cell? ⟨r + 1, 0, none⟩ = some (.int .u8 (d0 : Int)) := hN.cell 0
      have f1 : wr.frozen? ⟨r + 1, 0, none⟩ = false := hN.frozen 0
      have hor := or_hex n0 n1 l0 l1
      have wa : IntKind.i64.wrap 0 = 0 := by decide
      have wb : IntKind.i64.wrap 1 = 1 := by decide
      have wc : IntKind.i64.wrap (n0 * 16 : Int) = (n0 : Int) * 16 := IntWalk.i64_in _ (by omega)
      have hw8 : IntKind.u8.wrap (((16 * n0 + n1 : Nat) : Int)) = ((16 * n0 + n1 : Nat) : Int) := IntWalk.u8_in _ (by omega)
      have F5 : Hid (∀ z : Int, z = ((16 * n0 + n1 : Nat) : Int) → Blk (wr.setCell ⟨r + 1, 0, none⟩ (.int .u8 z)).drew r 24 #[.int .u8 0, .int .u8 0, .int .u8 0] ∧ Blk (wr.setCell ⟨r + 1, 0, none⟩ (.int .u8 z)).drew (r + 1) 24 #[.int .u8 ((16 * n0 + n1 : Nat) : Int), .int .u8 ((d1 : Nat) : Int), .int .u8 ((d2 : Nat) : Int)] ∧ Below r w (wr.setCell ⟨r + 1, 0, none⟩ (.int .u8 z)).drew) := hide (fun z hz => by
        subst hz
        have gs : wr.grownBy (wr.setCell ⟨r + 1, 0, none⟩ (.int .u8 ((16 * n0 + n1 : Nat) : Int))) (some (r + 1)) := only_setCell (World.grownBy.refl wr _) (.inl rfl) _
        exact ⟨((unhide RR).grown gs (by intro e; injection e with e; omega)).drew, ((unhide NN).set_ 0 _).drew, ((unhide BB).grown gs (by have := (unhide RR).lt; have := (unhide BB).size; omega) (fun j e => by injection e with e; omega)).drew⟩)
      clear hN hk
      go_upto_region 7 with fail
      refine wp_still_tail 15 (by kernel_rfl) (by kernel_rfl) ?_
      simp only [List.take_succ_cons, List.take_zero, List.drop_succ_cons, List.drop_zero]
      repeat still_step
      still_call (still_of (unhide I0 _))
      repeat still_step
      still_call (still_of (unhide I1 _))
      repeat still_step
      refine wpStill_nil ?_
      go_wp2_with fail
      go_roundw
      case rel =>
        refine ⟨1, 16 * n0 + n1, d1, d2, by omega, by go_num, fun _ => rfl, by omega, by omega, ?_⟩
        exact unhide F5 _ (by omega)
      case measure => simp [intOf]
    · have q1 : wr.cell? ⟨r + 1, 1, none⟩ = some (.int .u8 (d1 : Int)) := hN.cell 1
      have f1 : wr.frozen? ⟨r + 1, 1, none⟩ = false := hN.frozen 1
      have hor := or_hex n2 n3 l2 l3
      have wa : IntKind.i64.wrap 2 = 2 := by decide
      have wb : IntKind.i64.wrap 3 = 3 := by decide
      have wc : IntKind.i64.wrap (n2 * 16 : Int) = (n2 : Int) * 16 := IntWalk.i64_in _ (by omega)
      have hw8 : IntKind.u8.wrap (((16 * n2 + n3 : Nat) : Int)) = ((16 * n2 + n3 : Nat) : Int) := IntWalk.u8_in _ (by omega)
      have F5 : Hid (∀ z : Int, z = ((16 * n2 + n3 : Nat) : Int) → Blk (wr.setCell ⟨r + 1, 1, none⟩ (.int .u8 z)).drew r 24 #[.int .u8 0, .int .u8 0, .int .u8 0] ∧ Blk (wr.setCell ⟨r + 1, 1, none⟩ (.int .u8 z)).drew (r + 1) 24 #[.int .u8 ((d0 : Nat) : Int), .int .u8 ((16 * n2 + n3 : Nat) : Int), .int .u8 ((d2 : Nat) : Int)] ∧ Below r w (wr.setCell ⟨r + 1, 1, none⟩ (.int .u8 z)).drew) := hide (fun z hz => by
        subst hz
        have gs : wr.grownBy (wr.setCell ⟨r + 1, 1, none⟩ (.int .u8 ((16 * n2 + n3 : Nat) : Int))) (some (r + 1)) := only_setCell (World.grownBy.refl wr _) (.inl rfl) _
        exact ⟨((unhide RR).grown gs (by intro e; injection e with e; omega)).drew, ((unhide NN).set_ 1 _).drew, ((unhide BB).grown gs (by have := (unhide RR).lt; have := (unhide BB).size; omega) (fun j e => by injection e with e; omega)).drew⟩)
      clear hN hk
      go_upto_region 7 with fail
      refine wp_still_tail 15 (by kernel_rfl) (by kernel_rfl) ?_
      simp only [List.take_succ_cons, List.take_zero, List.drop_succ_cons, List.drop_zero]
      repeat still_step
      still_call (still_of (unhide I2 _))
      repeat still_step
      still_call (still_of (unhide I3 _))
      repeat still_step
      refine wpStill_nil ?_
      go_wp2_with fail
      go_roundw
      case rel =>
        refine ⟨2, d0, 16 * n2 + n3, d2, by omega, by go_num, fun _ => unhide H0 (by omega), fun _ => rfl, by omega, ?_⟩
        exact unhide F5 _ (by omega)
      case measure => simp [intOf]
    · have q1 : wr.cell? ⟨r + 1, 2, none⟩ = some (.int .u8 (d2 : Int)) := hN.cell 2
      have f1 : wr.frozen? ⟨r + 1, 2, none⟩ = false := hN.frozen 2
      have hor := or_hex n4 n5 l4 l5
      have wa : IntKind.i64.wrap 4 = 4 := by decide
      have wb : IntKind.i64.wrap 5 = 5 := by decide
      have wc : IntKind.i64.wrap (n4 * 16 : Int) = (n4 : Int) * 16 := IntWalk.i64_in _ (by omega)
      have hw8 : IntKind.u8.wrap (((16 * n4 + n5 : Nat) : Int)) = ((16 * n4 + n5 : Nat) : Int) := IntWalk.u8_in _ (by omega)
      have F5 : Hid (∀ z : Int, z = ((16 * n4 + n5 : Nat) : Int) → Blk (wr.setCell ⟨r + 1, 2, none⟩ (.int .u8 z)).drew r 24 #[.int .u8 0, .int .u8 0, .int .u8 0] ∧ Blk (wr.setCell ⟨r + 1, 2, none⟩ (.int .u8 z)).drew (r + 1) 24 #[.int .u8 ((d0 : Nat) : Int), .int .u8 ((d1 : Nat) : Int), .int .u8 ((16 * n4 + n5 : Nat) : Int)] ∧ Below r w (wr.setCell ⟨r + 1, 2, none⟩ (.int .u8 z)).drew) := hide (fun z hz => by
        subst hz
        have gs : wr.grownBy (wr.setCell ⟨r + 1, 2, none⟩ (.int .u8 ((16 * n4 + n5 : Nat) : Int))) (some (r + 1)) := only_setCell (World.grownBy.refl wr _) (.inl rfl) _
        exact ⟨((unhide RR).grown gs (by intro e; injection e with e; omega)).drew, ((unhide NN).set_ 2 _).drew, ((unhide BB).grown gs (by have := (unhide RR).lt; have := (unhide BB).size; omega) (fun j e => by injection e with e; omega)).drew⟩)
      clear hN hk
      go_upto_region 7 with fail
      refine wp_still_tail 15 (by kernel_rfl) (by kernel_rfl) ?_
      simp only [List.take_succ_cons, List.take_zero, List.drop_succ_cons, List.drop_zero]
      repeat still_step
      still_call (still_of (unhide I4 _))
      repeat still_step
      still_call (still_of (unhide I5 _))
      repeat still_step
      refine wpStill_nil ?_
      go_wp2_with fail
      go_roundw
      case rel =>
        refine ⟨3, d0, d1, 16 * n4 + n5, by omega, by go_num, fun _ => unhide H0 (by omega), fun _ => unhide H1 (by omega), fun _ => rfl, ?_⟩
        exact unhide F5 _ (by omega)
      case measure => simp [intOf]
    · have e0 := unhide H0 (by omega)
      have e1 := unhide H1 (by omega)
      have e2 := unhide H2 (by omega)
      subst e0 e1 e2
      have c0 : wr.cell? ⟨r + 1, 0, none⟩ = some (.int .u8 ((16 * n0 + n1 : Nat) : Int)) := hN.cell 0
      have c1 : wr.cell? ⟨r + 1, 1, none⟩ = some (.int .u8 ((16 * n2 + n3 : Nat) : Int)) := hN.cell 1
      have c2 : wr.cell? ⟨r + 1, 2, none⟩ = some (.int .u8 ((16 * n4 + n5 : Nat) : Int)) := hN.cell 2
      clear hN
      go_wp2_with (first
        | (refine wpList_store_blk rfl 24 (.tmp 2) (.tmp 35) rfl r 24 _ #[.int .u8 ((16 * n0 + n1 : Nat) : Int), .int .u8 ((16 * n2 + n3 : Nat) : Int), .int .u8 ((16 * n4 + n5 : Nat) : Int)] rfl rfl (unhide RR) rfl (by kernel_rfl) (by intro u hu; simp at hu; rcases hu with rfl | rfl | rfl <;> rfl) ?_
           intro w9 hb9 hg9
           have Z9 := hide hb9
           have B9 := hide ((unhide BB).grown hg9 (by have := (unhide RR).lt; have := (unhide BB).size; omega) (fun j e => by injection e with e; omega))
           clear hb9 hg9)
        | fail)
      exact bodyPost_ret (v := .tuple #[.agg #[.int .u8 ((16 * n0 + n1 : Nat) : Int), .int .u8 ((16 * n2 + n3 : Nat) : Int), .int .u8 ((16 * n4 + n5 : Nat) : Int)], .bool true]) (res2 rfl _ r 24 #[.int .u8 ((16 * n0 + n1 : Nat) : Int), .int .u8 ((16 * n2 + n3 : Nat) : Int), .int .u8 ((16 * n4 + n5 : Nat) : Int)] _ _ rfl rfl (unhide Z9) Tryd.underlying24 rfl (by kernel_rfl)) rfl ⟨rfl, by rw [unhide HR]; exact unhide B9⟩
end Go.Proofs.YtklffnfaigmjfaaDoor
