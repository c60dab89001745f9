/- version.right returns rightF. No condition. -/
import Derived.Test.YtbcbleonpaemgaaDoorVMet
namespace Go.Proofs.YtbcbleonpaemgaaDoor
open Go.RowKit
def NeedAt (w : World) (B : Nat) (A : Option Addr) (n : Nat) (N : Nat → NeedS) : Prop :=
  ∀ i, i < n → ∃ gb go, A = some ⟨gb, go, none⟩ ∧ gb < B ∧ (N i).c.length ≤ maxLen ∧ (N i).o.length ≤ maxLen ∧ w.cell? ⟨gb, go + i * 8, none⟩ = some (.string ⟨(N i).c.toArray⟩) ∧ w.cell? ⟨gb, go + i * 8 + 1, none⟩ = some (.int .i64 (N i).f.a) ∧ w.cell? ⟨gb, go + i * 8 + 2, none⟩ = some (.int .i64 (N i).f.b) ∧ w.cell? ⟨gb, go + i * 8 + 3, none⟩ = some (.int .i64 (N i).f.c) ∧ w.cell? ⟨gb, go + i * 8 + 4, none⟩ = some (.string ⟨(N i).o.toArray⟩) ∧ w.cell? ⟨gb, go + i * 8 + 5, none⟩ = some (.int .i64 (N i).t.a) ∧ w.cell? ⟨gb, go + i * 8 + 6, none⟩ = some (.int .i64 (N i).t.b) ∧ w.cell? ⟨gb, go + i * 8 + 7, none⟩ = some (.int .i64 (N i).t.c)
theorem NeedAt.below {w w' : World} {B : Nat} {A : Option Addr} {n : Nat} {N : Nat → NeedS} (h : NeedAt w B A n N) (hb : Below B w w') : NeedAt w' B A n N := by
  intro i hi
  obtain ⟨gb, go, e, hl, g0, g1, h0, h1, h2, h3, h4, h5, h6, h7⟩ := h i hi
  have k := fun j => hb.cell (p := ⟨gb, j, none⟩) hl
  exact ⟨gb, go, e, hl, g0, g1, (k _).trans h0, (k _).trans h1, (k _).trans h2, (k _).trans h3, (k _).trans h4, (k _).trans h5, (k _).trans h6, (k _).trans h7⟩
theorem NeedAt.more {w : World} {B B' : Nat} {A : Option Addr} {n : Nat} {N : Nat → NeedS} (h : NeedAt w B A n N) (hb : B ≤ B') : NeedAt w B' A n N := by
  intro i hi
  obtain ⟨gb, go, e, hl, h0⟩ := h i hi
  exact ⟨gb, go, e, by omega, h0⟩
def rightAt (x : NeedS) : Bool := nameF x.c && (nameF x.o && (!(x.c == x.o) && (validV x.f && validV x.t)))
def rightG (N : Nat → NeedS) : Nat → Nat → Bool
  | 0, _ => true
  | m + 1, k => rightAt (N k) && rightG N m (k + 1)
def rightF (N : Nat → NeedS) (n : Nat) : Bool := decide (n ≤ 16) && rightG N n 0
theorem rightG_step (N : Nat → NeedS) (n k : Nat) (h : k < n) : rightG N (n - k) k = (rightAt (N k) && rightG N (n - (k + 1)) (k + 1)) := by
  rw [show n - k = (n - (k + 1)) + 1 by omega]; rfl
set_option maxRecDepth 100000 in
set_option maxHeartbeats 4000000 in
theorem right_any (w : World) (A : Option Addr) (n c : Nat) (_hn : n ≤ c) (_hc : c ≤ maxLen) (N : Nat → NeedS) (hN : NeedAt w w.heap.size A n N) (r : Bool) (hr : rightF N n = r) :
    Calls Tryd.prog 40 #[.slice A n c] w fun e w' => e = .returned (.bool r) ∧ Below w.heap.size w w' := by
  by_cases h8 : 16 < n
  · obtain rfl : false = r := by rw [← hr]; simp [rightF]; omega
    clear hr hN
    go_enter Tryd.func40, Tryd.ntmps40
    go_wp2_with fail
    go_ret
    exact ⟨rfl, Below.refl _ _⟩
  · have hr0 : rightG N (n - 0) 0 = r := by rw [← hr]; simp [rightF, show n ≤ 16 by omega]
    have hn8 : n ≤ 16 := by omega
    have HR := hide hr0
    have HN := hide hN
    have B0 := hide (Below.refl w.heap.size w)
    have NM := hide name_any
    have VL := hide val_any
    clear hr hr0 hN h8
    go_enter Tryd.func40, Tryd.ntmps40
    go_wp2_with fail
    go_loopw [10] (fun i wr => ∃ k : Nat, k ≤ n ∧ i = .int .i64 k ∧ rightG N (n - k) k = r ∧ Below w.heap.size w wr) (fun i _ => n - (intOf i).toNat)
    case atStart => exact ⟨0, by omega, rfl, unhide HR, unhide B0⟩
    case round =>
      obtain ⟨k, hk, rfl, hrk, hB⟩ := hrel
      have HBW := hide hB
      clear hB
      by_cases hlt : k < n
      · rw [rightG_step N n k hlt] at hrk
        obtain ⟨gb, go, rfl, hgb, hl1, hl2, c0, c1, c2, c3, c4, c5, c6, c7⟩ := (unhide HN).below (unhide HBW) k hlt
        obtain ⟨⟨xc, ⟨fa, fb, fc⟩, xo, ⟨ta, tb, tc⟩⟩, hs⟩ : ∃ x, N k = x := ⟨_, rfl⟩
        rw [hs] at hrk hl1 hl2 c0 c1 c2 c3 c4 c5 c6 c7
        dsimp only at hl1 hl2 c0 c1 c2 c3 c4 c5 c6 c7
        simp only [rightAt] at hrk
        have hlt2 : (k : Int) < (n : Int) := by omega
        obtain ⟨b1, h1⟩ : ∃ b, nameF xc = b := ⟨_, rfl⟩
        obtain ⟨b2, h2⟩ : ∃ b, nameF xo = b := ⟨_, rfl⟩
        obtain ⟨b3, h3⟩ : ∃ b, (xc == xo) = b := ⟨_, rfl⟩
        obtain ⟨b4, h4⟩ : ∃ b, validV ⟨fa, fb, fc⟩ = b := ⟨_, rfl⟩
        obtain ⟨b5, h5⟩ : ∃ b, validV ⟨ta, tb, tc⟩ = b := ⟨_, rfl⟩
        rw [h1, h2, h3, h4, h5] at hrk
        have BX := hide ((unhide HBW).alloc (unhide HBW).size (.cells #[.string ⟨xc.toArray⟩, .int .i64 fa, .int .i64 fb, .int .i64 fc, .string ⟨xo.toArray⟩, .int .i64 ta, .int .i64 tb, .int .i64 tc] 50))
        have HX := hide (Blk.new wr 50 #[.string ⟨xc.toArray⟩, .int .i64 fa, .int .i64 fb, .int .i64 fc, .string ⟨xo.toArray⟩, .int .i64 ta, .int .i64 tb, .int .i64 tc])
        have H1 := hide h1
        have H2 := hide h2
        have H4 := hide h4
        have H5 := hide h5
        have HRK := hide hrk
        clear hs h1 h2 h4 h5 hrk
        go_wp2_with fail
        refine (unhide NM _ xc hl1 b1 (unhide H1)).mono ?_; rintro e w' ⟨rfl, rfl⟩
        cases b1
        · obtain rfl : false = r := by rw [← unhide HRK]; rfl
          go_wp2_with fail
          go_ret
          exact ⟨rfl, unhide BX⟩
        go_wp2_with fail
        refine (unhide NM _ xo hl2 b2 (unhide H2)).mono ?_; rintro e w' ⟨rfl, rfl⟩
        cases b2
        · obtain rfl : false = r := by rw [← unhide HRK]; rfl
          go_wp2_with fail
          go_ret
          exact ⟨rfl, unhide BX⟩
        cases b3
        case true =>
          obtain rfl : false = r := by rw [← unhide HRK]; rfl
          go_wp2_with fail
          go_ret
          exact ⟨rfl, unhide BX⟩
        go_wp2_with fail
        refine (unhide VL _ ⟨fa, fb, fc⟩ b4 (unhide H4)).mono ?_; rintro e w4 ⟨rfl, hb4⟩
        have B4 := hide ((unhide BX).trans (hb4.mono (unhide BX).size))
        have hx4 := (unhide HX).below hb4 (unhide HX).lt
        have d5 : w4.cell? ⟨wr.heap.size, 5, none⟩ = some (.int .i64 ta) := hx4.cell 5
        have d6 : w4.cell? ⟨wr.heap.size, 6, none⟩ = some (.int .i64 tb) := hx4.cell 6
        have d7 : w4.cell? ⟨wr.heap.size, 7, none⟩ = some (.int .i64 tc) := hx4.cell 7
        clear hb4 hx4 c0 c1 c2 c3 c4 c5 c6 c7
        cases b4
        · obtain rfl : false = r := by rw [← unhide HRK]; rfl
          go_wp2_with fail
          go_ret
          exact ⟨rfl, unhide B4⟩
        go_wp2_with fail
        refine (unhide VL _ ⟨ta, tb, tc⟩ b5 (unhide H5)).mono ?_; rintro e w5 ⟨rfl, hb5⟩
        have B5 := hide ((unhide B4).trans (hb5.mono (unhide B4).size))
        clear hb5 d5 d6 d7
        cases b5
        · obtain rfl : false = r := by rw [← unhide HRK]; rfl
          go_wp2_with fail
          go_ret
          exact ⟨rfl, unhide B5⟩
        have hrest : rightG N (n - (k + 1)) (k + 1) = r := by rw [← unhide HRK]; simp
        have HREST := hide hrest
        clear hrest
        go_wp2_with fail
        go_roundw
        case rel => exact ⟨k + 1, by omega, by go_num, unhide HREST, unhide B5⟩
        case measure => simp [intOf]; omega
      · obtain rfl : k = n := by omega
        rw [Nat.sub_self] at hrk
        obtain rfl : true = r := hrk
        go_wp2_with fail
        go_ret
        exact ⟨rfl, unhide HBW⟩
end Go.Proofs.YtbcbleonpaemgaaDoor
