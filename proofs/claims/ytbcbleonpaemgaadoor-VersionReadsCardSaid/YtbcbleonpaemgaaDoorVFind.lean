/- version.find returns findF. No condition. -/
import Derived.Test.YtbcbleonpaemgaaDoorVName
import Derived.Test.YtbcbleonpaemgaaDoorVVal
namespace Go.Proofs.YtbcbleonpaemgaaDoor
open Go.RowKit
/-- An installed component. -/
structure Inst where
  s : List UInt8
  v : Ver
def InstAt (w : World) (B : Nat) (A : Option Addr) (n : Nat) (L : Nat → Inst) : Prop :=
  ∀ i, i < n → ∃ gb go, A = some ⟨gb, go, none⟩ ∧ gb < B ∧ (L i).s.length ≤ maxLen ∧ w.cell? ⟨gb, go + i * 4, none⟩ = some (.string ⟨(L i).s.toArray⟩) ∧ w.cell? ⟨gb, go + i * 4 + 1, none⟩ = some (.int .i64 (L i).v.a) ∧ w.cell? ⟨gb, go + i * 4 + 2, none⟩ = some (.int .i64 (L i).v.b) ∧ w.cell? ⟨gb, go + i * 4 + 3, none⟩ = some (.int .i64 (L i).v.c)
theorem InstAt.below {w w' : World} {B : Nat} {A : Option Addr} {n : Nat} {L : Nat → Inst} (h : InstAt w B A n L) (hb : Below B w w') : InstAt w' B A n L := by
  intro i hi
  obtain ⟨gb, go, e, hl, h0, h1, h2, h3, h4⟩ := h i hi
  exact ⟨gb, go, e, hl, h0, (hb.cell (p := ⟨gb, _, none⟩) hl).trans h1, (hb.cell (p := ⟨gb, _, none⟩) hl).trans h2, (hb.cell (p := ⟨gb, _, none⟩) hl).trans h3, (hb.cell (p := ⟨gb, _, none⟩) hl).trans h4⟩
theorem InstAt.more {w : World} {B B' : Nat} {A : Option Addr} {n : Nat} {L : Nat → Inst} (h : InstAt w B A n L) (hb : B ≤ B') : InstAt w B' A n L := by
  intro i hi
  obtain ⟨gb, go, e, hl, h0⟩ := h i hi
  exact ⟨gb, go, e, by omega, h0⟩
def zeroV : Ver := ⟨0, 0, 0⟩
def findG (L : Nat → Inst) (name : List UInt8) : Nat → Nat → Ver × Bool
  | 0, _ => (zeroV, false)
  | m + 1, k => if (L k).s = name then ((L k).v, true) else findG L name m (k + 1)
def findF (L : Nat → Inst) (n : Nat) (name : List UInt8) : Ver × Bool := findG L name n 0
theorem findG_step (L : Nat → Inst) (name : List UInt8) (n k : Nat) (h : k < n) : findG L name (n - k) k = if (L k).s = name then ((L k).v, true) else findG L name (n - (k + 1)) (k + 1) := by
  rw [show n - k = (n - (k + 1)) + 1 by omega]; rfl
set_option maxRecDepth 100000 in
set_option maxHeartbeats 2000000 in
theorem find_any (w : World) (A : Option Addr) (n c : Nat) (hn : n ≤ c) (hc : c ≤ maxLen) (L : Nat → Inst) (hL : InstAt w w.heap.size A n L) (name : List UInt8) (r : Ver × Bool) (hr : findF L n name = r) :
    Calls Tryd.prog 44 #[.slice A n c, .string ⟨name.toArray⟩] w fun e w' => e = .returned (.tuple #[.agg #[.int .i64 r.1.a, .int .i64 r.1.b, .int .i64 r.1.c], .bool r.2]) ∧ Below w.heap.size w w' := by
  have hr0 : findG L name (n - 0) 0 = r := hr
  have HR := hide hr0
  have HL := hide hL
  have hn2 : n ≤ 9223372036854775807 := by unfold maxLen at hc; omega
  clear hr hr0 hL
  have H0 := hide (Blk.new w 26 zeroV.c3)
  have B0 := hide ((Below.refl w.heap.size w).alloc (Nat.le_refl _) (.cells zeroV.c3 26))
  go_enter Tryd.func44, Tryd.ntmps44
  go_wp2_with fail
  go_loopw [10] (fun i wr => ∃ k : Nat, k ≤ n ∧ i = .int .i64 k ∧ findG L name (n - k) k = r ∧ Blk wr w.heap.size 26 zeroV.c3 ∧ Below w.heap.size w wr) (fun i _ => n - (intOf i).toNat)
  case atStart => exact ⟨0, by omega, rfl, unhide HR, unhide H0, unhide B0⟩
  case round =>
    obtain ⟨k, hk, rfl, hrk, hb, hB⟩ := hrel
    have HB := hide hb
    have HBW := hide hB
    clear hb hB
    by_cases hlt : k < n
    · rw [findG_step L name n k hlt] at hrk
      obtain ⟨gb, go, rfl, hgb, _, c0, c1, c2, c3⟩ := (unhide HL).below (unhide HBW) k hlt
      obtain ⟨⟨s, ⟨va, vb, vc⟩⟩, hs⟩ : ∃ x, L k = x := ⟨_, rfl⟩
      rw [hs] at hrk c0 c1 c2 c3
      dsimp only at hrk c0 c1 c2 c3
      have hlt2 : (k : Int) < (n : Int) := by omega
      have hw := (unhide HB).lt
      clear hs
      by_cases heq : s = name
      · subst heq
        rw [if_pos rfl] at hrk
        obtain rfl : r = (⟨va, vb, vc⟩, true) := hrk.symm
        clear hrk
        have HB2 := hide ((unhide HB).alloc (.cells #[.string ⟨s.toArray⟩, .int .i64 va, .int .i64 vb, .int .i64 vc] 42))
        have HBW2 := hide ((unhide HBW).alloc (unhide HBW).size (.cells #[.string ⟨s.toArray⟩, .int .i64 va, .int .i64 vb, .int .i64 vc] 42))
        go_wp2_with (first
          | (refine wpList_store_blk rfl 26 (.tmp 4) (.tmp 19) rfl w.heap.size 26 _ #[.int .i64 va, .int .i64 vb, .int .i64 vc] rfl rfl (unhide HB2) rfl (by kernel_rfl) (by intro v hv; simp at hv; rcases hv with rfl | rfl | rfl <;> rfl) ?_
             intro we hbe hge
             have HE := hide hbe
             have BE := hide ((unhide HBW2).grown hge (unhide HBW2).size (fun g e => by injection e with e; omega))
             clear hbe hge)
          | fail)
        exact bodyPost_ret (v := .tuple #[.agg #[.int .i64 va, .int .i64 vb, .int .i64 vc], .bool true]) (res2 rfl _ w.heap.size 26 #[.int .i64 va, .int .i64 vb, .int .i64 vc] _ _ rfl rfl (unhide HE) Tryd.underlying26 rfl (by kernel_rfl)) rfl ⟨rfl, unhide BE⟩
      · rw [if_neg heq] at hrk
        have HRK := hide hrk
        have hne : (s == name) = false := by simpa using heq
        have HB2 := hide ((unhide HB).alloc (.cells #[.string ⟨s.toArray⟩, .int .i64 va, .int .i64 vb, .int .i64 vc] 42))
        have HBW2 := hide ((unhide HBW).alloc (unhide HBW).size (.cells #[.string ⟨s.toArray⟩, .int .i64 va, .int .i64 vb, .int .i64 vc] 42))
        clear hrk heq
        go_wp2_with fail
        go_roundw
        case rel => exact ⟨k + 1, by omega, by go_num, unhide HRK, unhide HB2, unhide HBW2⟩
        case measure => simp [intOf]; omega
    · obtain rfl : k = n := by omega
      rw [Nat.sub_self] at hrk
      obtain rfl : r = (zeroV, false) := hrk.symm
      clear hrk
      go_wp2_with (first
        | (refine wpList_store_blk rfl 26 (.tmp 4) (.tmp 21) rfl w.heap.size 26 _ #[.int .i64 0, .int .i64 0, .int .i64 0] rfl rfl (unhide HB) rfl (by kernel_rfl) (by intro v hv; simp at hv; rcases hv with rfl | rfl | rfl <;> rfl) ?_
           intro we hbe hge
           have HE := hide hbe
           have BE := hide ((unhide HBW).grown hge (unhide HBW).size (fun g e => by injection e with e; omega))
           clear hbe hge)
        | fail)
      exact bodyPost_ret (v := .tuple #[.agg #[.int .i64 0, .int .i64 0, .int .i64 0], .bool false]) (res2 rfl _ w.heap.size 26 #[.int .i64 0, .int .i64 0, .int .i64 0] _ _ rfl rfl (unhide HE) Tryd.underlying26 rfl (by kernel_rfl)) rfl ⟨rfl, unhide BE⟩
end Go.Proofs.YtbcbleonpaemgaaDoor
