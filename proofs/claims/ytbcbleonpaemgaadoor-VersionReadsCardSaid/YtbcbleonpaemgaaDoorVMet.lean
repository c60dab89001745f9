/- version.Met returns metF. No condition. -/
import Derived.Test.YtbcbleonpaemgaaDoorVFind
namespace Go.Proofs.YtbcbleonpaemgaaDoor
open Go.RowKit
/-- A need. -/
structure NeedS where
  c : List UInt8
  f : Ver
  o : List UInt8
  t : Ver
def NeedS.cells (x : NeedS) : Array Value := #[.string ⟨x.c.toArray⟩, .int .i64 x.f.a, .int .i64 x.f.b, .int .i64 x.f.c, .string ⟨x.o.toArray⟩, .int .i64 x.t.a, .int .i64 x.t.b, .int .i64 x.t.c]
def metF (L : Nat → Inst) (n : Nat) (x : NeedS) : Bool :=
  match findF L n x.c with
  | (v, ok) => if ok = false ∨ cmp3 v x.f < 0 then true else match findF L n x.o with
    | (u, is) => is && decide (0 ≤ cmp3 u x.t)
set_option maxRecDepth 100000 in
set_option maxHeartbeats 2000000 in
theorem met_any (w : World) (A : Option Addr) (n c : Nat) (hn : n ≤ c) (hc : c ≤ maxLen) (L : Nat → Inst) (hL : InstAt w w.heap.size A n L) (x : NeedS) (hx1 : x.c.length ≤ maxLen) (hx2 : x.o.length ≤ maxLen) (r : Bool) (hr : metF L n x = r) :
    Calls Tryd.prog 26 #[.slice A n c, .agg x.cells] w fun e w' => e = .returned (.bool r) ∧ Below w.heap.size w w' := by
  obtain ⟨xc, ⟨fa, fb, fc⟩, xo, ⟨ta, tb, tc⟩⟩ := x
  obtain ⟨⟨⟨va, vb, vc⟩, ok⟩, h1⟩ : ∃ q, findF L n xc = q := ⟨_, rfl⟩
  obtain ⟨⟨⟨ua, ub, uc⟩, is⟩, h2⟩ : ∃ q, findF L n xo = q := ⟨_, rfl⟩
  obtain ⟨s1, h3⟩ : ∃ q, cmp3 ⟨va, vb, vc⟩ ⟨fa, fb, fc⟩ = q := ⟨_, rfl⟩
  obtain ⟨s2, h4⟩ : ∃ q, cmp3 ⟨ua, ub, uc⟩ ⟨ta, tb, tc⟩ = q := ⟨_, rfl⟩
  simp only [metF, h1, h2, h3, h4] at hr
  have F1 := hide fun W (h : InstAt W W.heap.size A n L) => find_any W A n c hn hc L h xc _ h1
  have F2 := hide fun W (h : InstAt W W.heap.size A n L) => find_any W A n c hn hc L h xo _ h2
  have C1 := hide fun W => cmp_any W ⟨va, vb, vc⟩ ⟨fa, fb, fc⟩ s1 h3
  have C2 := hide fun W => cmp_any W ⟨ua, ub, uc⟩ ⟨ta, tb, tc⟩ s2 h4
  have HL := hide hL
  show Calls Tryd.prog 26 #[.slice A n c, .agg #[.string ⟨xc.toArray⟩, .int .i64 fa, .int .i64 fb, .int .i64 fc, .string ⟨xo.toArray⟩, .int .i64 ta, .int .i64 tb, .int .i64 tc]] w _
  have HR := hide hr
  have B1 := hide ((Below.refl w.heap.size w).alloc (Nat.le_refl _) (.cells #[.string ⟨xc.toArray⟩, .int .i64 fa, .int .i64 fb, .int .i64 fc, .string ⟨xo.toArray⟩, .int .i64 ta, .int .i64 tb, .int .i64 tc] 50))
  have HX := hide (Blk.new w 50 #[.string ⟨xc.toArray⟩, .int .i64 fa, .int .i64 fb, .int .i64 fc, .string ⟨xo.toArray⟩, .int .i64 ta, .int .i64 tb, .int .i64 tc])
  clear h1 h2 h3 h4 hL hx1 hx2 hr
  go_enter Tryd.func26, Tryd.ntmps26
  go_wp2_with fail
  refine (unhide F1 _ (((unhide HL).below (unhide B1)).more (unhide B1).size)).mono ?_
  rintro e w2 ⟨rfl, hb2⟩
  have hX2 := (unhide HX).below hb2 (unhide HX).lt
  have hlt2 := hX2.lt
  have hf1 : w2.cell? ⟨w.heap.size, 1, none⟩ = some (.int .i64 fa) := hX2.cell 1
  have hf2 : w2.cell? ⟨w.heap.size, 2, none⟩ = some (.int .i64 fb) := hX2.cell 2
  have hf3 : w2.cell? ⟨w.heap.size, 3, none⟩ = some (.int .i64 fc) := hX2.cell 3
  have hf4 : w2.cell? ⟨w.heap.size, 4, none⟩ = some (.string ⟨xo.toArray⟩) := hX2.cell 4
  have HX2 := hide hX2
  have B2 := hide ((unhide B1).trans (hb2.mono (unhide B1).size))
  clear hb2 hX2
  dsimp only
  have B3 := hide ((unhide B2).alloc (unhide B2).size (.cells #[.int .i64 va, .int .i64 vb, .int .i64 vc] 26))
  have HX3 := hide ((unhide HX2).alloc (.cells #[.int .i64 va, .int .i64 vb, .int .i64 vc] 26))
  cases ok
  · obtain rfl : true = r := by rw [← unhide HR]; simp
    go_wp2_with fail
    go_ret
    exact ⟨rfl, unhide B3⟩
  · go_wp2_with fail
    refine (unhide C1 _).mono ?_
    rintro e w4 ⟨rfl, hb4⟩
    have B4 := hide ((unhide B3).trans (hb4.mono (unhide B3).size))
    have hX4 := (unhide HX3).below hb4 (unhide HX3).lt
    have hlt4 := hX4.lt
    have hg4 : w4.cell? ⟨w.heap.size, 4, none⟩ = some (.string ⟨xo.toArray⟩) := hX4.cell 4
    have HX4 := hide hX4
    clear hb4 hX4 hf1 hf2 hf3 hf4 hlt2
    by_cases hs : s1 < 0
    · obtain rfl : true = r := by rw [← unhide HR]; simp [hs]
      go_wp2_with fail
      go_ret
      exact ⟨rfl, unhide B4⟩
    · have hr5 : (is && decide (0 ≤ s2)) = r := by rw [← unhide HR]; simp [hs]
      have HR5 := hide hr5
      clear hr5
      go_wp2_with fail
      refine (unhide F2 _ (((unhide HL).below (unhide B4)).more (unhide B4).size)).mono ?_
      rintro e w5 ⟨rfl, hb5⟩
      have hX5 := (unhide HX4).below hb5 (unhide HX4).lt
      have hlt5 := hX5.lt
      have hf5 : w5.cell? ⟨w.heap.size, 5, none⟩ = some (.int .i64 ta) := hX5.cell 5
      have hf6 : w5.cell? ⟨w.heap.size, 6, none⟩ = some (.int .i64 tb) := hX5.cell 6
      have hf7 : w5.cell? ⟨w.heap.size, 7, none⟩ = some (.int .i64 tc) := hX5.cell 7
      have B5 := hide ((unhide B4).trans (hb5.mono (unhide B4).size))
      have B6 := hide ((unhide B5).alloc (unhide B5).size (.cells #[.int .i64 ua, .int .i64 ub, .int .i64 uc] 26))
      clear hb5 hX5 hg4 hlt4
      dsimp only
      cases is
      · obtain rfl : false = r := by rw [← unhide HR5]; rfl
        go_wp2_with fail
        go_ret
        exact ⟨rfl, unhide B6⟩
      · go_wp2_with fail
        refine (unhide C2 _).mono ?_
        rintro e w7 ⟨rfl, hb7⟩
        have B7 := hide ((unhide B6).trans (hb7.mono (unhide B6).size))
        clear hb7
        by_cases hs2 : 0 ≤ s2
        · obtain rfl : true = r := by rw [← unhide HR5]; simp [hs2]
          go_wp2_with fail
          go_ret
          exact ⟨by first | (simp; done) | (simp; omega), unhide B7⟩
        · obtain rfl : false = r := by rw [← unhide HR5]; simp [hs2]
          go_wp2_with fail
          go_ret
          exact ⟨by first | (simp; done) | (simp; omega), unhide B7⟩
end Go.Proofs.YtbcbleonpaemgaaDoor
