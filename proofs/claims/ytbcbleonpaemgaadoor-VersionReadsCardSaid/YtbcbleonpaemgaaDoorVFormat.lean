/- version.Format returns fmtV where the version is valid, else the error of the range. No condition but the table of powers. -/
import Derived.Test.YtbcbleonpaemgaaDoorVRFormat
import Derived.Test.YtbcbleonpaemgaaDoorVShelf
import Derived.Test.YtbcbleonpaemgaaDoorVFmt
import Derived.Lib.SmallJoins
namespace Go.Proofs.YtbcbleonpaemgaaDoor
open Go.RowKit Go.Sort Go.Lib
def Pow10At (w : World) : Prop := Lib.TabIs Tryd.prog w "internal/strconv.uint64pow10" .u64 Lib.pow10Tab
theorem gPow : Tryd.prog.globalNamed "internal/strconv.uint64pow10" = some 0 := by kernel_rfl
theorem Pow10At.below {w w' : World} (h : Pow10At w) (hb : Below w.heap.size w w') : Pow10At w' := Go.Joins.tab_stays gPow h hb (Nat.le_refl _)
theorem grow_below (w : World) (k : Nat) (os : Array Obj) : Below w.heap.size w (grow (w.drewN k) os) :=
  ⟨rfl, rfl, rfl, by show w.heap.size ≤ (w.heap ++ os).size; simp, fun i hi => by
    show (w.heap ++ os)[i]? = _
    rw [Array.getElem?_append_left hi]⟩
theorem itoa_nat (n : Nat) : Lib.itoa (n : Int) = Lib.decDigits n := by
  unfold Lib.itoa
  simp
theorem itoa_full (w : World) (hP : Pow10At w) (n : Nat) (hn : n < 1000) (D : List UInt8) (hD : Lib.decDigits n = D) :
    Calls Tryd.prog 30 #[.int .i64 (n : Int)] w fun e w' => e = .returned (.string ⟨D.toArray⟩) ∧ Below w.heap.size w w' := by
  refine (Tryd.strconv_Itoa (n : Int) (by omega) (by omega) w hP).mono fun e w' h => ?_
  obtain ⟨he, k, os, rfl⟩ := h
  exact ⟨by rw [he, itoa_nat, hD], grow_below _ _ _⟩
theorem fmt_bad (w : World) (x : Ver) (hv : validV x = false) :
    Calls Tryd.prog 12 #[.agg #[.int .i64 x.a, .int .i64 x.b, .int .i64 x.c]] w fun e w' => e = .returned (.tuple #[.string ⟨#[]⟩, .int .i64 2]) ∧ Below w.heap.size w w' := by
  have HV := hide fun W => val_any W x false hv
  obtain ⟨a, b, c⟩ := x
  have B0 := hide ((Below.refl w.heap.size w).alloc (Nat.le_refl _) (.cells #[.int .i64 a, .int .i64 b, .int .i64 c] 26))
  clear hv
  dsimp only at HV B0 ⊢
  go_enter Tryd.func12, Tryd.ntmps12
  go_wp2_with fail
  refine (unhide HV _).mono ?_
  rintro e w1 ⟨rfl, hb1⟩
  have B1 := hide ((unhide B0).trans (hb1.mono (by simp)))
  clear hb1
  go_wp2_with fail
  go_ret2
  exact ⟨rfl, unhide B1⟩
set_option maxRecDepth 100000 in
set_option maxHeartbeats 8000000 in
theorem fmt_ok (w : World) (hP : Pow10At w) (a b c : Nat) (ha : a < 1000) (hb : b < 1000) (hc : c < 1000) (D : List UInt8) (hD : fmtV a b c = D) :
    Calls Tryd.prog 12 #[.agg #[.int .i64 (a : Int), .int .i64 (b : Int), .int .i64 (c : Int)]] w fun e w' => e = .returned (.tuple #[.string ⟨D.toArray⟩, .int .i64 0]) ∧ Below w.heap.size w w' := by
  have hv : validV ⟨a, b, c⟩ = true := by simp [validV, validR, inN]; omega
  have HV := hide fun W => val_any W ⟨a, b, c⟩ true hv
  dsimp only at HV
  obtain ⟨D1, h1⟩ : ∃ l, Lib.decDigits a = l := ⟨_, rfl⟩
  obtain ⟨D2, h2⟩ : ∃ l, Lib.decDigits b = l := ⟨_, rfl⟩
  obtain ⟨D3, h3⟩ : ∃ l, Lib.decDigits c = l := ⟨_, rfl⟩
  have G1 := hide fun W (h : Pow10At W) => itoa_full W h a ha D1 h1
  have G2 := hide fun W (h : Pow10At W) => itoa_full W h b hb D2 h2
  have G3 := hide fun W (h : Pow10At W) => itoa_full W h c hc D3 h3
  have l1 : D1.length ≤ 3 := h1 ▸ dd_len 2 a (by omega)
  have l2 : D2.length ≤ 3 := h2 ▸ dd_len 2 b (by omega)
  have l3 : D3.length ≤ 3 := h3 ▸ dd_len 2 c (by omega)
  unfold fmtV at hD
  rw [h1, h2, h3] at hD
  obtain ⟨S1, e1⟩ : ∃ l, D1 ++ [46] = l := ⟨_, rfl⟩
  rw [e1] at hD
  obtain ⟨S2, e2⟩ : ∃ l, S1 ++ D2 = l := ⟨_, rfl⟩
  rw [e2] at hD
  obtain ⟨S3, e3⟩ : ∃ l, S2 ++ [46] = l := ⟨_, rfl⟩
  rw [e3] at hD
  have m1 : S1.length ≤ 4 := by rw [← e1]; simp; omega
  have m2 : S2.length ≤ 7 := by rw [← e2]; simp; omega
  have m3 : S3.length ≤ 8 := by rw [← e3]; simp; omega
  have q1 : (⟨D1.toArray⟩ : ByteArray) ++ ⟨#[46]⟩ = ⟨S1.toArray⟩ := by rw [show (⟨#[46]⟩ : ByteArray) = ⟨[46].toArray⟩ from rfl, app2s, e1]
  have q2 : (⟨S1.toArray⟩ : ByteArray) ++ ⟨D2.toArray⟩ = ⟨S2.toArray⟩ := by rw [app2s, e2]
  have q3 : (⟨S2.toArray⟩ : ByteArray) ++ ⟨#[46]⟩ = ⟨S3.toArray⟩ := by rw [show (⟨#[46]⟩ : ByteArray) = ⟨[46].toArray⟩ from rfl, app2s, e3]
  have q4 : (⟨S3.toArray⟩ : ByteArray) ++ ⟨D3.toArray⟩ = ⟨D.toArray⟩ := by rw [app2s, hD]
  have t1 : D1.length ≤ 9223372036854775806 := by omega
  have t2 : S1.length + D2.length ≤ 9223372036854775807 := by omega
  have t3 : S2.length ≤ 9223372036854775806 := by omega
  have t4 : S3.length + D3.length ≤ 9223372036854775807 := by omega
  have B0 := hide ((Below.refl w.heap.size w).alloc (Nat.le_refl _) (.cells #[.int .i64 (a : Int), .int .i64 (b : Int), .int .i64 (c : Int)] 26))
  have HX := hide (Blk.new w 26 #[.int .i64 (a : Int), .int .i64 (b : Int), .int .i64 (c : Int)])
  have HP := hide hP
  clear hv h1 h2 h3 e1 e2 e3 hD ha hb hc hP l1 l2 l3 m1 m2 m3
  go_enter Tryd.func12, Tryd.ntmps12
  go_wp2_with fail
  refine (unhide HV _).mono ?_
  rintro e w1 ⟨rfl, hb1⟩
  have B1 := hide ((unhide B0).trans (hb1.mono (by simp)))
  have P1 := (unhide HP).below (unhide B1)
  have hX := (unhide HX).below hb1 (unhide HX).lt
  clear hb1
  have hin : Nonempty (InClass (fun W => Below w1.heap.size w1 W)) := ⟨⟨_, Below.refl _ _⟩⟩
  have K1 : Hid (∀ x' : InClass (fun W => Below w1.heap.size w1 W), Calls Tryd.prog 30 #[.int .i64 (a : Int)] x'.val fun e w'' => e = .returned (.string ⟨D1.toArray⟩) ∧ ∃ y' : InClass (fun W => Below w1.heap.size w1 W), w'' = y'.val) := hide fun x' => class_call (unhide G1 _ (P1.below x'.ok)) fun w' h => x'.ok.trans (h.mono x'.ok.size)
  have K2 : Hid (∀ x' : InClass (fun W => Below w1.heap.size w1 W), Calls Tryd.prog 30 #[.int .i64 (b : Int)] x'.val fun e w'' => e = .returned (.string ⟨D2.toArray⟩) ∧ ∃ y' : InClass (fun W => Below w1.heap.size w1 W), w'' = y'.val) := hide fun x' => class_call (unhide G2 _ (P1.below x'.ok)) fun w' h => x'.ok.trans (h.mono x'.ok.size)
  have K0 : Hid (∀ x' : InClass (fun W => Below w1.heap.size w1 W), Calls Tryd.prog 30 #[.int .i64 (c : Int)] x'.val fun e w'' => e = .returned (.string ⟨D3.toArray⟩) ∧ ∃ y' : InClass (fun W => Below w1.heap.size w1 W), w'' = y'.val) := hide fun x' => class_call (unhide G3 _ (P1.below x'.ok)) fun w' h => x'.ok.trans (h.mono x'.ok.size)
  have g0 : ∀ x' : InClass (fun W => Below w1.heap.size w1 W), x'.val.cell? ⟨w.heap.size, 0, none⟩ = some (.int .i64 (a : Int)) := fun x' => (hX.below x'.ok hX.lt).cell 0
  have g1 : ∀ x' : InClass (fun W => Below w1.heap.size w1 W), x'.val.cell? ⟨w.heap.size, 1, none⟩ = some (.int .i64 (b : Int)) := fun x' => (hX.below x'.ok hX.lt).cell 1
  have g2 : ∀ x' : InClass (fun W => Below w1.heap.size w1 W), x'.val.cell? ⟨w.heap.size, 2, none⟩ = some (.int .i64 (c : Int)) := fun x' => (hX.below x'.ok hX.lt).cell 2
  have G0 := hide g0
  have G1 := hide g1
  have G2 := hide g2
  clear hX P1 g0 g1 g2
  have hS0 := hide ((Below.refl w1.heap.size w1).drew)
  go_wp2_with fail
  refine wp_region_class (fun W => Below w1.heap.size w1 W) (by kernel_rfl) (by kernel_rfl) (unhide hS0) ?_
  have g0 := unhide G0
  have g1 := unhide G1
  have g2 := unhide G2
  iterate 4 (go_big_quiet_step ((go_at_call 30; exact (unhide K1) _)))
  iterate 6 (go_big_quiet_step ((go_at_call 30; exact (unhide K2) _)))
  repeat (go_big_quiet_step ((go_at_call 30; exact (unhide K0) _)))
  refine wpQuiet_nil ?_
  intro _ hw'
  obtain ⟨x13, hw''⟩ := hw'
  subst hw''
  have B4 := hide ((unhide B1).trans (x13.ok.mono (unhide B1).size))
  clear g0 g1 g2
  go_wp2_with fail
  go_ret2
  exact ⟨rfl, unhide B4⟩
end Go.Proofs.YtbcbleonpaemgaaDoor
