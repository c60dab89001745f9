/- Plain laws between the reference's Parse and parseF: the digits in front, what follows them. No condition. -/
import Derived.Test.YtcebjipekodmpaaDoorMRet
namespace Go.Proofs.YtcebjipekodmpaaDoor
open Go
theorem tw_digits (D X : List UInt8) (hD : D.all isD = true) (hX : ∀ c r, X = c :: r → isD c = false) : (D ++ X).takeWhile isD = D := by
  rw [List.takeWhile_append_of_pos (by rw [List.all_eq_true] at hD; exact hD)]
  rcases X with _ | ⟨c, r⟩
  · simp
  · rw [List.takeWhile_cons_of_neg (by rw [hX c r rfl]; simp), List.append_nil]
theorem tw_split (b : List UInt8) : ∃ X, b = b.takeWhile isD ++ X ∧ (b.takeWhile isD).all isD = true ∧ ∀ c r, X = c :: r → isD c = false := by
  induction b with
  | nil => exact ⟨[], rfl, rfl, fun c r h => by cases h⟩
  | cons a b ih =>
    cases ha : isD a
    · exact ⟨a :: b, by rw [List.takeWhile_cons_of_neg (by rw [ha]; simp)]; rfl, by rw [List.takeWhile_cons_of_neg (by rw [ha]; simp)]; rfl, fun c r h => by injection h with h1 _; rw [← h1]; exact ha⟩
    · obtain ⟨X, h1, h2, h3⟩ := ih
      refine ⟨X, ?_, ?_, h3⟩
      · rw [List.takeWhile_cons_of_pos ha, List.cons_append, ← h1]
      · rw [List.takeWhile_cons_of_pos ha, List.all_cons, ha, h2]; rfl
theorem isD_46 : isD 46 = false := rfl
theorem wh_digits (b wh pt : List UInt8) (po : Bool) (hc : Lib.cut b [46] = (wh, pt, po)) (hw : wh.all isD = true) : b.takeWhile isD = wh ∧ ((po = false ∧ b = wh) ∨ (po = true ∧ b = wh ++ 46 :: pt)) := by
  rw [cut_dot] at hc
  have hs := List.takeWhile_append_dropWhile (p := (· != (46 : UInt8))) (l := b)
  rcases hd : b.dropWhile (· != 46) with _ | ⟨c, r⟩
  · rw [hd] at hc
    injection hc with h1 h2
    injection h2 with h2 h3
    subst h1
    refine ⟨?_, Or.inl ⟨h3.symm, rfl⟩⟩
    have := tw_digits b [] hw (fun c r h => by cases h)
    rwa [List.append_nil] at this
  · have hc46 : c = 46 := by
      have := List.head_dropWhile_not (p := (· != (46 : UInt8))) (l := b) (by rw [hd]; simp)
      simp [hd] at this
      exact this
    rw [hd] at hc hs
    injection hc with h1 h2
    injection h2 with h2 h3
    subst hc46
    rw [h1, h2] at hs
    refine ⟨?_, Or.inr ⟨h3.symm, hs.symm⟩⟩
    rw [← hs]
    exact tw_digits wh (46 :: pt) hw (fun c r h => by injection h with h4 _; rw [← h4]; rfl)
/-- The number of a text with its sign, or the error of one too great. -/
def outF (ng : Bool) (V : Nat) : Int × Int := if 1000000000000 < V then (0, 2) else (if ng = true then -(V : Int) else V, 0)
theorem parseF_bad (l : List UInt8) (h : ∀ wh pt po, Lib.cut (bodyL l) [46] = (wh, pt, po) → okB wh pt po = true → False) : parseF l = (0, 6) := by
  unfold parseF
  obtain ⟨wh, pt, po, hc⟩ : ∃ wh pt po, Lib.cut (bodyL l) [46] = (wh, pt, po) := ⟨_, _, _, rfl⟩
  rw [hc]
  dsimp only
  rw [if_neg fun h2 => h wh pt po hc h2]
theorem okB_wh {wh pt : List UInt8} {po : Bool} (h : okB wh pt po = true) : wh.all isD = true ∧ 1 ≤ wh.length ∧ wh.length ≤ 7 ∧ ¬ (1 < wh.length ∧ wh.head? = some 48) ∧ (po = true → numB pt 6 = true) := by
  simp only [okB, numB, Bool.and_eq_true, decide_eq_true_eq, Bool.not_eq_true', Bool.and_eq_false_imp, Bool.or_eq_true, decide_eq_false_iff_not] at h
  obtain ⟨⟨h1, h2, h3⟩, h4, h5⟩ := h
  refine ⟨h3, h1, h2, fun h => h4 h.1 h.2, fun hp => ?_⟩
  rcases h5 with h5 | h5
  · rw [hp] at h5; cases h5
  · simp only [numB, Bool.and_eq_true, decide_eq_true_eq]; exact h5
theorem bad_digits (l D : List UInt8) (hD : (bodyL l).takeWhile isD = D) (h : D.length = 0 ∨ 7 < D.length ∨ (1 < D.length ∧ D.head? = some 48)) : parseF l = (0, 6) := by
  apply parseF_bad
  intro wh pt po hc hok
  obtain ⟨h1, h2, h3, h4, _⟩ := okB_wh hok
  obtain ⟨e, _⟩ := wh_digits _ _ _ _ hc h1
  rw [hD] at e
  subst e
  rcases h with h | h | h
  · omega
  · omega
  · exact h4 h
theorem bad_next (l D : List UInt8) (c : UInt8) (r : List UInt8) (hb : bodyL l = D ++ c :: r) (hD : D.all isD = true) (hcd : isD c = false) (hc46 : c ≠ 46) : parseF l = (0, 6) := by
  have htw := tw_digits D (c :: r) hD (fun c' r' h => by injection h with h1 _; rw [← h1]; exact hcd)
  apply parseF_bad
  intro wh pt po hc hok
  rw [hb] at hc
  obtain ⟨e, h⟩ := wh_digits _ _ _ _ hc (okB_wh hok).1
  rw [htw] at e
  subst e
  rcases h with ⟨_, h⟩ | ⟨_, h⟩
  · have := congrArg List.length h
    simp at this
  · have := List.append_cancel_left h
    injection this with h1 _
    exact hc46 h1
theorem good_whole (l D : List UInt8) (hb : bodyL l = D) (hD : D.all isD = true) (h1 : 1 ≤ D.length) (h7 : D.length ≤ 7) (hz : ¬ (1 < D.length ∧ D.head? = some 48)) : parseF l = outF (negB l) (decV 0 D * 1000000) := by
  have hok : okB D [] false = true := by
    simp only [okB, numB, Bool.and_eq_true, decide_eq_true_eq, Bool.not_eq_true', Bool.and_eq_false_imp, Bool.or_eq_true, decide_eq_false_iff_not]
    exact ⟨⟨h1, h7, hD⟩, fun a b => hz ⟨a, b⟩, Or.inl trivial⟩
  have hv : valF D [] = decV 0 D * 1000000 := by
    unfold valF
    rw [List.append_nil, decV_app, decV_acc, decV_zeros]
    have : (zerosL (6 - ([] : List UInt8).length)).length = 6 := by simp [zerosL]
    rw [this]
    omega
  unfold parseF
  rw [hb, cut_none D hD]
  dsimp only
  rw [if_pos hok, hv]
  rfl
theorem dot_part (l D r : List UInt8) (hb : bodyL l = D ++ 46 :: r) (hD : D.all isD = true) (h1 : 1 ≤ D.length) (h7 : D.length ≤ 7) (hz : ¬ (1 < D.length ∧ D.head? = some 48)) :
    parseF l = if numB r 6 = true then outF (negB l) (decV 0 D * 1000000 + decV 0 r * 10 ^ (6 - r.length)) else (0, 6) := by
  by_cases hr : numB r 6 = true
  · have hok : okB D r true = true := by
      simp only [okB, Bool.and_eq_true, Bool.not_eq_true', Bool.and_eq_false_imp, Bool.or_eq_true, decide_eq_false_iff_not, decide_eq_true_eq]
      exact ⟨by simp only [numB, Bool.and_eq_true, decide_eq_true_eq]; exact ⟨h1, h7, hD⟩, fun a b => hz ⟨a, b⟩, Or.inr hr⟩
    have hr6 : r.length ≤ 6 := (numB_all _ _ hr).2
    have hv : valF D r = decV 0 D * 1000000 + decV 0 r * 10 ^ (6 - r.length) := by
      have hz : (zerosL (6 - r.length)).length = 6 - r.length := by simp [zerosL]
      unfold valF
      rw [List.append_assoc, decV_app, decV_acc, List.length_append, hz, show r.length + (6 - r.length) = 6 by omega, decV_app, decV_acc (zerosL _), decV_zeros, hz]
      omega
    unfold parseF
    rw [hb, take_dot D r hD]
    dsimp only
    rw [if_pos hok, hv, if_pos hr]
    rfl
  · unfold parseF
    rw [hb, take_dot D r hD]
    dsimp only
    rw [if_neg (fun h => hr ((okB_wh h).2.2.2.2 rfl)), if_neg hr]
end Go.Proofs.YtcebjipekodmpaaDoor
