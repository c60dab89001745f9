/- The text of a version by plain functions: what is read, by the pieces and by one pass. No condition. -/
import Derived.Test.YtbcbleonpaemgaaDoorSplitP
import Derived.Test.YtbcbleonpaemgaaDoorEDec
import Derived.Test.YtbcbleonpaemgaaDoorVCmp
namespace Go.Proofs.YtbcbleonpaemgaaDoor
open Go
/-- A number of a version: one to three digits, no zero ahead of others. -/
def okN (l : List UInt8) : Bool := decide (1 ≤ l.length) && (decide (l.length ≤ 3) && (!(decide (1 < l.length) && decide (l.head? = some 48)) && l.all isD))
def setV (v : Ver) (k : Nat) (n : Nat) : Ver := match k with | 0 => ⟨n, v.b, v.c⟩ | 1 => ⟨v.a, n, v.c⟩ | _ => ⟨v.a, v.b, n⟩
def z3 : Ver := ⟨0, 0, 0⟩
def badV : Ver × Int := (z3, 6)
/-- The pieces one after the other. -/
def finP (k : Nat) (v : Ver) : List (List UInt8) → Ver × Int
  | [] => if k = 3 then (v, 0) else badV
  | p :: ps => if 2 < k ∨ okN p = false then badV else finP (k + 1) (setV v k (decV 0 p)) ps
def parseV (l : List UInt8) : Ver × Int := finP 0 z3 (splitD 46 l)
/-- One pass. -/
def goP : Nat → Nat → Ver → List UInt8 → Ver × Int
  | 0, _, _, _ => badV
  | f + 1, k, v, t => if 2 < k ∨ okN (t.takeWhile isD) = false then badV
      else match t.dropWhile isD with
        | [] => if k = 2 then (setV v k (decV 0 (t.takeWhile isD)), 0) else badV
        | c :: r => if c = 46 then goP f (k + 1) (setV v k (decV 0 (t.takeWhile isD))) r else badV
theorem isD46 : isD 46 = false := by decide
theorem finP_len : ∀ (ps : List (List UInt8)) (k : Nat) (v : Ver), k + ps.length ≠ 3 → finP k v ps = badV
  | [], k, v, h => by rw [finP, if_neg (by simpa using h)]
  | p :: ps, k, v, h => by
    rw [finP]
    split
    · rfl
    · exact finP_len ps _ _ (by simp at h; omega)
theorem tw_all (t : List UInt8) : ∀ x ∈ t.takeWhile isD, isD x = true := by
  intro x hx
  have := List.all_takeWhile (p := isD) (l := t)
  exact List.all_eq_true.1 this x hx
theorem goP_eq : ∀ (f k : Nat) (v : Ver) (t : List UInt8), t.length < f → goP f k v t = finP k v (splitD 46 t)
  | 0, _, _, _, h => by omega
  | f + 1, k, v, t, h => by
    have hd := tw_all t
    have hne : ∀ x ∈ t.takeWhile isD, x ≠ 46 := fun x hx e => by have := hd x hx; rw [e, isD46] at this; cases this
    have ht := List.takeWhile_append_dropWhile (p := isD) (l := t)
    rw [goP]
    rcases hr : t.dropWhile isD with _ | ⟨c, r⟩
    · rw [hr, List.append_nil] at ht
      have hs : splitD 46 t = [t.takeWhile isD] := (congrArg (splitD 46) ht.symm).trans (splitD_end 46 _ hne)
      rw [hs, finP, finP]
      split
      · rfl
      · dsimp only
        by_cases h2 : k = 2
        · rw [if_pos h2, if_pos (by omega)]
        · rw [if_neg h2, if_neg (by omega)]
    · rw [hr] at ht
      have hc : isD c = false := by
        have := List.head?_dropWhile_not isD t
        rw [hr] at this
        simpa using this
      by_cases h46 : c = 46
      · subst h46
        have hs : splitD 46 t = t.takeWhile isD :: splitD 46 r := (congrArg (splitD 46) ht.symm).trans (splitD_app 46 _ r hne)
        have hl : r.length < f := by
          have := congrArg List.length ht
          simp at this
          omega
        rw [hs, finP]
        split
        · rfl
        · dsimp only
          rw [if_pos rfl, goP_eq f _ _ r hl]
      · obtain ⟨p, ps, h1, h2⟩ := splitD_head 46 (t.takeWhile isD) (c :: r) hne
        have hs : splitD 46 t = (t.takeWhile isD ++ p) :: ps := (congrArg (splitD 46) ht.symm).trans (h1)
        have hp : ∃ q, p = c :: q := by
          rw [splitD, if_neg h46] at h2
          split at h2
          · injection h2 with e _; exact ⟨_, e.symm⟩
          · injection h2 with e _; exact ⟨_, e.symm⟩
        obtain ⟨q, rfl⟩ := hp
        have hbad : okN (t.takeWhile isD ++ c :: q) = false := by
          have : (t.takeWhile isD ++ c :: q).all isD = false := by
            rw [List.all_append, List.all_cons, hc]; simp
          simp [okN, this]
        have e : finP k v ((t.takeWhile isD ++ c :: q) :: ps) = badV := by rw [finP, if_pos (.inr hbad)]
        rw [hs, e]
        split
        · rfl
        · dsimp only
          rw [if_neg h46]
theorem parse_goP (l : List UInt8) : goP (l.length + 1) 0 z3 l = parseV l := goP_eq _ _ _ _ (by omega)
theorem dd_okN (n : Nat) (h : n < 1000) : okN (Lib.decDigits n) = true := by
  have h1 := dd_ne n
  have h2 := dd_len 2 n (by omega)
  have h3 := dd_all n
  have h4 : ¬ (1 < (Lib.decDigits n).length ∧ (Lib.decDigits n).head? = some 48) := by
    rintro ⟨ha, hb⟩
    by_cases hn : n < 10
    · rw [dd_small n hn] at ha; simp at ha
    · obtain ⟨c, r, e, hc⟩ := dd_head n (by omega)
      rw [e] at hb
      simp at hb
      exact hc hb
  have h5 : 1 ≤ (Lib.decDigits n).length := by
    rcases hl : Lib.decDigits n with _ | _
    · exact absurd hl h1
    · simp
  simp only [okN, h5, h2, h3, decide_true, Bool.true_and, Bool.and_true, Bool.not_eq_true']
  simpa using h4
theorem dd_no46 (n : Nat) : ∀ x ∈ Lib.decDigits n, x ≠ 46 := fun x hx e => by
  have := List.all_eq_true.1 (dd_all n) x hx
  rw [e, isD46] at this
  cases this
theorem parse_fmtV (a b c : Nat) (ha : a < 1000) (hb : b < 1000) (hc : c < 1000) : parseV ((((Lib.decDigits a ++ [46]) ++ Lib.decDigits b) ++ [46]) ++ Lib.decDigits c) = (⟨a, b, c⟩, 0) := by
  have e : (((Lib.decDigits a ++ [46]) ++ Lib.decDigits b) ++ [46]) ++ Lib.decDigits c = Lib.decDigits a ++ 46 :: (Lib.decDigits b ++ 46 :: Lib.decDigits c) := by simp
  rw [e, parseV, splitD_app 46 _ _ (dd_no46 a), splitD_app 46 _ _ (dd_no46 b), splitD_end 46 _ (dd_no46 c)]
  simp [finP, dd_okN a ha, dd_okN b hb, dd_okN c hc, dd_val, setV]
end Go.Proofs.YtbcbleonpaemgaaDoor
