/- Open and the reference's Open by one plain function: the code and the bytes. No condition but a bound on the length. -/
import Derived.Test.YtaopgieejgcbeaaOpens
namespace Go.Proofs.Ytaopgieejgcbeaa
open Go.RowKit
def codeO (ks bs : List UInt8) : Int := if bs.length < 8 then 4 else if (leW (bs.drop (bs.length - 8)) : Int) = sumF ks (bs.take (bs.length - 8)) then 0 else 50
def outO (ks bs : List UInt8) : List UInt8 := if codeO ks bs = 0 then bs.take (bs.length - 8) else []
def OpenAll (w : World) (ks bs : List UInt8) (e : Ending) (w' : World) : Prop :=
  Below w.heap.size w w' ∧ ∃ A n c, e = .returned (.tuple #[.slice A n c, .int .i64 (codeO ks bs)]) ∧ Reads w' w'.heap.size 1 A n (bsV (outO ks bs)) ∧ n ≤ c ∧ c ≤ maxLen
set_option maxRecDepth 100000 in
theorem open_all (ks bs : List UInt8) (hk : ks.length = 16) (A : Option Addr) (n c : Nat) (w : World) (h : Reads w w.heap.size 1 A n (bsV bs)) (hn : n ≤ c) (hc : c ≤ maxLen) (hlen : n ≤ 1000000) :
    Calls Try.prog 14 #[.agg (bsV ks).toArray, .slice A n c] w fun e w' => OpenAll w ks bs e w' := by
  have hb : bs.length = n := by have := h.1; simpa using this
  by_cases h8 : n < 8
  · refine (open_short ks bs A n c w h8).mono ?_
    rintro e w' ⟨rfl, hbe⟩
    refine ⟨hbe, none, 0, 0, ?_, ?_, by omega, by simp [maxLen]⟩
    · rw [codeO, hb, if_pos h8]
    · rw [outO, codeO, hb, if_pos h8, if_neg (by omega)]
      exact ⟨by simp, fun h => by omega⟩
  · obtain ⟨m, rfl⟩ : ∃ m, n = m + 8 := ⟨n - 8, by omega⟩
    have hm : bs.length - 8 = m := by omega
    refine (open_long ks bs hk A m c w h hn hc (by omega) _ rfl).mono ?_
    rintro e w' ⟨hbe, hp⟩
    refine ⟨hbe, ?_⟩
    by_cases hq : (leW (bs.drop m) : Int) = sumF ks (bs.take m)
    · rw [decide_eq_true hq] at hp
      obtain ⟨v, rfl, ho⟩ := hp
      obtain ⟨A', c', rfl, hc', hm'⟩ := slice_of_own ho
      have hcode : codeO ks bs = 0 := by rw [codeO, if_neg (by omega), hm, if_pos hq]
      have hout : outO ks bs = bs.take m := by rw [outO, hcode, if_pos rfl, hm]
      refine ⟨A', m, c', ?_, ?_, hc', hm'⟩
      · rw [hcode]
      · rw [hout]
        exact Reads.of_own ho
    · rw [decide_eq_false hq] at hp
      obtain rfl := hp
      have hcode : codeO ks bs = 50 := by rw [codeO, if_neg (by omega), hm, if_neg hq]
      have hout : outO ks bs = [] := by rw [outO, hcode]; rfl
      refine ⟨none, 0, 0, ?_, ?_, by omega, by simp [maxLen]⟩
      · rw [hcode]
      · rw [hout]
        exact ⟨by simp, fun h => by omega⟩
set_option maxRecDepth 100000 in
theorem ref_open_all (ks bs : List UInt8) (hk : ks.length = 16) (A : Option Addr) (n c : Nat) (w : World) (h : Reads w w.heap.size 1 A n (bsV bs)) (hn : n ≤ c) (hc : c ≤ maxLen) (hlen : n ≤ 1000000) :
    Calls Try.prog 16 #[.agg (bsV ks).toArray, .slice A n c] w fun e w' => OpenAll w ks bs e w' := by
  have hb : bs.length = n := by have := h.1; simpa using this
  by_cases h8 : n < 8
  · refine (ref_open_short ks bs A n c w h8).mono ?_
    rintro e w' ⟨rfl, hbe⟩
    refine ⟨hbe, none, 0, 0, ?_, ?_, by omega, by simp [maxLen]⟩
    · rw [codeO, hb, if_pos h8]
    · rw [outO, codeO, hb, if_pos h8, if_neg (by omega)]
      exact ⟨by simp, fun h => by omega⟩
  · obtain ⟨m, rfl⟩ : ∃ m, n = m + 8 := ⟨n - 8, by omega⟩
    have hm : bs.length - 8 = m := by omega
    refine (ref_open_long ks bs hk A m c w h hn hc (by omega) _ rfl).mono ?_
    rintro e w' ⟨hbe, hp⟩
    refine ⟨hbe, ?_⟩
    by_cases hq : (leW (bs.drop m) : Int) = sumF ks (bs.take m)
    · rw [decide_eq_true hq] at hp
      obtain ⟨v, rfl, ho⟩ := hp
      obtain ⟨A', c', rfl, hc', hm'⟩ := slice_of_own ho
      have hcode : codeO ks bs = 0 := by rw [codeO, if_neg (by omega), hm, if_pos hq]
      have hout : outO ks bs = bs.take m := by rw [outO, hcode, if_pos rfl, hm]
      refine ⟨A', m, c', ?_, ?_, hc', hm'⟩
      · rw [hcode]
      · rw [hout]
        exact Reads.of_own ho
    · rw [decide_eq_false hq] at hp
      obtain rfl := hp
      have hcode : codeO ks bs = 50 := by rw [codeO, if_neg (by omega), hm, if_neg hq]
      have hout : outO ks bs = [] := by rw [outO, hcode]; rfl
      refine ⟨none, 0, 0, ?_, ?_, by omega, by simp [maxLen]⟩
      · rw [hcode]
      · rw [hout]
        exact ⟨by simp, fun h => by omega⟩
end Go.Proofs.Ytaopgieejgcbeaa
