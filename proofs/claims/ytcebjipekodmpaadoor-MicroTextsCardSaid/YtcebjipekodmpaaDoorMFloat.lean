/- Plain law of floating point: the square root of a number up to 10^18, made whole, is at most 2^31. No program. -/
import GoSem.Core.Float
namespace Go.Proofs.YtcebjipekodmpaaDoor
open Ieee
theorem log2_bd (m : Nat) (h : m ≠ 0) : 2 ^ m.log2 ≤ m ∧ m < 2 ^ (m.log2 + 1) := ⟨Nat.log2_self_le h, Nat.lt_log2_self⟩
theorem cut_even_bd (neg : Bool) (n drop : Nat) (h : drop ≤ n.log2 + 2) : n / 2 ^ drop ≤ Toward.even.cut neg n drop ∧ Toward.even.cut neg n drop ≤ n / 2 ^ drop + 1 := by
  unfold Toward.cut
  rw [Nat.min_eq_left h, Nat.one_shiftLeft]
  dsimp only
  generalize (2 ^ drop < 2 * (n % 2 ^ drop) || (2 ^ drop == 2 * (n % 2 ^ drop) && n / 2 ^ drop % 2 == 1) : Bool) = b
  cases b <;> simp
theorem kept_bd (mag : Nat) (place : Int) (h : mag ≠ 0) :
    4503599627370496 ≤ Toward.even.cut false (mag <<< (place - (place + mag.log2 - 52)).toNat) ((place + mag.log2 - 52) - place).toNat ∧
    Toward.even.cut false (mag <<< (place - (place + mag.log2 - 52)).toNat) ((place + mag.log2 - 52) - place).toNat ≤ 9007199254740992 := by
  obtain ⟨h1, h2⟩ := log2_bd mag h
  generalize hL : mag.log2 = L at *
  by_cases hc : L ≤ 52
  · have e1 : (place - (place + (L : Int) - 52)).toNat = 52 - L := by omega
    have e2 : ((place + (L : Int) - 52) - place).toNat = 0 := by omega
    rw [e1, e2, Nat.shiftLeft_eq]
    have h3 : 2 ^ L * 2 ^ (52 - L) = 4503599627370496 := by rw [← Nat.pow_add, show L + (52 - L) = 52 by omega]
    have h4 : 2 ^ (L + 1) * 2 ^ (52 - L) = 9007199254740992 := by rw [← Nat.pow_add, show L + 1 + (52 - L) = 53 by omega]
    have h5 : 2 ^ L * 2 ^ (52 - L) ≤ mag * 2 ^ (52 - L) := Nat.mul_le_mul_right _ h1
    have h6 : mag * 2 ^ (52 - L) < 2 ^ (L + 1) * 2 ^ (52 - L) := Nat.mul_lt_mul_of_pos_right h2 (Nat.two_pow_pos _)
    have h7 := cut_even_bd false (mag * 2 ^ (52 - L)) 0 (by omega)
    rw [Nat.pow_zero, Nat.div_one] at h7
    omega
  · have e1 : (place - (place + (L : Int) - 52)).toNat = 0 := by omega
    have e2 : ((place + (L : Int) - 52) - place).toNat = L - 52 := by omega
    rw [e1, e2, Nat.shiftLeft_eq, Nat.pow_zero, Nat.mul_one]
    have h7 := cut_even_bd false mag (L - 52) (by omega)
    have h3 : 4503599627370496 * 2 ^ (L - 52) = 2 ^ L := by rw [show (4503599627370496 : Nat) = 2 ^ 52 from rfl, ← Nat.pow_add, show 52 + (L - 52) = L by omega]
    have h4 : 9007199254740992 * 2 ^ (L - 52) = 2 ^ (L + 1) := by rw [show (9007199254740992 : Nat) = 2 ^ 53 from rfl, ← Nat.pow_add, show 53 + (L - 52) = L + 1 by omega]
    have h5 : 4503599627370496 ≤ mag / 2 ^ (L - 52) := (Nat.le_div_iff_mul_le (Nat.two_pow_pos _)).2 (by omega)
    have h6 : mag / 2 ^ (L - 52) < 9007199254740992 := (Nat.div_lt_iff_lt_mul (Nat.two_pow_pos _)).2 (by omega)
    omega
theorem read_rung (K kept : Nat) (hK : K ≤ 2044) (h1 : 4503599627370496 ≤ kept) (h2 : kept ≤ 9007199254740992) :
    ∃ (m : Nat) (i : Int), double.read (K * 4503599627370496 + kept) = .number false m i ∧ 4503599627370496 ≤ m ∧ m < 9007199254740992 ∧ (i = (K : Int) - 1074 ∨ (i = (K : Int) - 1073 ∧ m = 4503599627370496)) := by
  have hb : double.binade = 4503599627370496 := rfl
  have hs : double.signWeight = 9223372036854775808 := rfl
  have hi : double.infRung = 9218868437227405312 := rfl
  have hl : double.leastPlace = -1074 := rfl
  unfold Format.read
  rw [hb, hs, hi, hl]
  have e1 : (K * 4503599627370496 + kept) % 9223372036854775808 = K * 4503599627370496 + kept := by omega
  have e2 : (K * 4503599627370496 + kept) / 9223372036854775808 % 2 = 0 := by omega
  rw [e1, e2]
  dsimp only
  rw [if_neg (by omega), if_pos (by omega)]
  refine ⟨_, _, rfl, ?_, ?_, ?_⟩ <;> omega
theorem nearest_read (mag : Nat) (place : Int) (h : mag ≠ 0) (h1 : -1000 ≤ place + mag.log2) (h2 : place + mag.log2 ≤ 1000) :
    ∃ (m : Nat) (i : Int), double.read (double.nearest false mag place) = .number false m i ∧ 4503599627370496 ≤ m ∧ m < 9007199254740992 ∧ (i = place + mag.log2 - 52 ∨ (i = place + mag.log2 - 51 ∧ m = 4503599627370496)) := by
  have hb : double.binade = 4503599627370496 := rfl
  have hi : double.infRung = 9218868437227405312 := rfl
  have hl : double.leastPlace = -1074 := rfl
  have hf : (double.fractionBits : Int) = 52 := rfl
  unfold Format.nearest
  rw [if_neg h, hb, hi, hl, hf]
  have e1 : max (place + (mag.log2 : Int) - 52) (-1074) = place + mag.log2 - 52 := by omega
  rw [e1]
  dsimp only
  obtain ⟨k1, k2⟩ := kept_bd mag place h
  generalize Toward.even.cut false (mag <<< (place - (place + mag.log2 - 52)).toNat) ((place + mag.log2 - 52) - place).toNat = kept at *
  obtain ⟨K, hK⟩ : ∃ K : Nat, (place + (mag.log2 : Int) - 52 - -1074).toNat = K := ⟨_, rfl⟩
  rw [hK, Nat.min_eq_left (by omega)]
  obtain ⟨m, i, hr, hm1, hm2, hi⟩ := read_rung K kept (by omega) k1 k2
  refine ⟨m, i, hr, hm1, hm2, ?_⟩
  omega
theorem rootFrom_le (n : Nat) : ∀ (t r : Nat), r * r ≤ n → Datum.rootFrom n t r * Datum.rootFrom n t r ≤ n
  | 0, _, h => h
  | t + 1, r, h => by
    unfold Datum.rootFrom
    dsimp only
    split
    · exact rootFrom_le n t _ (by assumption)
    · exact rootFrom_le n t _ h
theorem log2_of (m : Nat) (h1 : 4503599627370496 ≤ m) (h2 : m < 9007199254740992) : m.log2 = 52 := by
  have h0 : m ≠ 0 := by omega
  exact (Nat.log2_eq_iff h0).2 ⟨h1, h2⟩
theorem root_bd (m : Nat) (i : Int) (h1 : 4503599627370496 ≤ m) (h2 : m < 9007199254740992) (hi1 : -60 ≤ i) (hi2 : i ≤ 8) :
    ∃ (q : Nat) (p : Int), (Datum.number false m i).root 54 = some (.number false q p) ∧ q < 72057594037927936 ∧ p ≤ -25 ∧ -60 ≤ p := by
  have hm : m ≠ 0 := by omega
  unfold Datum.root
  dsimp only
  rw [log2_of m h1 h2, if_neg hm, if_neg (by simp)]
  obtain ⟨d, hd⟩ : ∃ d : Nat, ((i - ((2 * 54 - 52 : Nat) : Int)) % 2).toNat = d := ⟨_, rfl⟩
  have hd1 : d ≤ 1 := by omega
  rw [hd]
  have hr := rootFrom_le (m <<< (2 * 54 - 52 + d)) ((m <<< (2 * 54 - 52 + d)).log2 / 2 + 1) 0 (by simp)
  generalize Datum.rootFrom (m <<< (2 * 54 - 52 + d)) ((m <<< (2 * 54 - 52 + d)).log2 / 2 + 1) 0 = W at *
  have hn : m <<< (2 * 54 - 52 + d) < 1298074214633706907132624082305024 := by
    rw [Nat.shiftLeft_eq]
    have h3 : 2 ^ (2 * 54 - 52 + d) ≤ 2 ^ 57 := Nat.pow_le_pow_right (by omega) (by omega)
    have h4 : m * 2 ^ (2 * 54 - 52 + d) ≤ m * 2 ^ 57 := Nat.mul_le_mul_left _ h3
    have h5 : m * 2 ^ 57 < 9007199254740992 * 2 ^ 57 := Nat.mul_lt_mul_of_pos_right h2 (Nat.two_pow_pos _)
    omega
  have hW : W < 36028797018963968 := by
    rcases Nat.lt_or_ge W 36028797018963968 with h | h
    · exact h
    · have := Nat.mul_le_mul h h
      omega
  refine ⟨_, _, rfl, ?_, ?_, ?_⟩
  · generalize (W * W != m <<< (2 * 54 - 52 + d)) = b
    cases b <;> simp <;> omega
  · omega
  · omega
theorem toInt_bd (m : Nat) (i : Int) (h2 : m < 9007199254740992) (hi : i ≤ -22 ∨ (i ≤ -21 ∧ m = 4503599627370496)) :
    ∃ k : Nat, k ≤ 2147483648 ∧ (Datum.number false m i).toInt .zero = some (k : Int) := by
  obtain ⟨D, hD⟩ : ∃ D : Nat, (-i).toNat = D := ⟨_, rfl⟩
  have e0 : i.toNat = 0 := by omega
  refine ⟨m / 2 ^ min D (m.log2 + 2), ?_, ?_⟩
  · rcases Nat.le_total D (m.log2 + 2) with h | h
    · rw [Nat.min_eq_left h]
      have h3 : 2 ^ 21 ≤ 2 ^ D := Nat.pow_le_pow_right (by omega) (by omega)
      have h4 : m / 2 ^ D ≤ m / 2 ^ 21 := Nat.div_le_div_left h3 (by omega)
      rcases hi with hi | ⟨hi, rfl⟩
      · have h5 : 2 ^ 22 ≤ 2 ^ D := Nat.pow_le_pow_right (by omega) (by omega)
        have h6 : m / 2 ^ D ≤ m / 2 ^ 22 := Nat.div_le_div_left h5 (by omega)
        omega
      · omega
    · rw [Nat.min_eq_right h]
      have h3 : m < 2 ^ (m.log2 + 2) := Nat.lt_trans Nat.lt_log2_self (Nat.pow_lt_pow_right (by omega) (by omega))
      rw [Nat.div_eq_of_lt h3]
      omega
  · unfold Datum.toInt Datum.integral Toward.cut
    dsimp only
    rw [e0, hD]
    simp [signed, Nat.shiftLeft_eq]
theorem sqrt_to (n : Nat) (hn : n ≤ 1000000000000000000) :
    ∃ r, double.sqrt (double.nearest false n 0) = some r ∧ ∃ k : Nat, k ≤ 2147483648 ∧ (double.read r).toInt .zero = some (k : Int) := by
  by_cases h0 : n = 0
  · subst h0
    exact ⟨0, by rfl, 0, by omega, by rfl⟩
  · have hL : n.log2 < 60 := (Nat.log2_lt h0).2 (by omega)
    obtain ⟨m, i, hr, hm1, hm2, hi⟩ := nearest_read n 0 h0 (by omega) (by omega)
    obtain ⟨q, p, hq, hqb, hp1, hp2⟩ := root_bd m i hm1 hm2 (by omega) (by omega)
    refine ⟨double.nearest false q p, ?_, ?_⟩
    · unfold Format.sqrt
      rw [hr, show double.fractionBits + 2 = 54 from rfl, hq]
      rfl
    · by_cases hq0 : q = 0
      · subst hq0
        have e : double.nearest false 0 p = 0 := rfl
        rw [e]
        exact ⟨0, by omega, by rfl⟩
      · have hL2 : q.log2 < 56 := (Nat.log2_lt hq0).2 (by omega)
        obtain ⟨m2, i2, hr2, hm3, hm4, hi2⟩ := nearest_read q p hq0 (by omega) (by omega)
        rw [hr2]
        exact toInt_bd m2 i2 hm4 (by omega)
end Go.Proofs.YtcebjipekodmpaaDoor
