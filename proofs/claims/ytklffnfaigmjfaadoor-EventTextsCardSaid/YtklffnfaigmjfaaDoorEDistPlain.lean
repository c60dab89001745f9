/- Two valid events with the same bytes, or with the same text, are the same. No program. No condition. -/
import Derived.Test.YtklffnfaigmjfaaDoorEDec
import Derived.Test.YtklffnfaigmjfaaDoorEFmtPlain
import Derived.Test.YtklffnfaigmjfaaDoorEEnc
namespace Go.Proofs.YtklffnfaigmjfaaDoor
theorem join_cons (a b : List UInt8) (r : List (List UInt8)) : Lib.join (a :: b :: r) [32] = a ++ 32 :: Lib.join (b :: r) [32] := by
  simp [Lib.join, List.intercalate, List.intersperse]
theorem no32_split {a b s t : List UInt8} (ha : ∀ c ∈ a, c ≠ 32) (hb : ∀ c ∈ b, c ≠ 32) (h : a ++ 32 :: s = b ++ 32 :: t) : a = b ∧ s = t := by
  induction a generalizing b with
  | nil =>
    rcases b with _ | ⟨c, b⟩
    · simpa using h
    · simp only [List.nil_append, List.cons_append, List.cons.injEq] at h
      exact absurd h.1.symm (hb c (List.mem_cons_self ..))
  | cons c a ih =>
    rcases b with _ | ⟨d, b⟩
    · simp only [List.nil_append, List.cons_append, List.cons.injEq] at h
      exact absurd h.1 (ha c (List.mem_cons_self ..))
    · simp only [List.cons_append, List.cons.injEq] at h
      obtain ⟨h1, h2⟩ := ih (fun x hx => ha x (List.mem_cons_of_mem _ hx)) (fun x hx => hb x (List.mem_cons_of_mem _ hx)) h.2
      exact ⟨by rw [h.1, h1], h2⟩
theorem dd_no32 (n : Nat) : ∀ c ∈ Lib.decDigits n, c ≠ 32 := by
  intro c hc e
  have h := List.all_eq_true.1 (dd_all n) c hc
  subst e
  simp [isD] at h
theorem dd_inj {a b : Nat} (h : Lib.decDigits a = Lib.decDigits b) : a = b := by rw [← dd_val a, h, dd_val b]
theorem hexB_no32 (n : Nat) (h : n < 16) : hexB n ≠ 32 := by
  intro e
  have := congrArg UInt8.toNat e
  rw [hexB_val n h] at this
  unfold hexD at this
  have e2 : (32 : UInt8).toNat = 32 := rfl
  rw [e2] at this
  split at this <;> omega
theorem hexB_inj {a b : Nat} (ha : a < 16) (hb : b < 16) (h : hexB a = hexB b) : a = b := by
  have := congrArg UInt8.toNat h
  rw [hexB_val a ha, hexB_val b hb] at this
  unfold hexD at this
  split at this <;> split at this <;> omega
theorem data_no32 (a b c : Nat) (ha : a < 256) (hb : b < 256) (hc : c < 256) : ∀ x ∈ dataL a b c, x ≠ 32 := by
  intro x hx
  simp only [dataL, List.mem_cons, List.not_mem_nil, or_false] at hx
  rcases hx with rfl | rfl | rfl | rfl | rfl | rfl <;> exact hexB_no32 _ (by omega)
theorem data_inj {a b c a' b' c' : Nat} (ha : a < 256) (hb : b < 256) (hc : c < 256) (ha' : a' < 256) (hb' : b' < 256) (hc' : c' < 256) (h : dataL a b c = dataL a' b' c') : a = a' ∧ b = b' ∧ c = c' := by
  simp only [dataL, List.cons.injEq, and_true] at h
  obtain ⟨h0, h1, h2, h3, h4, h5⟩ := h
  have := hexB_inj (by omega) (by omega) h0
  have := hexB_inj (by omega) (by omega) h1
  have := hexB_inj (by omega) (by omega) h2
  have := hexB_inj (by omega) (by omega) h3
  have := hexB_inj (by omega) (by omega) h4
  have := hexB_inj (by omega) (by omega) h5
  omega
theorem sign_no32 (b : Bool) : ∀ x ∈ signL b, x ≠ 32 := by cases b <;> decide
theorem fmtE_eq (e : Ev) : fmtE e = Lib.decDigits e.id.toNat ++ 32 :: (Lib.decDigits e.tm.toNat ++ 32 :: (Lib.decDigits e.gn.toNat ++ 32 :: (Lib.decDigits e.st.toNat ++ 32 :: (Lib.decDigits e.sn.toNat ++ 32 :: (Lib.decDigits e.ty.toNat ++ 32 :: (signL e.ds ++ 32 :: (dataL e.d0.toNat e.d1.toNat e.d2.toNat ++ 32 :: wordL e.ty))))))) := by
  unfold fmtE partsE
  simp only [join_cons, Lib.join_one]
theorem fmt_parts {x y : Ev} (dx : ∀ c ∈ dataL x.d0.toNat x.d1.toNat x.d2.toNat, c ≠ 32) (dy : ∀ c ∈ dataL y.d0.toNat y.d1.toNat y.d2.toNat, c ≠ 32) (h : fmtE x = fmtE y) :
    x.id.toNat = y.id.toNat ∧ x.tm.toNat = y.tm.toNat ∧ x.gn.toNat = y.gn.toNat ∧ x.st.toNat = y.st.toNat ∧ x.sn.toNat = y.sn.toNat ∧ x.ty.toNat = y.ty.toNat ∧ signL x.ds = signL y.ds ∧ dataL x.d0.toNat x.d1.toNat x.d2.toNat = dataL y.d0.toNat y.d1.toNat y.d2.toNat := by
  rw [fmtE_eq, fmtE_eq] at h
  obtain ⟨g1, h⟩ := no32_split (dd_no32 _) (dd_no32 _) h
  obtain ⟨g2, h⟩ := no32_split (dd_no32 _) (dd_no32 _) h
  obtain ⟨g3, h⟩ := no32_split (dd_no32 _) (dd_no32 _) h
  obtain ⟨g4, h⟩ := no32_split (dd_no32 _) (dd_no32 _) h
  obtain ⟨g5, h⟩ := no32_split (dd_no32 _) (dd_no32 _) h
  obtain ⟨g6, h⟩ := no32_split (dd_no32 _) (dd_no32 _) h
  obtain ⟨g7, h⟩ := no32_split (sign_no32 _) (sign_no32 _) h
  obtain ⟨g8, h⟩ := no32_split dx dy h
  exact ⟨dd_inj g1, dd_inj g2, dd_inj g3, dd_inj g4, dd_inj g5, dd_inj g6, g7, g8⟩
theorem sign_inj {a b : Bool} (h : signL a = signL b) : a = b := by
  cases a <;> cases b
  · rfl
  · exact absurd h (by decide)
  · exact absurd h (by decide)
  · rfl
theorem nat_eq {a b : Int} (ha : 0 ≤ a) (hb : 0 ≤ b) (h : a.toNat = b.toNat) : a = b := by omega
theorem nat_lt {a : Int} {n : Nat} (hn : 0 < n) (h : a < (n : Int)) : a.toNat < n := by omega
theorem fmtE_inj {x y : Ev} (hx : x.In) (hy : y.In) (h : fmtE x = fmtE y) : x = y := by
  obtain ⟨g1, g2, g3, g4, g5, g6, g7, g8⟩ := fmt_parts (data_no32 _ _ _ (nat_lt (by decide) hx.d01) (nat_lt (by decide) hx.d11) (nat_lt (by decide) hx.d21)) (data_no32 _ _ _ (nat_lt (by decide) hy.d01) (nat_lt (by decide) hy.d11) (nat_lt (by decide) hy.d21)) h
  obtain ⟨k0, k1, k2⟩ := data_inj (nat_lt (by decide) hx.d01) (nat_lt (by decide) hx.d11) (nat_lt (by decide) hx.d21) (nat_lt (by decide) hy.d01) (nat_lt (by decide) hy.d11) (nat_lt (by decide) hy.d21) g8
  have e1 := nat_eq hx.id0 hy.id0 g1
  have e2 := nat_eq hx.tm0 hy.tm0 g2
  have e3 := nat_eq hx.gn0 hy.gn0 g3
  have e4 := nat_eq hx.st0 hy.st0 g4
  have e5 := nat_eq hx.sn0 hy.sn0 g5
  have e6 := nat_eq hx.ty0 hy.ty0 g6
  have e7 := sign_inj g7
  have e8 := nat_eq hx.d00 hy.d00 k0
  have e9 := nat_eq hx.d10 hy.d10 k1
  have e10 := nat_eq hx.d20 hy.d20 k2
  clear h hx hy g1 g2 g3 g4 g5 g6 g7 g8 k0 k1 k2
  obtain ⟨id, tm, gn, st, sn, ty, ds, d0, d1, d2⟩ := x
  obtain ⟨id', tm', gn', st', sn', ty', ds', d0', d1', d2'⟩ := y
  rw [Ev.mk.injEq]
  exact ⟨e1, e2, e3, e4, e5, e6, e7, e8, e9, e10⟩
theorem encL_inj {x y : Ev} (hx : x.In) (hy : y.In) (vx : validE x = true) (vy : validE y = true) (h : encL x = encL y) : x = y := by
  have a0 := hx.id0; have a1 := hx.id1; have a2 := hx.tm0; have a3 := hx.tm1; have a4 := hx.gn0; have a5 := hx.gn1; have a6 := hx.ty0
  have b0 := hy.id0; have b1 := hy.id1; have b2 := hy.tm0; have b3 := hy.tm1; have b4 := hy.gn0; have b5 := hy.gn1; have b6 := hy.ty0
  have tx : x.ty ≤ 127 := by simp [validE] at vx; omega
  have ty' : y.ty ≤ 127 := by simp [validE] at vy; omega
  obtain ⟨id, tm, gn, st, sn, ty, ds, d0, d1, d2⟩ := x
  obtain ⟨id', tm', gn', st', sn', t', ds', d0', d1', d2'⟩ := y
  simp only [encL, kindE, List.cons.injEq, and_true] at h
  dsimp only at *
  obtain ⟨h0, h1, _, h3, h4, h5, h6, h7, h8, _, h9, h10, h11, h12, h13, h14⟩ := h
  rw [Ev.mk.injEq]
  cases ds <;> cases ds' <;> simp only [if_true, if_false, Bool.false_eq_true] at h11
  · exact ⟨by omega, by omega, by omega, h9, h10, h11, rfl, h12, h13, h14⟩
  · omega
  · omega
  · exact ⟨by omega, by omega, by omega, h9, h10, by omega, rfl, h12, h13, h14⟩
end Go.Proofs.YtklffnfaigmjfaaDoor
