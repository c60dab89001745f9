/- event.Decode and event.Encode, of any bytes and any event, each by one plain function. No condition. -/
import Derived.Test.YtklffnfaigmjfaaDoorEDec16
import Derived.Test.YtklffnfaigmjfaaDoorEEnc
namespace Go.Proofs.YtklffnfaigmjfaaDoor
open Go.RowKit
theorem decR_short {l : List Int} (h : l.length < 16) : decR l = (zeroEv, 4) := by
  unfold decR
  split
  · simp at h
  · rw [if_pos h]
theorem decR_long {l : List Int} (h : 16 < l.length) : decR l = (zeroEv, 6) := by
  unfold decR
  split
  · simp at h
  · rw [if_neg (by omega)]
theorem len16 {l : List Int} (h : l.length = 16) : ∃ x0 x1 x2 x3 x4 x5 x6 x7 x8 x9 x10 x11 x12 x13 x14 x15, l = [x0, x1, x2, x3, x4, x5, x6, x7, x8, x9, x10, x11, x12, x13, x14, x15] := by
  match l, h with
  | [x0, x1, x2, x3, x4, x5, x6, x7, x8, x9, x10, x11, x12, x13, x14, x15], _ => exact ⟨_, _, _, _, _, _, _, _, _, _, _, _, _, _, _, _, rfl⟩
theorem spot_of {w : World} {B n : Nat} {A : Option Addr} {xs : List Value} (h : Reads w B 1 A n xs) (hn : 0 < n) : ∃ g o, A = some ⟨g, o, none⟩ ∧ g < B ∧ ∀ j u, xs[j]? = some u → w.cell? ⟨g, o + j, none⟩ = some u := by
  have h1 := h.1
  obtain ⟨ad, rfl, hb, hc⟩ := h.2 hn
  obtain ⟨g, o, sp⟩ := ad
  obtain ⟨u, hu⟩ : ∃ u, xs[0]? = some u := ⟨xs[0]'(by omega), List.getElem?_eq_getElem _⟩
  have hs : sp = none := by simpa [Addr.add] using World.cell?_spot (hc 0 u hu)
  subst hs
  exact ⟨g, o, rfl, hb, fun j u hu => by have := hc j u hu; rwa [add_mk] at this⟩
theorem dec_any (w : World) (B : Nat) (A : Option Addr) (n c : Nat) (l : List Int) (hn : n ≤ c) (hr : Reads w B 1 A n (u8V l)) (hB : B ≤ w.heap.size) (hl : BytesL l) (Y : Ev) (f : Int) (h : decR l = (Y, f)) :
    Calls Tryd.prog 31 #[.slice A n c] w (DecPost w Y f) := by
  have hlen : l.length = n := by have := hr.1; simpa [u8V] using this
  rcases Nat.lt_trichotomy n 16 with h1 | h1 | h1
  · rw [decR_short (by omega)] at h
    injection h with ha hb
    subst ha hb
    exact dec_short w A n c h1
  · subst h1
    obtain ⟨x0, x1, x2, x3, x4, x5, x6, x7, x8, x9, x10, x11, x12, x13, x14, x15, rfl⟩ := len16 hlen
    obtain ⟨g, o, rfl, hg, hc⟩ := spot_of hr (by omega)
    have hc' : ∀ j u, (u8V [x0, x1, x2, x3, x4, x5, x6, x7, x8, x9, x10, x11, x12, x13, x14, x15])[j]? = some u → (w.alloc (.cells zc 26)).cell? ⟨g, o + j, none⟩ = some u := fun j u hu => by
      rw [World.cell?_alloc_lt w _ _ (by show g < _; omega)]; exact hc j u hu
    by_cases h2 : x2 = 2
    · subst h2
      by_cases h9 : x9 = 4
      · subst h9
        simp only [decR, and_self, if_true] at h
        exact dec_16 w g o c (by omega) hn x0 x1 x3 x4 x5 x6 x7 x8 x10 x11 x12 x13 x14 x15 hl hc _ rfl Y f h
      · simp only [decR, h9, and_false, if_false] at h
        injection h with ha hb
        subst ha hb
        exact dec_form9 w g o c x9 (hc' 2 _ rfl) (hc' 9 _ rfl) h9
    · simp only [decR, h2, false_and, if_false] at h
      injection h with ha hb
      subst ha hb
      exact dec_form2 w g o c x2 (hc' 2 _ rfl) h2
  · rw [decR_long (by omega)] at h
    injection h with ha hb
    subst ha hb
    exact dec_long w A n c h1
def encR (e : Ev) : List Int × Int := if validE e = true then (encL e, 0) else ([], 1)
/-- What an Encode leaves, of any event. -/
def EncAny (w : World) (l : List Int) (f : Int) (z : Ending) (w' : World) : Prop :=
  ∃ A n c, z = .returned (.tuple #[.slice A n c, .int .i64 f]) ∧ n ≤ c ∧ c ≤ maxLen ∧ Reads w' w'.heap.size 1 A n (u8V l) ∧ Below w.heap.size w w'
theorem enc_any (w : World) (e : Ev) (he : e.In) (l : List Int) (f : Int) (h : encR e = (l, f)) : Calls Tryd.prog 24 #[.agg e.c] w (EncAny w l f) := by
  unfold encR at h
  split at h
  · rename_i hv
    injection h with ha hb
    subst ha hb
    refine (enc_ok w e he hv).mono ?_
    rintro z w' ⟨g, rfl, hb, _, hbl⟩
    refine ⟨_, _, _, rfl, Nat.le_refl _, by unfold maxLen; omega, ?_, hbl⟩
    have := Reads.of_blk hb 0 16 (by simp [u8V, encL]) hb.lt
    simpa [u8V, encL] using this
  · rename_i hv
    injection h with ha hb
    subst ha hb
    refine (enc_bad w e (by simpa using hv)).mono ?_
    rintro z w' ⟨rfl, hbl⟩
    exact ⟨_, _, _, rfl, Nat.le_refl _, by unfold maxLen; omega, Reads.none_, hbl⟩
theorem encL_bytes {e : Ev} (he : e.In) (hv : validE e = true) : BytesL (encL e) := by
  have hty : e.ty ≤ 127 := by simp [validE] at hv; omega
  have h1 := he.id0
  have h2 := he.id1
  have h3 := he.tm0
  have h4 := he.tm1
  have h5 := he.gn0
  have h6 := he.gn1
  have h7 := he.ty0
  have h8 := he.st0
  have h9 := he.st1
  have h10 := he.sn0
  have h11 := he.sn1
  have h12 := he.d00
  have h13 := he.d01
  have h14 := he.d10
  have h15 := he.d11
  have h16 := he.d20
  have h17 := he.d21
  have hk : 0 ≤ kindE e ∧ kindE e < 256 := by unfold kindE; split <;> omega
  intro x hx
  simp only [encL, List.mem_cons, List.not_mem_nil, or_false] at hx
  rcases hx with rfl | rfl | rfl | rfl | rfl | rfl | rfl | rfl | rfl | rfl | rfl | rfl | rfl | rfl | rfl | rfl <;> omega
end Go.Proofs.YtklffnfaigmjfaaDoor
