/- A client and a session as lists of cells; session.client. -/
import Derived.Test.YtfbkkmnkpjgciaaSLeaf
import Derived.Test.YtfbkkmnkpjgciaaSName
import Derived.Test.YtfbkkmnkpjgciaaSDerive
import Derived.Deep.MidRow
namespace Go.Proofs.Ytfbkkmnkpjgciaa
open Go.RowKit
theorem list16 {α : Type} (l : List α) (h : l.length = 16) : ∃ a0 a1 a2 a3 a4 a5 a6 a7 a8 a9 a10 a11 a12 a13 a14 a15, l = [a0, a1, a2, a3, a4, a5, a6, a7, a8, a9, a10, a11, a12, a13, a14, a15] := by
  match l, h with
  | [a0, a1, a2, a3, a4, a5, a6, a7, a8, a9, a10, a11, a12, a13, a14, a15], _ => exact ⟨_, _, _, _, _, _, _, _, _, _, _, _, _, _, _, _, rfl⟩
structure Cli where
  user : List UInt8
  key : List UInt8
  level : Int
  nonce : Nat
  server : Nat
  id : Nat
  sess : List UInt8
  opn : Bool
  hi : Nat
  se : Nat
  out : Nat
def Cli.cs (c : Cli) : List Value :=
  .string ⟨c.user.toArray⟩ :: (bsV c.key ++ (.int .i64 c.level :: .int .u64 (c.nonce : Int) :: .int .u64 (c.server : Int) :: .int .u32 (c.id : Int) ::
    (bsV c.sess ++ [.bool c.opn, .int .u32 (c.hi : Int), .int .u32 (c.se : Int), .int .u32 (c.out : Int)])))
structure Cli.Ok (c : Cli) : Prop where
  user : c.user.length ≤ maxLen
  key : c.key.length = 16
  sess : c.sess.length = 16
  nonce : c.nonce < 18446744073709551616
  server : c.server < 18446744073709551616
  id : c.id < 4294967296
  hi : c.hi < 4294967296
  se : c.se < 4294967296
  out : c.out < 4294967296
theorem Cli.open_ {c : Cli} (h : c.Ok) : ∃ (a0 a1 a2 a3 a4 a5 a6 a7 a8 a9 a10 a11 a12 a13 a14 a15 b0 b1 b2 b3 b4 b5 b6 b7 b8 b9 b10 b11 b12 b13 b14 b15 : UInt8),
    c.key = [a0, a1, a2, a3, a4, a5, a6, a7, a8, a9, a10, a11, a12, a13, a14, a15] ∧ c.sess = [b0, b1, b2, b3, b4, b5, b6, b7, b8, b9, b10, b11, b12, b13, b14, b15] := by
  obtain ⟨a0, a1, a2, a3, a4, a5, a6, a7, a8, a9, a10, a11, a12, a13, a14, a15, e1⟩ := list16 c.key h.key
  obtain ⟨b0, b1, b2, b3, b4, b5, b6, b7, b8, b9, b10, b11, b12, b13, b14, b15, e2⟩ := list16 c.sess h.sess
  exact ⟨_, _, _, _, _, _, _, _, _, _, _, _, _, _, _, _, _, _, _, _, _, _, _, _, _, _, _, _, _, _, _, _, e1, e2⟩
theorem Cli.len {c : Cli} (h : c.Ok) : c.cs.length = 41 := by simp [Cli.cs, h.key, h.sess]
theorem Cli.size {c : Cli} (h : c.Ok) : c.cs.toArray.size = 41 := by rw [List.size_toArray, c.len h]
theorem Cli.one {c : Cli} : ∀ v ∈ c.cs, v.oneCell' = true := by
  intro v hv
  simp only [Cli.cs, List.mem_cons, List.mem_append, List.not_mem_nil, or_false] at hv
  rcases hv with rfl | h | rfl | rfl | rfl | rfl | h | rfl | rfl | rfl | rfl
  · rfl
  · exact bsV_one _ v h
  · rfl
  · rfl
  · rfl
  · rfl
  · exact bsV_one _ v h
  · rfl
  · rfl
  · rfl
  · rfl
/-- the cells of a client, each at its place -/
structure Cli.At (c : Cli) (f : Nat → Option Value) : Prop where
  user : f 0 = some (.string ⟨c.user.toArray⟩)
  level : f 17 = some (.int .i64 c.level)
  nonce : f 18 = some (.int .u64 (c.nonce : Int))
  server : f 19 = some (.int .u64 (c.server : Int))
  id : f 20 = some (.int .u32 (c.id : Int))
  opn : f 37 = some (.bool c.opn)
  hi : f 38 = some (.int .u32 (c.hi : Int))
  se : f 39 = some (.int .u32 (c.se : Int))
  out : f 40 = some (.int .u32 (c.out : Int))
  key : ∀ j v, (bsV c.key)[j]? = some v → f (1 + j) = some v
  sess : ∀ j v, (bsV c.sess)[j]? = some v → f (21 + j) = some v
theorem Cli.at_ {c : Cli} (h : c.Ok) : c.At (fun j => c.cs.toArray[j]?) := by
  obtain ⟨a0, a1, a2, a3, a4, a5, a6, a7, a8, a9, a10, a11, a12, a13, a14, a15, b0, b1, b2, b3, b4, b5, b6, b7, b8, b9, b10, b11, b12, b13, b14, b15, e1, e2⟩ := c.open_ h
  obtain ⟨user, key, level, nonce, server, id, sess, opn, hi, se, out⟩ := c
  dsimp only at e1 e2
  subst e1 e2
  refine ⟨rfl, rfl, rfl, rfl, rfl, rfl, rfl, rfl, rfl, fun j v hv => ?_, fun j v hv => ?_⟩
  · have hj : j < 16 := by have := (List.getElem?_eq_some_iff.1 hv).1; simpa [bsV] using this
    have : j = 0 ∨ j = 1 ∨ j = 2 ∨ j = 3 ∨ j = 4 ∨ j = 5 ∨ j = 6 ∨ j = 7 ∨ j = 8 ∨ j = 9 ∨ j = 10 ∨ j = 11 ∨ j = 12 ∨ j = 13 ∨ j = 14 ∨ j = 15 := by omega
    rcases this with rfl | rfl | rfl | rfl | rfl | rfl | rfl | rfl | rfl | rfl | rfl | rfl | rfl | rfl | rfl | rfl <;> exact hv
  · have hj : j < 16 := by have := (List.getElem?_eq_some_iff.1 hv).1; simpa [bsV] using this
    have : j = 0 ∨ j = 1 ∨ j = 2 ∨ j = 3 ∨ j = 4 ∨ j = 5 ∨ j = 6 ∨ j = 7 ∨ j = 8 ∨ j = 9 ∨ j = 10 ∨ j = 11 ∨ j = 12 ∨ j = 13 ∨ j = 14 ∨ j = 15 := by omega
    rcases this with rfl | rfl | rfl | rfl | rfl | rfl | rfl | rfl | rfl | rfl | rfl | rfl | rfl | rfl | rfl | rfl <;> exact hv
theorem Cli.blk {c : Cli} (h : c.Ok) {w : World} {g : Nat} {t : TypeId} (hb : Blk w g t c.cs.toArray) : c.At (fun j => w.cell? ⟨g, j, none⟩) := by
  have h0 := c.at_ h
  exact ⟨(hb.cell _).trans h0.user, (hb.cell _).trans h0.level, (hb.cell _).trans h0.nonce, (hb.cell _).trans h0.server, (hb.cell _).trans h0.id, (hb.cell _).trans h0.opn, (hb.cell _).trans h0.hi, (hb.cell _).trans h0.se, (hb.cell _).trans h0.out,
    fun j v hv => (hb.cell _).trans (h0.key j v hv), fun j v hv => (hb.cell _).trans (h0.sess j v hv)⟩
def cliF (c : Cli) : Bool := nameF c.user && decide (1 ≤ c.level ∧ c.level ≤ 3)
set_option maxRecDepth 100000 in
theorem cli_info {c : Cli} (h : c.Ok) : (Try.prog.info? 48).map (·.size) = some c.cs.toArray.size := by
  rw [c.size h]
  exact (by kernel_rfl : (Try.prog.info? 48).map (·.size) = some 41)
set_option maxRecDepth 100000 in
theorem client_sx (w : World) (c : Cli) (h : c.Ok) (r : Bool) (hr : cliF c = r) : Calls Try.prog 20 #[.agg c.cs.toArray] w fun e w' => e = .returned (.bool r) ∧ Below w.heap.size w w' := by
  have hat := c.blk h (Blk.new w 48 c.cs.toArray)
  have h0 := hat.user
  have h17 := hat.level
  have HB := hide ((Below.refl w.heap.size w).alloc (Nat.le_refl _) (.cells c.cs.toArray 48))
  have HU := h.user
  clear hat
  unfold cliF at hr
  cases hn : nameF c.user with
  | false =>
    rw [hn] at hr
    obtain rfl : false = r := hr
    have HN := hide hn
    clear hn
    go_enter Try.func20, Try.ntmps20
    go_wp2_with (first | (go_at_call 19; refine (name_any _ c.user HU false (unhide HN)).mono ?_; rintro e w' ⟨rfl, rfl⟩) | fail)
    go_ret
    exact ⟨rfl, unhide HB⟩
  | true =>
    rw [hn, Bool.true_and] at hr
    have HN := hide hn
    have HR := hide hr
    clear hn hr
    go_enter Try.func20, Try.ntmps20
    go_wp2_with (first | (go_at_call 19; refine (name_any _ c.user HU true (unhide HN)).mono ?_; rintro e w' ⟨rfl, rfl⟩) | (go_at_call 25; refine (level_sx _ c.level r (unhide HR)).mono ?_; rintro e w' ⟨rfl, rfl⟩) | fail)
    go_ret
    exact ⟨rfl, unhide HB⟩
end Go.Proofs.Ytfbkkmnkpjgciaa
