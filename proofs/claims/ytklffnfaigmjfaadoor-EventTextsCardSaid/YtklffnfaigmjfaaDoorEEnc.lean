/- event.Encode returns encL. No condition. -/
import Derived.Test.YtklffnfaigmjfaaDoorEValid
namespace Go.Proofs.YtklffnfaigmjfaaDoor
open Go.RowKit
def u8V (l : List Int) : List Value := l.map (Value.int .u8)
def kindE (e : Ev) : Int := if e.ds then e.ty + 128 else e.ty
def encL (e : Ev) : List Int := [e.id % 256, e.id / 256, 2, e.tm % 256, e.tm / 256 % 256, e.tm / 65536 % 256, e.tm / 16777216, e.gn % 256, e.gn / 256, 4, e.st, e.sn, kindE e, e.d0, e.d1, e.d2]
theorem or128 (x : Nat) (hx : x < 128) : bits .or .u8 (x : Int) 128 = (x : Int) + 128 := by
  have h : (List.range 128).all (fun x => bits .or .u8 (x : Int) 128 == (x : Int) + 128) = true := by decide +kernel
  have := List.all_eq_true.1 h x (List.mem_range.2 hx)
  simpa using this
/-- What Encode leaves. -/
def EncPost (w : World) (e : Ev) (z : Ending) (w' : World) : Prop :=
  ∃ g, z = .returned (.tuple #[.slice (some ⟨g, 0, none⟩) 16 16, .int .i64 0]) ∧ Blk w' g 5 (u8V (encL e)).toArray ∧ w.heap.size ≤ g ∧ Below w.heap.size w w'
set_option maxRecDepth 100000 in
set_option maxHeartbeats 2000000 in
theorem enc_ok (w : World) (e : Ev) (he : e.In) (hv : validE e = true) : Calls Tryd.prog 24 #[.agg e.c] w (EncPost w e) := by
  have HVA := hide fun W => valid_any W e true hv
  have hty : e.ty ≤ 127 := by simp [validE] at hv; omega
  have h1 := he.id0
  have h2 := he.id1
  have h3 := he.tm0
  have h4 := he.tm1
  have h5 := he.gn0
  have h6 := he.gn1
  have h7 := he.ty0
  obtain ⟨id, tm, gn, st, sn, ty, ds, d0, d1, d2⟩ := e
  dsimp only at h1 h2 h3 h4 h5 h6 h7 hty
  obtain ⟨ty, rfl⟩ := Int.eq_ofNat_of_zero_le h7
  have hor := or128 ty (by omega)
  have w1 : IntKind.u8.wrap id = id % 256 := by rw [IntKind.wrap_u8]
  have w2 : IntKind.u8.wrap (id / 256) = id / 256 := IntWalk.u8_in _ (by omega)
  have w3 : IntKind.u8.wrap tm = tm % 256 := by rw [IntKind.wrap_u8]
  have w4 : IntKind.u8.wrap (tm / 256) = tm / 256 % 256 := by rw [IntKind.wrap_u8]
  have w5 : IntKind.u8.wrap (tm / 65536) = tm / 65536 % 256 := by rw [IntKind.wrap_u8]
  have w6 : IntKind.u8.wrap (tm / 16777216) = tm / 16777216 := IntWalk.u8_in _ (by omega)
  have w7 : IntKind.u8.wrap gn = gn % 256 := by rw [IntKind.wrap_u8]
  have w8 : IntKind.u8.wrap (gn / 256) = gn / 256 := IntWalk.u8_in _ (by omega)
  clear he hv
  show Calls Tryd.prog 24 #[.agg #[.int .u16 id, .int .u32 tm, .int .u16 gn, .int .u8 st, .int .u8 sn, .int .u8 (ty : Int), .bool ds, .int .u8 d0, .int .u8 d1, .int .u8 d2]] w _
  cases ds
  all_goals
    go_enter Tryd.func24, Tryd.ntmps24
    go_wp2_with fail
    refine (unhide HVA _).mono ?_
    rintro e w1 ⟨rfl, rfl⟩
    simp only [Ev.c]
    go_wp2_with fail
    go_ret2
    exact ⟨_, rfl, by exact Blk.new' (by simp only [size_alloc]), by omega, (below2 _ _ _).alloc (by simp only [size_alloc]; omega) _⟩
theorem enc_bad (w : World) (e : Ev) (hv : validE e = false) : Calls Tryd.prog 24 #[.agg e.c] w fun z w' => z = .returned (.tuple #[.slice none 0 0, .int .i64 1]) ∧ Below w.heap.size w w' := by
  have HVA := hide fun W => valid_any W e false hv
  clear hv
  obtain ⟨id, tm, gn, st, sn, ty, ds, d0, d1, d2⟩ := e
  show Calls Tryd.prog 24 #[.agg #[.int .u16 id, .int .u32 tm, .int .u16 gn, .int .u8 st, .int .u8 sn, .int .u8 ty, .bool ds, .int .u8 d0, .int .u8 d1, .int .u8 d2]] w _
  go_enter Tryd.func24, Tryd.ntmps24
  go_wp2_with fail
  refine (unhide HVA _).mono ?_
  rintro e w1 ⟨rfl, rfl⟩
  simp only [Ev.c]
  go_wp2_with fail
  go_ret2
  exact ⟨rfl, below2 _ _ _⟩
end Go.Proofs.YtklffnfaigmjfaaDoor
