/- A parameter that is an event, opened. No condition. -/
import Derived.Test.YtklffnfaigmjfaaDoorEPlain
import Derived.Test.YtklffnfaigmjfaaDoorOpen
import Derived.Lib.SmallJoins
namespace Go.Proofs.YtklffnfaigmjfaaDoor
open Go.Joins Go.ChangeShapes Go.WideShapes Go.ChangeAt Go.RowKit Go.Deep
section
variable {H : Type} {enc : TypeId × Value → H} {W : World}
theorem bounds_u16' {n : Int} (h : (Lit.int .u16 n).wf = true) : 0 ≤ n ∧ n < 65536 := by
  simp [Lit.wf, IntKind.min, IntKind.max, IntKind.signed, IntKind.bits] at h
  omega
theorem bounds_u32' {n : Int} (h : (Lit.int .u32 n).wf = true) : 0 ≤ n ∧ n < 4294967296 := by
  simp [Lit.wf, IntKind.min, IntKind.max, IntKind.signed, IntKind.bits] at h
  omega
set_option maxRecDepth 100000 in
theorem open_event {r : Reach} {b0 : Nat} {v : Value} {d : DataW H} {p : List MemPlace}
    (hv : Value.okWide Tryd.prog W r b0 26 v) (h : DataW.Trod enc Tryd.prog W 0 (fun _ => true) true 26 v d p) : ∃ e : Ev, e.In ∧ v = .agg e.c := by
  obtain ⟨cs, rfl, hsz⟩ := okWide_struct Tryd.underlying26 hv
  have hC : Tryd.prog.cellsOf 26 = 10 := by kernel_rfl
  have k16 : Tryd.prog.cellsOf 22 = 1 := by kernel_rfl
  have k32 : Tryd.prog.cellsOf 23 = 1 := by kernel_rfl
  have k8 : Tryd.prog.cellsOf 5 = 1 := by kernel_rfl
  have kb : Tryd.prog.cellsOf 4 = 1 := by kernel_rfl
  have k3 : Tryd.prog.cellsOf 24 = 3 := by kernel_rfl
  obtain ⟨l⟩ := cs
  match l, hsz.trans hC with
  | [c0, c1, c2, c3, c4, c5, c6, c7, c8, c9], _ =>
    obtain ⟨fuel, hf⟩ := h
    obtain ⟨xs, n, _, hx, _, hlen, hg⟩ := DataW.trod_struct Tryd.underlying26 hf
    match xs, hlen with
    | [y0, y1, y2, y3, y4, y5, y6, y7], _ =>
      have g0 : DataW.trod enc Tryd.prog W 0 (fun _ => true) true n 22 [c0] = some y0 := by simpa [Value.cells, k16] using hg 0 _ rfl
      have g1 : DataW.trod enc Tryd.prog W 0 (fun _ => true) true n 23 [c1] = some y1 := by simpa [Value.cells, k32] using hg 1 _ rfl
      have g2 : DataW.trod enc Tryd.prog W 0 (fun _ => true) true n 22 [c2] = some y2 := by simpa [Value.cells, k16] using hg 2 _ rfl
      have g3 : DataW.trod enc Tryd.prog W 0 (fun _ => true) true n 5 [c3] = some y3 := by simpa [Value.cells, k8] using hg 3 _ rfl
      have g4 : DataW.trod enc Tryd.prog W 0 (fun _ => true) true n 5 [c4] = some y4 := by simpa [Value.cells, k8] using hg 4 _ rfl
      have g5 : DataW.trod enc Tryd.prog W 0 (fun _ => true) true n 5 [c5] = some y5 := by simpa [Value.cells, k8] using hg 5 _ rfl
      have g6 : DataW.trod enc Tryd.prog W 0 (fun _ => true) true n 4 [c6] = some y6 := by simpa [Value.cells, kb] using hg 6 _ rfl
      have g7 : DataW.trod enc Tryd.prog W 0 (fun _ => true) true n 24 [c7, c8, c9] = some y7 := by simpa [Value.cells, k3] using hg 7 _ rfl
      obtain ⟨z0, e0, _, w0⟩ := DataW.trod_int Tryd.underlying22 g0
      obtain ⟨z1, e1, _, w1⟩ := DataW.trod_int Tryd.underlying23 g1
      obtain ⟨z2, e2, _, w2⟩ := DataW.trod_int Tryd.underlying22 g2
      obtain ⟨z3, e3, _, w3⟩ := DataW.trod_int Tryd.underlying5 g3
      obtain ⟨z4, e4, _, w4⟩ := DataW.trod_int Tryd.underlying5 g4
      obtain ⟨z5, e5, _, w5⟩ := DataW.trod_int Tryd.underlying5 g5
      obtain ⟨z6, e6, _⟩ := DataW.trod_bool Tryd.underlying4 g6
      obtain ⟨ys, m, _, _, hl, hyl, hy⟩ := DataW.trod_array Tryd.underlying24 g7
      match ys, hyl with
      | [u0, u1, u2], _ =>
        have q0 : DataW.trod enc Tryd.prog W 0 (fun _ => true) true m 5 [c7] = some u0 := by simpa [k8] using hy 0 (by omega)
        have q1 : DataW.trod enc Tryd.prog W 0 (fun _ => true) true m 5 [c8] = some u1 := by simpa [k8] using hy 1 (by omega)
        have q2 : DataW.trod enc Tryd.prog W 0 (fun _ => true) true m 5 [c9] = some u2 := by simpa [k8] using hy 2 (by omega)
        obtain ⟨z7, e7, _, w7⟩ := DataW.trod_int Tryd.underlying5 q0
        obtain ⟨z8, e8, _, w8⟩ := DataW.trod_int Tryd.underlying5 q1
        obtain ⟨z9, e9, _, w9⟩ := DataW.trod_int Tryd.underlying5 q2
        simp at e0 e1 e2 e3 e4 e5 e6 e7 e8 e9
        subst e0 e1 e2 e3 e4 e5 e6 e7 e8 e9
        have b0 := bounds_u16' w0
        have b1 := bounds_u32' w1
        have b2 := bounds_u16' w2
        have b3 := bounds_u8 w3
        have b4 := bounds_u8 w4
        have b5 := bounds_u8 w5
        have b7 := bounds_u8 w7
        have b8 := bounds_u8 w8
        have b9 := bounds_u8 w9
        exact ⟨⟨z0, z1, z2, z3, z4, z5, z6, z7, z8, z9⟩, ⟨b0.1, b0.2, b1.1, b1.2, b2.1, b2.2, b3.1, by show z3 < 256; omega, b4.1, by show z4 < 256; omega, b5.1, by show z5 < 256; omega, b7.1, by show z7 < 256; omega, b8.1, by show z8 < 256; omega, b9.1, by show z9 < 256; omega⟩, rfl⟩
end
end Go.Proofs.YtklffnfaigmjfaaDoor
