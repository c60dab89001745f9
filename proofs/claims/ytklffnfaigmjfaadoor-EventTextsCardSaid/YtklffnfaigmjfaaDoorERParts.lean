/- The reference's parts of a text are its pieces at the spaces, in a row of its own. No condition. -/
import Derived.Test.YtklffnfaigmjfaaDoorERNum
import Derived.Test.YtklffnfaigmjfaaDoorOwn
import Derived.Test.YtklffnfaigmjfaaDoorMem
import Derived.Test.YtklffnfaigmjfaaDoorHEnd
import Derived.Test.YtklffnfaigmjfaaDoorEFormat
namespace Go.Proofs.YtklffnfaigmjfaaDoor
open Go.RowKit
theorem parts_of {P : Program} {t : TypeId} {z : Option Value} {s b : Nat} (h : (P.info? t).map (fun i => (i.zero, i.size, i.bytes)) = some (z, s, b)) : ∃ i, P.info? t = some i ∧ i.zero = z ∧ i.size = s ∧ i.bytes = b := by
  rcases hp : P.info? t with _ | i
  · rw [hp] at h; cases h
  · rw [hp] at h
    injection h with h
    injection h with h1 h
    injection h with h2 h3
    exact ⟨i, rfl, h1, h2, h3⟩
theorem ba_mid (l : List UInt8) (f i : Nat) : (⟨l.toArray⟩ : ByteArray).extract f i = ⟨(dOf l f i).toArray⟩ := by
  apply ByteArray.ext
  apply Array.ext'
  simp [dOf]
set_option maxRecDepth 100000 in
theorem sl_mid (wx : World) (l : List UInt8) (f i : Nat) (h1 : f ≤ i) (h2 : i ≤ l.length) : (Instr.slice 9 (.string ⟨l.toArray⟩) (some (.int .i64 (f : Int))) (some (.int .i64 (i : Int))) none).run Tryd.prog wx = .ok (.string ⟨(dOf l f i).toArray⟩) wx := by
  have := run_slice_string (P := Tryd.prog) wx 9 ⟨l.toArray⟩ .i64 .i64 (f : Int) (i : Int) Tryd.underlying9 (by omega) (by omega) (by simp [ByteArray.size]; omega)
  rw [this, Int.toNat_natCast, Int.toNat_natCast, ba_mid]
/-- Where the pass stands. -/
def PAt (l : List UInt8) (f i : Nat) (ps : List (List UInt8)) : Prop :=
  (f ≤ i ∧ i ≤ l.length ∧ (∀ x ∈ dOf l f i, x ≠ 32) ∧ ps ++ splitD 32 (l.drop f) = splitD 32 l) ∨ (i = l.length + 1 ∧ ps = splitD 32 l)
def PartsPost (w : World) (l : List UInt8) (e : Ending) (w' : World) : Prop :=
  ∃ v, e = .returned v ∧ w'.ownsRow w.heap.size 9 1 v (splitD 32 l).length ((splitD 32 l).map strV) ∧ Below w.heap.size w w'
theorem splitD_count (c : UInt8) : ∀ l : List UInt8, (splitD c l).length ≤ l.length + 1
  | [] => by simp [splitD]
  | b :: l => by
    have ih := splitD_count c l
    unfold splitD
    split
    · simp; omega
    · split
      · simp
      · rename_i p ps h
        rw [h] at ih
        simp at ih ⊢
        omega
set_option maxRecDepth 100000 in
set_option maxHeartbeats 8000000 in
theorem parts_any (w : World) (l : List UInt8) (hl : l.length ≤ 1000) : Calls Tryd.prog 51 #[.string ⟨l.toArray⟩] w (PartsPost w l) := by
  obtain ⟨i0, hi, hz0, hz1, hz2⟩ := parts_of info_str
  have HI := hide hi
  have HI0 := hide hz0
  have HI1 := hide hz1
  have HI2 := hide hz2
  have hz := size_list l _ hl
  obtain ⟨B, hB⟩ : ∃ B, w.heap.size = B := ⟨_, rfl⟩
  have HB := hide hB
  have OW := hide (hB ▸ World.ownsRow_nil w w.heap.size 9 1 : w.ownsRow B 9 1 (.slice none 0 0) 0 [])
  have BW := hide (hB ▸ Below.refl w.heap.size w : Below B w w)
  have HS : Hid (PAt l 0 0 []) := hide (.inl ⟨Nat.le_refl _, Nat.zero_le _, by simp [dOf], by rw [List.drop_zero]; rfl⟩)
  clear hi hz0 hz1 hz2 hB
  go_enter Tryd.func51, Tryd.ntmps51
  go_wp2_with fail
  go_loopw [3, 4, 5] (fun v b i wr => ∃ (f I : Nat) (ps : List (List UInt8)), b = .int .i64 f ∧ i = .int .i64 I ∧ I ≤ l.length + 1 ∧ PAt l f I ps ∧ wr.ownsRow B 9 1 v ps.length (ps.map strV) ∧ Below B w wr) (fun _ _ i _ => l.length + 1 - (intOf i).toNat)
  case atStart => exact ⟨0, 0, [], rfl, rfl, by omega, unhide HS, unhide OW, unhide BW⟩
  case round =>
    obtain ⟨f, I, ps, rfl, rfl, hIl, hat, hown, hBB⟩ := hrel
    have OWN := hide hown
    have BB := hide hBB
    clear hown hBB
    rcases hat with ⟨hfI, hIl2, hns, hps⟩ | ⟨rfl, rfl⟩
    rotate_left
    · have hle : (((l.length + 1 : Nat) : Int) ≤ (l.length : Int)) = False := by simp; omega
      clear hIl
      go_wp2_with fail
      go_ret
      exact ⟨u3, rfl, by rw [unhide HB]; exact unhide OWN, by rw [unhide HB]; exact unhide BB⟩
    have hle : ((I : Int) ≤ (l.length : Int)) = True := by simp; omega
    have HPS := hide hps
    have HNS := hide hns
    have hcnt : ps.length ≤ 1001 := by
      have h1 := congrArg List.length hps
      rw [List.length_append] at h1
      have := splitD_count 32 l
      omega
    have hBs : B ≤ wr.heap.size := by rw [← unhide HB]; exact (unhide BB).size
    clear hps hns
    obtain ⟨D, hD⟩ : ∃ D, dOf l f I = D := ⟨_, rfl⟩
    have HD := hide hD
    have hext : (⟨l.toArray⟩ : ByteArray).extract f I = ⟨D.toArray⟩ := by rw [← hD, ba_mid]
    have OWN2 := hide ((unhide OWN).alloc (.cells #[.string ⟨D.toArray⟩] 9))
    have RD : Hid (Reads (wr.alloc (.cells #[.string ⟨D.toArray⟩] 9)) (wr.heap.size + 1) 1 (some ⟨wr.heap.size, 0, none⟩) 1 [.string ⟨D.toArray⟩]) := hide ⟨rfl, fun _ => ⟨_, rfl, Nat.lt_succ_self _, fun j u hu => by
      rw [add_mk, Nat.zero_add]
      have := (Blk.new wr 9 #[.string ⟨D.toArray⟩]).cell j
      rw [this]
      simpa using hu⟩⟩
    clear hD
    have step : ∀ (v6 : Value) (w6 : World), w6.ownsRow B 9 1 v6 (ps.length + 1) (ps.map strV ++ [.string ⟨D.toArray⟩]) → (wr.alloc (.cells #[.string ⟨D.toArray⟩] 9)).grownBy w6 (Value.ownBlock u3) → (w6.ownsRow B 9 1 v6 (ps ++ [D]).length ((ps ++ [D]).map strV) ∧ Below B w w6) := fun v6 w6 ho hg => by
      refine ⟨by rw [List.length_append, List.map_append]; exact ho, ?_⟩
      have h1 := (unhide BB).alloc hBs (.cells #[.string ⟨D.toArray⟩] 9)
      refine h1.grown hg (by rw [size_alloc]; omega) (fun j e => own_ge (unhide OWN) j e)
    have STEP := hide step
    clear step
    by_cases hlt : I < l.length
    · have hltn : ((I : Int) == (l.length : Int)) = false := beq_eq_false_iff_ne.2 (by omega)
      have hnI : ((⟨l.toArray⟩ : ByteArray)[I]'(by simpa [ByteArray.size] using hlt)).toNat = (l[I]'hlt).toNat := rfl
      by_cases hc : (l[I]'hlt) = 32
      · have hpn : (ps ++ [D]) ++ splitD 32 (l.drop (I + 1)) = splitD 32 l := by rw [← unhide HPS, split_sep 32 l f I hfI hlt (unhide HNS) hc, unhide HD, List.append_assoc]; rfl
        have F1 := hide (show PAt l (I + 1) (I + 1) (ps ++ [D]) from .inl ⟨Nat.le_refl _, by omega, by rw [dOf_nil]; simp, hpn⟩)
        have hcn : (l[I]'hlt).toNat = 32 := by rw [hc]; rfl
        rw [hcn] at hnI
        clear hpn hcn hc
        go_wp2_with (first
          | (at_builtin; refine wpList_append_any (wr.alloc (.cells #[.string ⟨D.toArray⟩] 9)) rfl (.tmp 22) (.tmp 27) 59 rfl B 9 i0 (.string ⟨#[]⟩) 1 16 Tryd.underlying59 (unhide HI) (unhide HI0) (unhide HI1) (unhide HI2) rfl (by decide) u3 ps.length _ rfl (unhide OWN2) (wr.heap.size + 1) (some ⟨wr.heap.size, 0, none⟩) 1 1 [.string ⟨D.toArray⟩] rfl (unhide RD) (by intro u hu; simp at hu; subst hu; rfl) (by unfold maxLen; omega) (by omega) (by rw [size_alloc]; omega) ?_
             intro v6 w6 hown6 hgr6 _
             have R6 := hide (unhide STEP v6 w6 hown6 hgr6)
             clear hown6 hgr6)
          | fail)
        go_roundw
        case rel => exact ⟨I + 1, I + 1, ps ++ [D], by go_num, by go_num, by omega, unhide F1, (unhide R6).1, (unhide R6).2⟩
        case measure => simp [intOf]; omega
      · have hcn : (((l[I]'hlt).toNat : Int) == 32) = false := beq_eq_false_iff_ne.2 (fun e => hc (UInt8.toNat_inj.1 (by simpa using (by omega : (l[I]'hlt).toNat = 32))))
        have hnew : ∀ x ∈ dOf l f (I + 1), x ≠ 32 := by
          intro x hx
          rw [dOf_step l f I hfI hlt] at hx
          rcases List.mem_append.1 hx with h | h
          · exact unhide HNS x h
          · rw [List.mem_singleton.1 h]; exact hc
        have F1 := hide (show PAt l f (I + 1) ps from .inl ⟨by omega, by omega, hnew, unhide HPS⟩)
        clear hnew hc
        generalize (l[I]'hlt).toNat = c at hnI hcn
        go_wp2_with fail
        go_roundw
        case rel => exact ⟨f, I + 1, ps, rfl, by go_num, by omega, unhide F1, unhide OWN, unhide BB⟩
        case measure => simp [intOf]; omega
    · obtain ⟨hIe⟩ : PLift (I = l.length) := ⟨by omega⟩
      subst hIe
      have hpn : ps ++ [D] = splitD 32 l := by rw [← unhide HPS, split_end 32 l f hfI (unhide HNS), unhide HD]
      have F1 := hide (show PAt l (l.length + 1) (l.length + 1) (ps ++ [D]) from .inr ⟨rfl, hpn⟩)
      clear hpn hlt
      go_wp2_with (first
        | (at_builtin; refine wpList_append_any (wr.alloc (.cells #[.string ⟨D.toArray⟩] 9)) rfl (.tmp 22) (.tmp 27) 59 rfl B 9 i0 (.string ⟨#[]⟩) 1 16 Tryd.underlying59 (unhide HI) (unhide HI0) (unhide HI1) (unhide HI2) rfl (by decide) u3 ps.length _ rfl (unhide OWN2) (wr.heap.size + 1) (some ⟨wr.heap.size, 0, none⟩) 1 1 [.string ⟨D.toArray⟩] rfl (unhide RD) (by intro u hu; simp at hu; subst hu; rfl) (by unfold maxLen; omega) (by omega) (by rw [size_alloc]; omega) ?_
           intro v6 w6 hown6 hgr6 _
           have R6 := hide (unhide STEP v6 w6 hown6 hgr6)
           clear hown6 hgr6)
        | fail)
      go_roundw
      case rel => exact ⟨l.length + 1, l.length + 1, ps ++ [D], by go_num, by go_num, by omega, unhide F1, (unhide R6).1, (unhide R6).2⟩
      case measure => first | (simp [intOf]; done) | (simp [intOf]; omega)
end Go.Proofs.YtklffnfaigmjfaaDoor
