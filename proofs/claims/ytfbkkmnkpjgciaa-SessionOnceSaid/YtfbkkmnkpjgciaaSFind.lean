/- session.Find, and slices.IndexFunc of sessions with the closures of Find and Expire (printed by wip/gen_sfind.py). -/
import Derived.Test.YtfbkkmnkpjgciaaSValid
namespace Go.Proofs.Ytfbkkmnkpjgciaa
open Go.RowKit
def findG (p : Sess → Bool) : List Sess → Nat → Int
  | [], _ => -1
  | x :: r, k => if p x = true then (k : Int) else findG p r (k + 1)
theorem findG_drop {p : Sess → Bool} {L : List Sess} {k : Nat} {x : Sess} (h : L[k]? = some x) : findG p (L.drop k) k = if p x = true then (k : Int) else findG p (L.drop (k + 1)) (k + 1) := by
  have hk := (List.getElem?_eq_some_iff.1 h).1
  have e := (List.getElem?_eq_some_iff.1 h).2
  rw [List.drop_eq_getElem_cons hk, e]
  rfl
def idP (id : Nat) (x : Sess) : Bool := x.id == id
/-- is a session too old? -/
def oldP (now : Int) (x : Sess) : Bool := if x.opn = true then decide (x.last ≤ now - 600) else decide (x.last ≤ now - 50)
set_option maxRecDepth 100000 in
theorem find1_sx (w : World) (x : Sess) (hx : x.Ok) (b id : Nat) (hb : b < w.heap.size) (hc : w.cell? ⟨b, 0, none⟩ = some (.int .u32 (id : Int))) :
    Calls Try.prog 50 #[.agg x.cs.toArray, .pointer (some ⟨b, 0, none⟩)] w fun e w' => e = .returned (.bool (idP id x)) ∧ Below w.heap.size w w' := by
  have hat := (Sess.blk hx (Blk.new w 84 x.cs.toArray))
  have c0 := hat.id
  have hc2 : (w.alloc (.cells x.cs.toArray 84)).cell? ⟨b, 0, none⟩ = some (.int .u32 (id : Int)) := by rw [World.cell?_alloc_lt _ _ _ hb]; exact hc
  have HB := hide ((Below.refl w.heap.size w).alloc (Nat.le_refl _) (.cells x.cs.toArray 84))
  have e : ((x.id : Int) == (id : Int)) = idP id x := by unfold idP; rw [Bool.eq_iff_iff]; simp; omega
  have HE := hide e
  clear hat hc e hb hx
  go_enter Try.func50, Try.ntmps50
  go_wp2_with fail
  go_ret
  exact ⟨by rw [← unhide HE]; first | rfl | (simp; done) | (congr 1; simp; done), unhide HB⟩
set_option maxRecDepth 100000 in
theorem expire1_sx (w : World) (x : Sess) (hx : x.Ok) (b : Nat) (now : Int) (hn0 : 0 ≤ now) (hn1 : now ≤ 17179869184) (hb : b < w.heap.size) (hc : w.cell? ⟨b, 0, none⟩ = some (.int .i64 now)) :
    Calls Try.prog 44 #[.agg x.cs.toArray, .pointer (some ⟨b, 0, none⟩)] w fun e w' => e = .returned (.bool (oldP now x)) ∧ Below w.heap.size w w' := by
  have hat := (Sess.blk hx (Blk.new w 84 x.cs.toArray))
  have c21 := hat.opn
  have c25 := hat.last
  have hc2 : (w.alloc (.cells x.cs.toArray 84)).cell? ⟨b, 0, none⟩ = some (.int .i64 now) := by rw [World.cell?_alloc_lt _ _ _ hb]; exact hc
  have HB := hide ((Below.refl w.heap.size w).alloc (Nat.le_refl _) (.cells x.cs.toArray 84))
  have w1 : IntKind.i64.wrap (now - 600) = now - 600 := IntWalk.i64_in _ (by omega)
  have w2 : IntKind.i64.wrap (now - 50) = now - 50 := IntWalk.i64_in _ (by omega)
  clear hat hc hb hx
  unfold oldP
  cases ho : x.opn with
  | true =>
    rw [ho] at c21
    clear ho
    go_enter Try.func44, Try.ntmps44
    go_wp2_with fail
    go_ret
    exact ⟨by first | rfl | (simp; done), unhide HB⟩
  | false =>
    rw [ho] at c21
    clear ho
    go_enter Try.func44, Try.ntmps44
    go_wp2_with fail
    go_ret
    exact ⟨by first | rfl | (simp; done), unhide HB⟩
set_option maxRecDepth 100000 in
set_option maxHeartbeats 4000000 in
theorem idxfind_sx (w : World) (A : Option Addr) (n c : Nat) (L : List Sess) (h : SessL w w.heap.size A n L) (hnm : n ≤ maxLen) (b : Nat) (id : Nat) (hb : b < w.heap.size) (hc : w.cell? ⟨b, 0, none⟩ = some (.int .u32 (id : Int))) :
    Calls Try.prog 49 #[.slice A n c, .func (.func 50) #[] #[.pointer (some ⟨b, 0, none⟩)]] w fun e w' => e = .returned (.int .i64 (findG (idP id) L 0)) ∧ Below w.heap.size w w' := by
  unfold maxLen at hnm
  have HS := hide h
  have HC := hide hc
  have HR : Hid (findG (idP id) (L.drop 0) 0 = findG (idP id) L 0) := hide rfl
  obtain ⟨r, hr⟩ : ∃ r, findG (idP id) L 0 = r := ⟨_, rfl⟩
  rw [hr] at HR ⊢
  clear h hc hr
  go_enter Try.func49, Try.ntmps49
  go_wp2_with fail
  go_loopw [8] (fun i wr => ∃ k : Nat, k ≤ n ∧ i = .int .i64 k ∧ Hid (findG (idP id) (L.drop k) k = r) ∧ Below w.heap.size w wr) (fun i _ => n - (intOf i).toNat)
  case atStart => exact ⟨0, by omega, rfl, HR, Below.refl _ _⟩
  case round =>
    obtain ⟨k, hk, rfl, hrk, hB⟩ := hrel
    have HB := hide hB
    clear hB
    by_cases hlt : k < n
    · obtain ⟨g, oo, x, rfl, hg, hx, hxo, hrg⟩ := ((unhide HS).below (unhide HB)).at_ hlt
      have hv := findG_drop (p := idP id) hx
      have HRK := hide (hv.symm.trans (unhide hrk))
      have HX := hide hxo
      have HRG := hide hrg
      have hlt2 : (k : Int) < (n : Int) := by omega
      have HCW := hide (((unhide HB).cell (p := ⟨b, 0, none⟩) hb).trans (unhide HC))
      have hbw : b < wr.heap.size := Nat.lt_of_lt_of_le hb (unhide HB).size
      have HRK0 : Hid (idP id x = true → r = (k : Int)) := hide (fun e => by have := unhide HRK; rw [if_pos e] at this; exact this.symm)
      have HRK1 : Hid (idP id x = false → findG (idP id) (L.drop (k + 1)) (k + 1) = r) := hide (fun e => by have := unhide HRK; rwa [if_neg (by rw [e]; simp)] at this)
      clear hrk hx hxo hrg hv HRK
      obtain ⟨t, ht⟩ : ∃ t, idP id x = t := ⟨_, rfl⟩
      go_wp2_with (first
        | (refine wpList_load_mid rfl 84 (.tmp 14) rfl g (oo + k * 26) rfl _ _ (unhide HRG) Try.underlying84 rfl (sess_infoL (unhide HX)) ?_)
        | fail)
      refine (find1_sx wr x (unhide HX) b id hbw (unhide HCW)).mono ?_
      rw [ht]
      rintro e w2 ⟨rfl, hb2⟩
      have B2 := hide ((unhide HB).trans (hb2.mono (unhide HB).size))
      clear hb2
      cases t with
      | true =>
        have hrr := unhide HRK0 ht
        clear ht
        go_wp2_with fail
        go_ret
        exact ⟨by rw [hrr]; rfl, unhide B2⟩
      | false =>
        have hrr := hide (unhide HRK1 ht)
        clear ht
        go_wp2_with fail
        go_roundw
        case rel => exact ⟨k + 1, by omega, by go_num, hrr, unhide B2⟩
        case measure => simp [intOf]; omega
    · obtain rfl : k = n := by omega
      have hdr : L.drop k = [] := List.drop_of_length_le (by have := (unhide HS).len; omega)
      have h0 := unhide hrk
      rw [hdr] at h0
      obtain rfl : (-1 : Int) = r := h0
      clear hrk hdr
      go_wp2_with fail
      go_ret
      exact ⟨rfl, unhide HB⟩
set_option maxRecDepth 100000 in
set_option maxHeartbeats 4000000 in
theorem idxold_sx (w : World) (A : Option Addr) (n c : Nat) (L : List Sess) (h : SessL w w.heap.size A n L) (hnm : n ≤ maxLen) (b : Nat) (now : Int) (hn0 : 0 ≤ now) (hn1 : now ≤ 17179869184) (hb : b < w.heap.size) (hc : w.cell? ⟨b, 0, none⟩ = some (.int .i64 now)) :
    Calls Try.prog 49 #[.slice A n c, .func (.func 44) #[] #[.pointer (some ⟨b, 0, none⟩)]] w fun e w' => e = .returned (.int .i64 (findG (oldP now) L 0)) ∧ Below w.heap.size w w' := by
  unfold maxLen at hnm
  have HS := hide h
  have HC := hide hc
  have HR : Hid (findG (oldP now) (L.drop 0) 0 = findG (oldP now) L 0) := hide rfl
  obtain ⟨r, hr⟩ : ∃ r, findG (oldP now) L 0 = r := ⟨_, rfl⟩
  rw [hr] at HR ⊢
  clear h hc hr
  go_enter Try.func49, Try.ntmps49
  go_wp2_with fail
  go_loopw [8] (fun i wr => ∃ k : Nat, k ≤ n ∧ i = .int .i64 k ∧ Hid (findG (oldP now) (L.drop k) k = r) ∧ Below w.heap.size w wr) (fun i _ => n - (intOf i).toNat)
  case atStart => exact ⟨0, by omega, rfl, HR, Below.refl _ _⟩
  case round =>
    obtain ⟨k, hk, rfl, hrk, hB⟩ := hrel
    have HB := hide hB
    clear hB
    by_cases hlt : k < n
    · obtain ⟨g, oo, x, rfl, hg, hx, hxo, hrg⟩ := ((unhide HS).below (unhide HB)).at_ hlt
      have hv := findG_drop (p := oldP now) hx
      have HRK := hide (hv.symm.trans (unhide hrk))
      have HX := hide hxo
      have HRG := hide hrg
      have hlt2 : (k : Int) < (n : Int) := by omega
      have HCW := hide (((unhide HB).cell (p := ⟨b, 0, none⟩) hb).trans (unhide HC))
      have hbw : b < wr.heap.size := Nat.lt_of_lt_of_le hb (unhide HB).size
      have HRK0 : Hid (oldP now x = true → r = (k : Int)) := hide (fun e => by have := unhide HRK; rw [if_pos e] at this; exact this.symm)
      have HRK1 : Hid (oldP now x = false → findG (oldP now) (L.drop (k + 1)) (k + 1) = r) := hide (fun e => by have := unhide HRK; rwa [if_neg (by rw [e]; simp)] at this)
      clear hrk hx hxo hrg hv HRK
      obtain ⟨t, ht⟩ : ∃ t, oldP now x = t := ⟨_, rfl⟩
      go_wp2_with (first
        | (refine wpList_load_mid rfl 84 (.tmp 14) rfl g (oo + k * 26) rfl _ _ (unhide HRG) Try.underlying84 rfl (sess_infoL (unhide HX)) ?_)
        | fail)
      refine (expire1_sx wr x (unhide HX) b now hn0 hn1 hbw (unhide HCW)).mono ?_
      rw [ht]
      rintro e w2 ⟨rfl, hb2⟩
      have B2 := hide ((unhide HB).trans (hb2.mono (unhide HB).size))
      clear hb2
      cases t with
      | true =>
        have hrr := unhide HRK0 ht
        clear ht
        go_wp2_with fail
        go_ret
        exact ⟨by rw [hrr]; rfl, unhide B2⟩
      | false =>
        have hrr := hide (unhide HRK1 ht)
        clear ht
        go_wp2_with fail
        go_roundw
        case rel => exact ⟨k + 1, by omega, by go_num, hrr, unhide B2⟩
        case measure => simp [intOf]; omega
    · obtain rfl : k = n := by omega
      have hdr : L.drop k = [] := List.drop_of_length_le (by have := (unhide HS).len; omega)
      have h0 := unhide hrk
      rw [hdr] at h0
      obtain rfl : (-1 : Int) = r := h0
      clear hrk hdr
      go_wp2_with fail
      go_ret
      exact ⟨rfl, unhide HB⟩
set_option maxRecDepth 100000 in
theorem find_sx (w : World) (A : Option Addr) (n c : Nat) (L : List Sess) (nx : Int) (h : SessL w w.heap.size A n L) (hnm : n ≤ maxLen) (id : Nat) :
    Calls Try.prog 32 #[.agg #[.slice A n c, .int .u32 nx], .int .u32 (id : Int)] w fun e w' => e = .returned (.int .i64 (findG (idP id) L 0)) ∧ Below w.heap.size w w' := by
  have HB := hide (below2 w (.cells #[.slice A n c, .int .u32 nx] 53) (.cells #[.int .u32 (id : Int)] 22))
  have HS := hide ((h.below (unhide HB)).more (unhide HB).size)
  have hcw : ((w.alloc (.cells #[.slice A n c, .int .u32 nx] 53)).alloc (.cells #[.int .u32 (id : Int)] 22)).cell? ⟨w.heap.size + 1, 0, none⟩ = some (.int .u32 (id : Int)) := (Blk.new' (g := w.heap.size + 1) (by simp)).cell 0
  have HC := hide hcw
  clear h hcw
  go_enter Try.func32, Try.ntmps32
  go_wp2_with fail
  refine (idxfind_sx _ A n c L (unhide HS) hnm (w.heap.size + 1) id (by simp) (unhide HC)).mono ?_
  rintro e w2 ⟨rfl, hb2⟩
  have B2 := hide ((unhide HB).trans (hb2.mono (unhide HB).size))
  clear hb2
  go_wp2_with fail
  go_ret
  exact ⟨rfl, unhide B2⟩
end Go.Proofs.Ytfbkkmnkpjgciaa
