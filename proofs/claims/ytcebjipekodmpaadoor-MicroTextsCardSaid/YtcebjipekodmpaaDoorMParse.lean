/- micro.Parse returns what parseF says. -/
import Derived.Test.YtcebjipekodmpaaDoorMTextPlain
import Derived.Test.YtcebjipekodmpaaDoorShelfB
import Derived.Test.YtcebjipekodmpaaDoorMAwake
import Derived.Shelf.Strings.SlTrimAscii
namespace Go.Proofs.YtcebjipekodmpaaDoor
open Go.RowKit Go.Sort
def str (l : List UInt8) : Value := .string ⟨l.toArray⟩
/-- Digits alone, from one to most. -/
def numB (l : List UInt8) (most : Nat) : Bool := decide (1 ≤ l.length) && (decide (l.length ≤ most) && l.all isD)
theorem toList_mk (l : List UInt8) : (⟨l.toArray⟩ : ByteArray).data.toList = l := by simp
theorem size_mk (l : List UInt8) : (⟨l.toArray⟩ : ByteArray).size = l.length := by simp [ByteArray.size]
theorem trim_at (w : World) (l : List UInt8) (hl : l.length ≤ 1000) (r : List UInt8) (hr : Lib.trimS l digitSet = r) :
    Calls Tryd.prog 55 #[.string ⟨l.toArray⟩, .string ⟨#[48, 49, 50, 51, 52, 53, 54, 55, 56, 57]⟩] w fun e w' => e = .returned (.string ⟨r.toArray⟩) ∧ Below w.heap.size w w' := by
  subst hr
  have h := Any.strings_Trim_laid Tryd.lays160 (by kernel_rfl) ⟨l.toArray⟩ ⟨#[48, 49, 50, 51, 52, 53, 54, 55, 56, 57]⟩ w (by rw [size_mk]; omega) (by decide) (ascii_of_all (by decide))
  rw [toList_mk] at h
  exact h
theorem number_any (w : World) (l : List UInt8) (most : Nat) (hl : l.length ≤ 1000) (hm : most ≤ 100) (b : Bool) (hb : numB l most = b) :
    Calls Tryd.prog 45 #[.string ⟨l.toArray⟩, .int .i64 (most : Int)] w fun e w' => e = .returned (.bool b) ∧ Below w.heap.size w w' := by
  have hz : (⟨l.toArray⟩ : ByteArray).size = l.length := size_mk l
  by_cases h0 : l.length = 0
  · have hb0 : b = false := by rw [← hb]; simp [numB, h0]
    subst hb0
    obtain rfl : l = [] := List.length_eq_zero_iff.1 h0
    clear hz h0 hb
    go_enter Tryd.func45, Tryd.ntmps45
    go_wp2_with fail
    go_ret
    exact ⟨rfl, Below.refl _ _⟩
  · by_cases h1 : l.length ≤ most
    · obtain ⟨r, hr⟩ : ∃ r, Lib.trimS l digitSet = r := ⟨_, rfl⟩
      have hn := trim_digits l
      rw [hr] at hn
      have HR := Lib.hid hr
      clear hr
      have h2 : 1 ≤ l.length := by omega
      rcases r with _ | ⟨c, rt⟩
      · have hb0 : b = true := by rw [← hb]; simp [numB, h1, h2, hn.1 rfl]
        subst hb0
        clear hn hb hz
        go_enter Tryd.func45, Tryd.ntmps45
        go_wp2_with fail
        refine (trim_at w l hl [] HR.out).mono ?_
        rintro e w1 ⟨rfl, hb1⟩
        have HB1 := hide hb1
        clear hb1
        go_wp2_with fail
        go_ret
        exact ⟨rfl, unhide HB1⟩
      · have hna : l.all isD = false := by
          cases ha : l.all isD
          · rfl
          · exact absurd (hn.2 ha) (by simp)
        have hb0 : b = false := by rw [← hb]; simp only [numB, hna]; simp
        subst hb0
        clear hn hb hz hna
        go_enter Tryd.func45, Tryd.ntmps45
        go_wp2_with fail
        refine (trim_at w l hl (c :: rt) HR.out).mono ?_
        rintro e w1 ⟨rfl, hb1⟩
        have HB1 := hide hb1
        clear hb1
        go_wp2_with fail
        go_ret
        exact ⟨rfl, unhide HB1⟩
    · have hb0 : b = false := by rw [← hb]; simp [numB, h1]
      subst hb0
      clear hb
      go_enter Tryd.func45, Tryd.ntmps45
      go_wp2_with fail
      go_ret
      exact ⟨rfl, Below.refl _ _⟩
theorem cutprefix_at (w : World) (l t : List UInt8) (n : Bool) (ht : Lib.trimPrefix l [45] = t) (hn : Lib.hasPrefix l [45] = n) :
    Calls Tryd.prog 43 #[.string ⟨l.toArray⟩, .string ⟨#[45]⟩] w fun e w' => e = .returned (.tuple #[.string ⟨t.toArray⟩, .bool n]) ∧ w = w' := by
  subst ht
  subst hn
  have h := Tryd.strings_CutPrefix ⟨l.toArray⟩ ⟨#[45]⟩ w
  rw [toList_mk] at h
  exact h.mono fun _ _ h => ⟨h.1, h.2.symm⟩
theorem cut_at (w : World) (hsh : w.ShapedOpen Tryd.prog) (t wh pt : List UInt8) (po : Bool) (hl : t.length ≤ 1000) (hc : Lib.cut t [46] = (wh, pt, po)) :
    Calls Tryd.prog 44 #[.string ⟨t.toArray⟩, .string ⟨#[46]⟩] w fun e w' => e = .returned (.tuple #[.string ⟨wh.toArray⟩, .string ⟨pt.toArray⟩, .bool po]) ∧ ∃ n, w' = w.drewN n := by
  have h := Tryd.strings_Cut_shaped ⟨t.toArray⟩ ⟨#[46]⟩ w hsh (by rw [size_mk]; omega)
  rw [toList_mk] at h
  rw [show (⟨#[46]⟩ : ByteArray).data.toList = [46] from rfl, hc] at h
  exact h
def zerosL (n : Nat) : List UInt8 := List.replicate n 48
theorem repeat_zeros : ∀ n, Lib.repeatL [48] n = zerosL n
  | 0 => rfl
  | n + 1 => by rw [Lib.repeatL, repeat_zeros n]; rfl
theorem repeat_at (w : World) (c : Nat) (hc : c ≤ 100) :
    Calls Tryd.prog 47 #[.string ⟨#[48]⟩, .int .i64 c] w fun e w' => e = .returned (.string ⟨(zerosL c).toArray⟩) ∧ Below w.heap.size w w' := by
  have h := Tryd.strings_Repeat ⟨#[48]⟩ c w (by omega) (by simp [ByteArray.size]; omega)
  rw [show (⟨#[48]⟩ : ByteArray).data.toList = [48] from rfl, repeat_zeros] at h
  exact h
theorem parseint_at (w : World) (l : List UInt8) (v : Int) (hl : l.length ≤ 1000) (hv : Lib.parseIntB 64 l = .ok v) :
    Calls Tryd.prog 46 #[.string ⟨l.toArray⟩, .int .i64 10, .int .i64 64] w fun e w' => e = .returned (.tuple #[.int .i64 v, .nilIface]) ∧ Below w.heap.size w w' := by
  refine (Tryd.strconv_ParseInt_10_at64_ok ⟨l.toArray⟩ (by rw [size_mk]; omega) v (by rw [toList_mk]; exact hv) w).mono fun e w' h => ⟨h.1, ?_⟩
  rcases h.2 with rfl | ⟨t, rfl⟩
  · exact Below.refl _ _
  · exact Lib.bytesWorld_below _ _ _
/-- The text without its sign; the whole part; the part behind the point; is there a point. -/
def bodyL (l : List UInt8) : List UInt8 := Lib.trimPrefix l [45]
def negB (l : List UInt8) : Bool := Lib.hasPrefix l [45]
def okB (wh pt : List UInt8) (po : Bool) : Bool := numB wh 7 && (!(decide (1 < wh.length) && decide (wh.head? = some 48)) && (!po || numB pt 6))
def valF (wh pt : List UInt8) : Nat := decV 0 (wh ++ pt ++ zerosL (6 - pt.length))
def parseF (l : List UInt8) : Int × Int :=
  match Lib.cut (bodyL l) [46] with
  | (wh, pt, po) => if okB wh pt po = true then (if 1000000000000 < valF wh pt then (0, 2) else (if negB l = true then -(valF wh pt : Int) else valF wh pt, 0)) else (0, 6)
theorem cut_len (t wh pt : List UInt8) (po : Bool) (h : Lib.cut t [46] = (wh, pt, po)) : wh.length ≤ t.length ∧ pt.length ≤ t.length ∧ (po = false → pt = []) := by
  unfold Lib.cut at h
  split at h
  · injection h with h1 h2
    injection h2 with h2 h3
    subst h1
    subst h2
    subst h3
    refine ⟨by simp; omega, by simp, fun h => by cases h⟩
  · injection h with h1 h2
    injection h2 with h2 h3
    subst h1
    subst h2
    subst h3
    exact ⟨Nat.le_refl _, Nat.zero_le _, fun _ => rfl⟩
end Go.Proofs.YtcebjipekodmpaaDoor
