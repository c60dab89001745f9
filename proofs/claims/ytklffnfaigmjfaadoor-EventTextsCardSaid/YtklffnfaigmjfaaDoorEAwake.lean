/- The law's awake: true. No condition but the two tables. -/
import Derived.Test.YtklffnfaigmjfaaDoorEFormat
import Derived.Test.YtklffnfaigmjfaaDoorEIndex
namespace Go.Proofs.YtklffnfaigmjfaaDoor
open Go.RowKit
def Pow10At (w : World) : Prop := Lib.TabIs Tryd.prog w "internal/strconv.uint64pow10" .u64 Lib.pow10Tab
theorem Pow10At.below {w w' : World} (h : Pow10At w) (hb : Below w.heap.size w w') : Pow10At w' := Go.Joins.tab_stays gPow h hb (Nat.le_refl _)
def evA : Ev := ⟨0, 0, 32, 1, 5, 1, false, 89, 87, 80⟩
theorem evA_in : evA.In := by constructor <;> decide
def txtA : List UInt8 := [48, 32, 48, 32, 51, 50, 32, 49, 32, 53, 32, 49, 32, 43, 32, 53, 57, 53, 55, 53, 48, 32, 116, 104, 114, 101, 115, 104, 111, 108, 100]
theorem fmt_evA : fmtE evA = txtA := by
  simp [fmtE, partsE, evA, Lib.join, List.intercalate, Lib.decDigits, signL, dataL, wordL, hexB, hexD]
  decide
theorem thr_A (w : World) (hO : OffAt w) : Calls Tryd.prog 11 #[.int .u8 1, .int .u8 5, .int .i64 4, .bool true, .int .u8 87, .int .u8 80] w fun e w' => e = .returned (.tuple #[.agg #[.int .u16 0, .int .u32 0, .int .u16 32, .int .u8 1, .int .u8 5, .int .u8 1, .bool false, .int .u8 89, .int .u8 87, .int .u8 80], .int .i64 0]) ∧ Below w.heap.size w w' :=
  thr_in w hO 1 5 4 true 87 80 (by omega) 9 rfl (by omega) (by omega)
theorem fmt_A (w : World) (hP : Pow10At w) : Calls Tryd.prog 25 #[.agg #[.int .u16 0, .int .u32 0, .int .u16 32, .int .u8 1, .int .u8 5, .int .u8 1, .bool false, .int .u8 89, .int .u8 87, .int .u8 80]] w fun e w' => e = .returned (.tuple #[.string ⟨#[48, 32, 48, 32, 51, 50, 32, 49, 32, 53, 32, 49, 32, 43, 32, 53, 57, 53, 55, 53, 48, 32, 116, 104, 114, 101, 115, 104, 111, 108, 100]⟩, .int .i64 0]) ∧ Below w.heap.size w w' :=
  format_ok w hP evA evA_in rfl txtA fmt_evA
theorem sev_A (w : World) (hO : OffAt w) : Calls Tryd.prog 17 #[.agg #[.int .u16 0, .int .u32 0, .int .u16 32, .int .u8 1, .int .u8 5, .int .u8 1, .bool false, .int .u8 89, .int .u8 87, .int .u8 80]] w fun e w' => e = .returned (.int .i64 2) ∧ Below w.heap.size w w' :=
  sev_any w hO evA evA_in 2 rfl
set_option maxHeartbeats 1000000 in
theorem awake_any (w : World) (hO : OffAt w) (hP : Pow10At w) :
    Calls Tryd.prog 19 #[] w fun e w' => e = .returned (.bool true) ∧ Below w.heap.size w w' := by
  have HO := hide hO
  have HP := hide hP
  clear hO hP
  go_enter Tryd.func19, Tryd.ntmps19
  go_wp2_with fail
  refine (thr_A _ (unhide HO)).mono ?_
  rintro e w1 ⟨rfl, hb1⟩
  have B1 := hide (hb1.alloc hb1.size (.cells #[.int .u16 0, .int .u32 0, .int .u16 32, .int .u8 1, .int .u8 5, .int .u8 1, .bool false, .int .u8 89, .int .u8 87, .int .u8 80] 26))
  have K1 : Hid (Blk (w1.alloc (.cells #[.int .u16 0, .int .u32 0, .int .u16 32, .int .u8 1, .int .u8 5, .int .u8 1, .bool false, .int .u8 89, .int .u8 87, .int .u8 80] 26)) w1.heap.size 26 #[.int .u16 0, .int .u32 0, .int .u16 32, .int .u8 1, .int .u8 5, .int .u8 1, .bool false, .int .u8 89, .int .u8 87, .int .u8 80]) := hide (Blk.new w1 _ _)
  clear hb1
  go_wp2_with fail
  refine (fmt_A _ ((unhide HP).below (unhide B1))).mono ?_
  rintro e w2 ⟨rfl, hb2⟩
  have B2 := hide ((unhide B1).trans (hb2.mono (unhide B1).size))
  have K2 := hide ((unhide K1).below hb2 (unhide K1).lt)
  clear hb2
  obtain ⟨c0, c1, c2, c3, c4, c5, c6, c7, c8, c9, hlt2⟩ := blk10 (unhide K2)
  go_wp2_with (first
    | (go_at_call 17; refine (sev_A _ ((unhide HO).below (unhide B2))).mono ?_
       rintro e w3 ⟨rfl, hb3⟩
       have B3 := hide ((unhide B2).trans (hb3.mono (unhide B2).size))
       clear hb3))
  go_ret
  exact ⟨rfl, unhide B3⟩
end Go.Proofs.YtklffnfaigmjfaaDoor
