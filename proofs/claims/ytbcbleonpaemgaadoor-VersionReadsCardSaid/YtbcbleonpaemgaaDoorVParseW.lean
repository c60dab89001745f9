/- version.Parse returns what parseV says (printed by wip/gen_vparse.py). No condition but the table of powers and the world's shape. -/
import Derived.Test.YtbcbleonpaemgaaDoorVNumW
import Derived.Test.YtbcbleonpaemgaaDoorVShelfS
import Derived.Test.YtbcbleonpaemgaaDoorHEnd
import Derived.Test.YtbcbleonpaemgaaDoorMShape
namespace Go.Proofs.YtbcbleonpaemgaaDoor
open Go.RowKit
def strV (l : List UInt8) : Value := .string ⟨l.toArray⟩
theorem split_at (w : World) (hsh : w.ShapedOpen Tryd.prog) (l : List UInt8) (hl : l.length ≤ 1000000) (ps : List (List UInt8)) (hp : splitD 46 l = ps) :
    Calls Tryd.prog 46 #[.string ⟨l.toArray⟩, .string ⟨#[46]⟩] w fun e w' => e = .returned (.slice (some ⟨w.heap.size, 0, none⟩) ps.length ps.length) ∧ w' = w.alloc (.cells (ps.map strV).toArray 9) := by
  have h := Tryd.strings_Split_shaped ⟨l.toArray⟩ ⟨#[46]⟩ w hsh (by simp [ByteArray.size]; omega) (Nat.le_refl 1)
  rw [splitD_length, splitB_map, hp, List.map_map] at h
  exact h
def VPost (w : World) (v : Ver) (x : Int) (e : Ending) (w' : World) : Prop := e = .returned (.tuple #[.agg #[.int .i64 v.a, .int .i64 v.b, .int .i64 v.c], .int .i64 x]) ∧ Below w.heap.size w w'
set_option maxRecDepth 100000 in
set_option maxHeartbeats 8000000 in
theorem parse_many (w : World) (hsh : w.ShapedOpen Tryd.prog) (l : List UInt8) (hl : l.length ≤ 1000000) (ps : List (List UInt8)) (hp : splitD 46 l = ps) (h3 : ps.length ≠ 3) :
    Calls Tryd.prog 28 #[.string ⟨l.toArray⟩] w (VPost w z3 6) := by
  have B1 := hide ((Below.refl w.heap.size w).alloc (Nat.le_refl _) (.cells #[.int .i64 0, .int .i64 0, .int .i64 0] 26))
  have SP := hide (split_at _ (shape_below hsh (unhide B1)) l hl ps hp)
  have h4 : ((ps.length : Int) == 3) = false := by simp; omega
  have h5 : ((ps.length : Int) != 3) = true := by simp; omega
  clear hsh hl hp h3
  go_enter Tryd.func28, Tryd.ntmps28
  go_wp2_with fail
  refine (unhide SP).mono ?_
  rintro e w1 ⟨rfl, rfl⟩
  go_wp2_with fail
  exact bodyPost_ret (v := .tuple #[.agg #[.int .i64 0, .int .i64 0, .int .i64 0], .int .i64 6]) (res2 rfl _ w.heap.size 26 #[.int .i64 0, .int .i64 0, .int .i64 0] _ _ rfl rfl ((Blk.new w _ _).alloc _) Tryd.underlying26 rfl (by kernel_rfl)) rfl ⟨rfl, (unhide B1).alloc (unhide B1).size _⟩
set_option maxRecDepth 100000 in
set_option maxHeartbeats 16000000 in
theorem parse_three (w : World) (hsh : w.ShapedOpen Tryd.prog) (hP : Pow10At w) (l : List UInt8) (hl : l.length ≤ 1000000) (p0 p1 p2 : List UInt8) (hp : splitD 46 l = [p0, p1, p2]) (v : Ver) (x : Int) (hv : finP 0 z3 [p0, p1, p2] = (v, x)) :
    Calls Tryd.prog 28 #[.string ⟨l.toArray⟩] w (VPost w v x) := by
  have B1 := hide ((Below.refl w.heap.size w).alloc (Nat.le_refl _) (.cells #[.int .i64 0, .int .i64 0, .int .i64 0] 26))
  have SP := hide (split_at _ (shape_below hsh (unhide B1)) l hl _ hp)
  have hlen : ∀ p ∈ [p0, p1, p2], p.length ≤ maxLen := by
    intro p h
    rw [← hp] at h
    have := splitD_len 46 l p h
    unfold maxLen
    omega
  have hl0 := hide (hlen p0 (by simp))
  have hl1 := hide (hlen p1 (by simp))
  have hl2 := hide (hlen p2 (by simp))
  have HV := hide hv
  have HP := hide hP
  obtain ⟨r, hr⟩ : ∃ r, w.heap.size = r := ⟨_, rfl⟩
  obtain ⟨W3, hW3⟩ : ∃ W3, ((w.alloc (.cells #[.int .i64 0, .int .i64 0, .int .i64 0] 26)).alloc (.cells #[strV p0, strV p1, strV p2] 9)).alloc (.cells #[.int .i64 0, .int .i64 0, .int .i64 0] 66) = W3 := ⟨_, rfl⟩
  have R3 : Hid (Blk W3 r 26 #[.int .i64 0, .int .i64 0, .int .i64 0]) := hide (hr ▸ hW3 ▸ ((Blk.new w _ _).alloc _).alloc _)
  have S3 : Hid (Blk W3 (r + 1) 9 #[strV p0, strV p1, strV p2]) := hide (hW3 ▸ (Blk.new' (by rw [size_alloc, hr])).alloc _)
  have N3 : Hid (Blk W3 (r + 1 + 1) 66 #[.int .i64 0, .int .i64 0, .int .i64 0]) := hide (hW3 ▸ Blk.new' (by rw [size_alloc, size_alloc, hr]))
  have B3 : Hid (Below r w W3) := hide (hW3 ▸ hr ▸ ((unhide B1).alloc (unhide B1).size _).alloc (by simp; omega) _)
  have HW3 := hide hW3
  have HR := hide hr
  have CN := hide vnum_any
  clear hsh hl hp hv hP hlen hW3 hr
  go_enter Tryd.func28, Tryd.ntmps28
  go_wp2_with fail
  refine (unhide SP).mono ?_
  rintro e w1 ⟨rfl, rfl⟩
  go_wp2_with fail
  rw [unhide HW3]
  simp only [unhide HR]
  go_loopw [18] (fun i wr => ∃ (k : Nat) (u : Ver), k ≤ 3 ∧ i = .int .i64 k ∧ finP k u ([p0, p1, p2].drop k) = (v, x) ∧ Blk wr r 26 #[.int .i64 0, .int .i64 0, .int .i64 0] ∧ Blk wr (r + 1) 9 #[strV p0, strV p1, strV p2] ∧ Blk wr (r + 1 + 1) 66 #[.int .i64 u.a, .int .i64 u.b, .int .i64 u.c] ∧ Below r w wr) (fun i _ => 3 - (intOf i).toNat)
  case atStart => exact ⟨0, z3, by omega, rfl, unhide HV, unhide R3, unhide S3, unhide N3, unhide B3⟩
  case round =>
    obtain ⟨k, u, hk, rfl, hf, hR, hS, hN, hB⟩ := hrel
    have HF := hide hf
    have RR := hide hR
    have SS := hide hS
    have NN := hide hN
    have BB := hide hB
    have PW := hide ((unhide HP).below (by rw [unhide HR]; exact hB))
    have hrl : r + 1 + 1 < wr.heap.size := hN.lt
    obtain ⟨ua, ub, uc⟩ := u
    clear hf hB
    rcases (show k = 0 ∨ k = 1 ∨ k = 2 ∨ k = 3 by omega) with rfl | rfl | rfl | rfl
    · have hc : wr.cell? ⟨r + 1, 0, none⟩ = some (.string ⟨p0.toArray⟩) := hS.cell 0
      obtain ⟨b, hb⟩ : ∃ b, okN p0 = b := ⟨_, rfl⟩
      obtain ⟨m, hm⟩ : ∃ m, (if b = true then decV 0 p0 else 0) = m := ⟨_, rfl⟩
      have HM := hide hm
      have HBB := hide hb
      clear hR hS hN hk hb hm
      go_wp2_with fail
      refine (unhide CN _ (unhide PW) p0 (unhide hl0) b (unhide HBB) m (unhide HM)).mono ?_
      rintro e w5 ⟨rfl, hb5⟩
      have R5 := hide ((unhide RR).below hb5 (unhide RR).lt)
      have S5 := hide ((unhide SS).below hb5 (unhide SS).lt)
      have N5 := (unhide NN).below hb5 (unhide NN).lt
      have B5 := hide ((unhide BB).trans (hb5.mono (by omega)))
      have hrl5 : r + 1 + 1 < w5.heap.size := N5.lt
      clear hb5 hc
      have hfk := unhide HF
      simp only [List.drop] at hfk
      rw [finP, unhide HBB] at hfk
      cases b
      · have hbad : badV = (v, x) := by rw [← hfk]; simp
        injection hbad with h1 h2
        subst h1 h2
        clear hfk
        go_wp2_with (refine wpList_store_blk rfl 26 (.tmp 2) (.tmp 30) rfl r 26 _ #[.int .i64 0, .int .i64 0, .int .i64 0] rfl rfl (unhide R5) rfl (by kernel_rfl) (by intro u hu; simp at hu; rcases hu with rfl | rfl | rfl <;> rfl) ?_
                     intro w9 hb9 hg9
                     have Z9 := hide hb9
                     have B9 := hide ((unhide B5).grown hg9 (by have := (unhide R5).lt; have := (unhide B5).size; omega) (fun j e => by injection e with e; omega))
                     clear hb9 hg9)
        exact bodyPost_ret (v := .tuple #[.agg #[.int .i64 0, .int .i64 0, .int .i64 0], .int .i64 6]) (res2 rfl _ r 26 #[.int .i64 0, .int .i64 0, .int .i64 0] _ _ rfl rfl (unhide Z9) Tryd.underlying26 rfl (by kernel_rfl)) rfl ⟨rfl, by rw [unhide HR]; exact unhide B9⟩
      · have hmv : decV 0 p0 = m := by simpa using unhide HM
        have hnext : finP 1 ⟨(m : Int), ub, uc⟩ ([p0, p1, p2].drop 1) = (v, x) := by rw [← hfk, ← hmv]; simp [setV]
        have HNX := hide hnext
        have q1 : w5.cell? ⟨r + 1 + 1, 0, none⟩ = some (.int .i64 ua) := N5.cell 0
        have f1 : w5.frozen? ⟨r + 1 + 1, 0, none⟩ = false := N5.frozen 0
        have gs : w5.grownBy (w5.setCell ⟨r + 1 + 1, 0, none⟩ (.int .i64 (m : Int))) (some (r + 1 + 1)) := only_setCell (World.grownBy.refl w5 _) (.inl rfl) _
        have F5 := hide (show ∃ q : Ver, finP 1 q ([p0, p1, p2].drop 1) = (v, x) ∧ Blk (w5.setCell ⟨r + 1 + 1, 0, none⟩ (.int .i64 (m : Int))) r 26 #[.int .i64 0, .int .i64 0, .int .i64 0] ∧ Blk (w5.setCell ⟨r + 1 + 1, 0, none⟩ (.int .i64 (m : Int))) (r + 1) 9 #[strV p0, strV p1, strV p2] ∧ Blk (w5.setCell ⟨r + 1 + 1, 0, none⟩ (.int .i64 (m : Int))) (r + 1 + 1) 66 #[.int .i64 q.a, .int .i64 q.b, .int .i64 q.c] ∧ Below r w (w5.setCell ⟨r + 1 + 1, 0, none⟩ (.int .i64 (m : Int))) from
          ⟨⟨(m : Int), ub, uc⟩, unhide HNX, (unhide R5).grown gs (by intro e; injection e with e; omega), (unhide S5).grown gs (by intro e; injection e with e; omega), N5.set_ 0 _, (unhide B5).grown gs (by have := (unhide R5).lt; have := (unhide B5).size; omega) (fun j e => by injection e with e; omega)⟩)
        clear hfk hmv hnext gs N5
        go_wp2_with fail
        go_roundw
        case rel =>
          obtain ⟨q, hq⟩ := unhide F5
          exact ⟨1, q, by omega, by go_num, hq⟩
        case measure => simp [intOf]
    · have hc : wr.cell? ⟨r + 1, 1, none⟩ = some (.string ⟨p1.toArray⟩) := hS.cell 1
      obtain ⟨b, hb⟩ : ∃ b, okN p1 = b := ⟨_, rfl⟩
      obtain ⟨m, hm⟩ : ∃ m, (if b = true then decV 0 p1 else 0) = m := ⟨_, rfl⟩
      have HM := hide hm
      have HBB := hide hb
      clear hR hS hN hk hb hm
      go_wp2_with fail
      refine (unhide CN _ (unhide PW) p1 (unhide hl1) b (unhide HBB) m (unhide HM)).mono ?_
      rintro e w5 ⟨rfl, hb5⟩
      have R5 := hide ((unhide RR).below hb5 (unhide RR).lt)
      have S5 := hide ((unhide SS).below hb5 (unhide SS).lt)
      have N5 := (unhide NN).below hb5 (unhide NN).lt
      have B5 := hide ((unhide BB).trans (hb5.mono (by omega)))
      have hrl5 : r + 1 + 1 < w5.heap.size := N5.lt
      clear hb5 hc
      have hfk := unhide HF
      simp only [List.drop] at hfk
      rw [finP, unhide HBB] at hfk
      cases b
      · have hbad : badV = (v, x) := by rw [← hfk]; simp
        injection hbad with h1 h2
        subst h1 h2
        clear hfk
        go_wp2_with (refine wpList_store_blk rfl 26 (.tmp 2) (.tmp 30) rfl r 26 _ #[.int .i64 0, .int .i64 0, .int .i64 0] rfl rfl (unhide R5) rfl (by kernel_rfl) (by intro u hu; simp at hu; rcases hu with rfl | rfl | rfl <;> rfl) ?_
                     intro w9 hb9 hg9
                     have Z9 := hide hb9
                     have B9 := hide ((unhide B5).grown hg9 (by have := (unhide R5).lt; have := (unhide B5).size; omega) (fun j e => by injection e with e; omega))
                     clear hb9 hg9)
        exact bodyPost_ret (v := .tuple #[.agg #[.int .i64 0, .int .i64 0, .int .i64 0], .int .i64 6]) (res2 rfl _ r 26 #[.int .i64 0, .int .i64 0, .int .i64 0] _ _ rfl rfl (unhide Z9) Tryd.underlying26 rfl (by kernel_rfl)) rfl ⟨rfl, by rw [unhide HR]; exact unhide B9⟩
      · have hmv : decV 0 p1 = m := by simpa using unhide HM
        have hnext : finP 2 ⟨ua, (m : Int), uc⟩ ([p0, p1, p2].drop 2) = (v, x) := by rw [← hfk, ← hmv]; simp [setV]
        have HNX := hide hnext
        have q1 : w5.cell? ⟨r + 1 + 1, 1, none⟩ = some (.int .i64 ub) := N5.cell 1
        have f1 : w5.frozen? ⟨r + 1 + 1, 1, none⟩ = false := N5.frozen 1
        have gs : w5.grownBy (w5.setCell ⟨r + 1 + 1, 1, none⟩ (.int .i64 (m : Int))) (some (r + 1 + 1)) := only_setCell (World.grownBy.refl w5 _) (.inl rfl) _
        have F5 := hide (show ∃ q : Ver, finP 2 q ([p0, p1, p2].drop 2) = (v, x) ∧ Blk (w5.setCell ⟨r + 1 + 1, 1, none⟩ (.int .i64 (m : Int))) r 26 #[.int .i64 0, .int .i64 0, .int .i64 0] ∧ Blk (w5.setCell ⟨r + 1 + 1, 1, none⟩ (.int .i64 (m : Int))) (r + 1) 9 #[strV p0, strV p1, strV p2] ∧ Blk (w5.setCell ⟨r + 1 + 1, 1, none⟩ (.int .i64 (m : Int))) (r + 1 + 1) 66 #[.int .i64 q.a, .int .i64 q.b, .int .i64 q.c] ∧ Below r w (w5.setCell ⟨r + 1 + 1, 1, none⟩ (.int .i64 (m : Int))) from
          ⟨⟨ua, (m : Int), uc⟩, unhide HNX, (unhide R5).grown gs (by intro e; injection e with e; omega), (unhide S5).grown gs (by intro e; injection e with e; omega), N5.set_ 1 _, (unhide B5).grown gs (by have := (unhide R5).lt; have := (unhide B5).size; omega) (fun j e => by injection e with e; omega)⟩)
        clear hfk hmv hnext gs N5
        go_wp2_with fail
        go_roundw
        case rel =>
          obtain ⟨q, hq⟩ := unhide F5
          exact ⟨2, q, by omega, by go_num, hq⟩
        case measure => simp [intOf]
    · have hc : wr.cell? ⟨r + 1, 2, none⟩ = some (.string ⟨p2.toArray⟩) := hS.cell 2
      obtain ⟨b, hb⟩ : ∃ b, okN p2 = b := ⟨_, rfl⟩
      obtain ⟨m, hm⟩ : ∃ m, (if b = true then decV 0 p2 else 0) = m := ⟨_, rfl⟩
      have HM := hide hm
      have HBB := hide hb
      clear hR hS hN hk hb hm
      go_wp2_with fail
      refine (unhide CN _ (unhide PW) p2 (unhide hl2) b (unhide HBB) m (unhide HM)).mono ?_
      rintro e w5 ⟨rfl, hb5⟩
      have R5 := hide ((unhide RR).below hb5 (unhide RR).lt)
      have S5 := hide ((unhide SS).below hb5 (unhide SS).lt)
      have N5 := (unhide NN).below hb5 (unhide NN).lt
      have B5 := hide ((unhide BB).trans (hb5.mono (by omega)))
      have hrl5 : r + 1 + 1 < w5.heap.size := N5.lt
      clear hb5 hc
      have hfk := unhide HF
      simp only [List.drop] at hfk
      rw [finP, unhide HBB] at hfk
      cases b
      · have hbad : badV = (v, x) := by rw [← hfk]; simp
        injection hbad with h1 h2
        subst h1 h2
        clear hfk
        go_wp2_with (refine wpList_store_blk rfl 26 (.tmp 2) (.tmp 30) rfl r 26 _ #[.int .i64 0, .int .i64 0, .int .i64 0] rfl rfl (unhide R5) rfl (by kernel_rfl) (by intro u hu; simp at hu; rcases hu with rfl | rfl | rfl <;> rfl) ?_
                     intro w9 hb9 hg9
                     have Z9 := hide hb9
                     have B9 := hide ((unhide B5).grown hg9 (by have := (unhide R5).lt; have := (unhide B5).size; omega) (fun j e => by injection e with e; omega))
                     clear hb9 hg9)
        exact bodyPost_ret (v := .tuple #[.agg #[.int .i64 0, .int .i64 0, .int .i64 0], .int .i64 6]) (res2 rfl _ r 26 #[.int .i64 0, .int .i64 0, .int .i64 0] _ _ rfl rfl (unhide Z9) Tryd.underlying26 rfl (by kernel_rfl)) rfl ⟨rfl, by rw [unhide HR]; exact unhide B9⟩
      · have hmv : decV 0 p2 = m := by simpa using unhide HM
        have hnext : finP 3 ⟨ua, ub, (m : Int)⟩ ([p0, p1, p2].drop 3) = (v, x) := by rw [← hfk, ← hmv]; simp [setV]
        have HNX := hide hnext
        have q1 : w5.cell? ⟨r + 1 + 1, 2, none⟩ = some (.int .i64 uc) := N5.cell 2
        have f1 : w5.frozen? ⟨r + 1 + 1, 2, none⟩ = false := N5.frozen 2
        have gs : w5.grownBy (w5.setCell ⟨r + 1 + 1, 2, none⟩ (.int .i64 (m : Int))) (some (r + 1 + 1)) := only_setCell (World.grownBy.refl w5 _) (.inl rfl) _
        have F5 := hide (show ∃ q : Ver, finP 3 q ([p0, p1, p2].drop 3) = (v, x) ∧ Blk (w5.setCell ⟨r + 1 + 1, 2, none⟩ (.int .i64 (m : Int))) r 26 #[.int .i64 0, .int .i64 0, .int .i64 0] ∧ Blk (w5.setCell ⟨r + 1 + 1, 2, none⟩ (.int .i64 (m : Int))) (r + 1) 9 #[strV p0, strV p1, strV p2] ∧ Blk (w5.setCell ⟨r + 1 + 1, 2, none⟩ (.int .i64 (m : Int))) (r + 1 + 1) 66 #[.int .i64 q.a, .int .i64 q.b, .int .i64 q.c] ∧ Below r w (w5.setCell ⟨r + 1 + 1, 2, none⟩ (.int .i64 (m : Int))) from
          ⟨⟨ua, ub, (m : Int)⟩, unhide HNX, (unhide R5).grown gs (by intro e; injection e with e; omega), (unhide S5).grown gs (by intro e; injection e with e; omega), N5.set_ 2 _, (unhide B5).grown gs (by have := (unhide R5).lt; have := (unhide B5).size; omega) (fun j e => by injection e with e; omega)⟩)
        clear hfk hmv hnext gs N5
        go_wp2_with fail
        go_roundw
        case rel =>
          obtain ⟨q, hq⟩ := unhide F5
          exact ⟨3, q, by omega, by go_num, hq⟩
        case measure => simp [intOf]
    · have hend : finP 3 ⟨ua, ub, uc⟩ [] = (v, x) := unhide HF
      rw [finP, if_pos rfl] at hend
      injection hend with h1 h2
      subst h1 h2
      have d0 : wr.cell? ⟨r + 1 + 1, 0, none⟩ = some (.int .i64 ua) := hN.cell 0
      have d1 : wr.cell? ⟨r + 1 + 1, 1, none⟩ = some (.int .i64 ub) := hN.cell 1
      have d2 : wr.cell? ⟨r + 1 + 1, 2, none⟩ = some (.int .i64 uc) := hN.cell 2
      clear hR hS hN hk
      go_wp2_with (refine wpList_store_blk rfl 26 (.tmp 2) (.tmp 41) rfl r 26 _ #[.int .i64 ua, .int .i64 ub, .int .i64 uc] rfl rfl (unhide RR) rfl (by kernel_rfl) (by intro u hu; simp at hu; rcases hu with rfl | rfl | rfl <;> rfl) ?_
                   intro w9 hb9 hg9
                   have Z9 := hide hb9
                   have B9 := hide ((unhide BB).grown hg9 (by have := (unhide RR).lt; have := (unhide BB).size; omega) (fun j e => by injection e with e; omega))
                   clear hb9 hg9)
      exact bodyPost_ret (v := .tuple #[.agg #[.int .i64 ua, .int .i64 ub, .int .i64 uc], .int .i64 0]) (res2 rfl _ r 26 #[.int .i64 ua, .int .i64 ub, .int .i64 uc] _ _ rfl rfl (unhide Z9) Tryd.underlying26 rfl (by kernel_rfl)) rfl ⟨rfl, by rw [unhide HR]; exact unhide B9⟩
theorem parse_any (w : World) (hsh : w.ShapedOpen Tryd.prog) (hP : Pow10At w) (l : List UInt8) (hl : l.length ≤ 1000000) (v : Ver) (x : Int) (hv : parseV l = (v, x)) :
    Calls Tryd.prog 28 #[.string ⟨l.toArray⟩] w (VPost w v x) := by
  by_cases h3 : (splitD 46 l).length = 3
  · rcases hs : splitD 46 l with _ | ⟨p0, _ | ⟨p1, _ | ⟨p2, _ | ⟨p3, t⟩⟩⟩⟩
    all_goals rw [hs] at h3
    all_goals try (simp at h3; done)
    rw [parseV, hs] at hv
    exact parse_three w hsh hP l hl p0 p1 p2 hs v x hv
  · have hb := finP_len (splitD 46 l) 0 z3 (by omega)
    rw [parseV, hb] at hv
    injection hv with h1 h2
    subst h1 h2
    exact parse_many w hsh l hl _ rfl h3
end Go.Proofs.YtbcbleonpaemgaaDoor
