/- event.Parse returns what parseE says (printed by wip/gen_eparse.py). No condition but the world's shape. -/
import Derived.Test.YtklffnfaigmjfaaDoorERParse
import Derived.Test.YtklffnfaigmjfaaDoorEDataW
import Derived.Test.YtklffnfaigmjfaaDoorMShape
import Derived.Test.YtklffnfaigmjfaaDoorHeld
namespace Go.Proofs.YtklffnfaigmjfaaDoor
open Go.RowKit Go.Sort
theorem split32_at (w : World) (hsh : w.ShapedOpen Tryd.prog) (l : List UInt8) (hl : l.length ≤ 1000000) (ps : List (List UInt8)) (hp : splitD 32 l = ps) :
    Calls Tryd.prog 47 #[.string ⟨l.toArray⟩, .string ⟨#[32]⟩] w fun e w' => e = .returned (.slice (some ⟨w.heap.size, 0, none⟩) ps.length ps.length) ∧ w' = w.alloc (.cells (ps.map strV).toArray 9) := by
  have h := Tryd.strings_Split_shaped ⟨l.toArray⟩ ⟨#[32]⟩ w hsh (by simp [ByteArray.size]; omega) (Nat.le_refl 1)
  rw [splitD_length, splitB_map, hp, List.map_map] at h
  exact h
/-- The blocks that Parse has made. -/
structure PS (w W : World) (r g qm qv : Nat) (cur : Array Value) (xs : List Nat) : Prop where
  R : Blk W r 26 #[.int .u16 0, .int .u32 0, .int .u16 0, .int .u8 0, .int .u8 0, .int .u8 0, .bool false, .int .u8 0, .int .u8 0, .int .u8 0]
  P : Blk W g 9 cur
  M : Blk W qm 72 mostCs
  V : Blk W qv 72 (u64s xs)
  B : Below r w W
theorem PS.set_ {w W : World} {r g qm qv : Nat} {cur : Array Value} {xs : List Nat} (h : PS w W r g qm qv cur xs) (h1 : r < g) (h2 : g < qm) (h3 : qm < qv) (k n : Nat) : PS w (W.setCell ⟨qv, k, none⟩ (.int .u64 (n : Int))) r g qm qv cur (xs.set k n) := by
  have gs : W.grownBy (W.setCell ⟨qv, k, none⟩ (.int .u64 (n : Int))) (some qv) := only_setCell (World.grownBy.refl W _) (.inl rfl) _
  refine ⟨h.R.grown gs (by intro e; injection e with e; omega), h.P.grown gs (by intro e; injection e with e; omega), h.M.grown gs (by intro e; injection e with e; omega), ?_, h.B.grown gs (by have := h.R.lt; omega) (fun j e => by injection e with e; omega)⟩
  have := h.V.set_ k (.int .u64 (n : Int))
  have e : (u64s xs).setIfInBounds k (.int .u64 (n : Int)) = u64s (xs.set k n) := by simp [u64s, List.map_set]
  rwa [e] at this
theorem PS.below {w W W' : World} {r g qm qv : Nat} {cur : Array Value} {xs : List Nat} (h : PS w W r g qm qv cur xs) (hb : Below W.heap.size W W') : PS w W' r g qm qv cur xs :=
  ⟨h.R.below hb h.R.lt, h.P.below hb h.P.lt, h.M.below hb h.M.lt, h.V.below hb h.V.lt, h.B.trans (hb.mono (by have := h.R.lt; omega))⟩
set_option maxRecDepth 100000 in
set_option maxHeartbeats 16000000 in
theorem parse_ev (w : World) (hsh : w.ShapedOpen Tryd.prog) (l : List UInt8) (hl : l.length ≤ 100000) (X : Ev) (x : Int) (hv : parseE l = (X, x)) : Calls Tryd.prog 35 #[.string ⟨l.toArray⟩] w (EPost w X x) := by
  have hz := size_list l _ hl
  have CNU := hide num_ev
  have CDB := hide data_bad
  have CDO := hide data_ok
  have CWD := hide word_any
  have CVA := hide valid_any
  obtain ⟨ps, hps⟩ : ∃ ps, splitD 32 l = ps := ⟨_, rfl⟩
  have hpm : ∀ p ∈ ps, p.length ≤ 100000 := fun p hp => by rw [← hps] at hp; have := splitD_len 32 l p hp; omega
  have hpl : ps.length ≤ 100001 := by rw [← hps]; have := splitD_count 32 l; omega
  have HPM := hide hpm
  have hv2 : parseP ps = (X, x) := by rw [← hps]; exact hv
  have HV := hide hv2
  obtain ⟨r, hr⟩ : ∃ r, w.heap.size = r := ⟨_, rfl⟩
  have HR := hide hr
  have B0 := hide ((Below.refl w.heap.size w).alloc (Nat.le_refl _) (.cells #[.int .u16 0, .int .u32 0, .int .u16 0, .int .u8 0, .int .u8 0, .int .u8 0, .bool false, .int .u8 0, .int .u8 0, .int .u8 0] 26))
  have SP := hide (split32_at _ (shape_below hsh (unhide B0)) l (by omega) ps hps)
  obtain ⟨cur, hcur⟩ : ∃ c, (ps.map strV).toArray = c := ⟨_, rfl⟩
  have hat : ∀ j, j < ps.length → cur[j]? = some (strV (partK ps j)) := fun j hj => by
    rw [← hcur]
    simp [partK, hj]
  have HAT := hide hat
  have HCUR := hide hcur
  obtain ⟨W1, hW1⟩ : ∃ W1, (w.alloc (.cells #[.int .u16 0, .int .u32 0, .int .u16 0, .int .u8 0, .int .u8 0, .int .u8 0, .bool false, .int .u8 0, .int .u8 0, .int .u8 0] 26)).alloc (.cells cur 9) = W1 := ⟨_, rfl⟩
  have R1 : Hid (Blk W1 r 26 #[.int .u16 0, .int .u32 0, .int .u16 0, .int .u8 0, .int .u8 0, .int .u8 0, .bool false, .int .u8 0, .int .u8 0, .int .u8 0]) := hide (hr ▸ hW1 ▸ (Blk.new w _ _).alloc _)
  have P1 : Hid (Blk W1 (r + 1) 9 cur) := hide (hW1 ▸ Blk.new' (by rw [size_alloc, hr]))
  have B1 : Hid (Below r w W1) := hide (hW1 ▸ hr ▸ ((Below.refl w.heap.size w).alloc (Nat.le_refl _) _).alloc (by simp) _)
  have hsz1 : W1.heap.size = r + 1 + 1 := by rw [← hW1]; simp only [size_alloc, hr]
  have HW1 := hide hW1
  have HSZ := hide hsz1
  obtain ⟨W2, hW2⟩ : ∃ W2, W1.alloc (.cells mostCs 72) = W2 := ⟨_, rfl⟩
  have R2 : Hid (Blk W2 r 26 #[.int .u16 0, .int .u32 0, .int .u16 0, .int .u8 0, .int .u8 0, .int .u8 0, .bool false, .int .u8 0, .int .u8 0, .int .u8 0]) := hide (hW2 ▸ (unhide R1).alloc _)
  have P2 : Hid (Blk W2 (r + 1) 9 cur) := hide (hW2 ▸ (unhide P1).alloc _)
  have M2 : Hid (Blk W2 (r + 1 + 1) 72 mostCs) := hide (hW2 ▸ Blk.new' (by rw [hsz1]))
  have B2 : Hid (Below r w W2) := hide (hW2 ▸ (unhide B1).alloc (by omega) _)
  have hsz2 : W2.heap.size = r + 1 + 1 + 1 := by rw [← hW2]; simp only [size_alloc, hsz1]
  have HW2 := hide hW2
  clear hsh hl hpm hv hv2 hps hr hat hcur hW1 hsz1 hW2
  go_enter Tryd.func35, Tryd.ntmps35
  go_wp2_with fail
  refine (unhide SP).mono ?_
  rintro e w1 ⟨rfl, rfl⟩
  rw [unhide HCUR, unhide HW1]
  simp only [size_alloc, unhide HR]
  go_upto_region 3 with fail
  have hw2 := unhide HW2
  simp only [mostCs] at hw2
  rw [hw2, unhide HSZ]
  clear hw2
  by_cases h9 : ps.length = 9
  rotate_left
  · have h9' : ((ps.length : Int) != 9) = true := by simp; omega
    have hb := parse_bad (form_len h9)
    rw [unhide HV] at hb
    injection hb with hX hx
    subst hX hx
    go_wp2_with (first
      | (refine wpList_store_blk rfl 26 (.tmp 2) (.tmp 24) rfl r 26 _ #[.int .u16 0, .int .u32 0, .int .u16 0, .int .u8 0, .int .u8 0, .int .u8 0, .bool false, .int .u8 0, .int .u8 0, .int .u8 0] rfl rfl (unhide R2) rfl (by kernel_rfl) (one_ev zeroEv) ?_
         intro w9 hb9 hg9
         have Z9 := hide hb9
         have B9 := hide ((unhide B2).grown hg9 (by have := (unhide R2).lt; have := (unhide B2).size; omega) (fun j e => by injection e with e; omega))
         clear hb9 hg9)
      | fail)
    exact bodyPost_ret (v := .tuple #[.agg zeroEv.c, .int .i64 6]) (res2 rfl _ r 26 zeroEv.c _ _ rfl rfl (unhide Z9) Tryd.underlying26 rfl (by kernel_rfl)) rfl ⟨rfl, by rw [unhide HR]; exact unhide B9⟩
  have h9' : ((ps.length : Int) != 9) = false := by simp; omega
  have h9i : (ps.length : Int) = 9 := by omega
  obtain ⟨p6, e6⟩ : ∃ p, partK ps 6 = p := ⟨_, rfl⟩
  obtain ⟨p7, e7⟩ : ∃ p, partK ps 7 = p := ⟨_, rfl⟩
  obtain ⟨p8, e8⟩ : ∃ p, partK ps 8 = p := ⟨_, rfl⟩
  have E6 := hide e6
  have E7 := hide e7
  have E8 := hide e8
  clear e6 e7 e8
  have hmk : ∀ W : World, (Instr.makeSlice 80 (.int .i64 6) (.int .i64 6)).run Tryd.prog W = .ok (.slice (some ⟨W.heap.size, 0, none⟩) 6 6) (W.alloc (.cells #[.int .u64 0, .int .u64 0, .int .u64 0, .int .u64 0, .int .u64 0, .int .u64 0] 72)) := fun _ => by kernel_rfl
  have HMK := hide hmk
  clear hmk
  go_upto_region 6 with (rw [unhide HMK])
  obtain ⟨W3, hW3⟩ : ∃ W3, W2.alloc (.cells #[.int .u64 0, .int .u64 0, .int .u64 0, .int .u64 0, .int .u64 0, .int .u64 0] 72) = W3 := ⟨_, rfl⟩
  have S3 : Hid (PS w W3 r (r + 1) (r + 1 + 1) (r + 1 + 1 + 1) cur [0, 0, 0, 0, 0, 0]) := hide ⟨hW3 ▸ (unhide R2).alloc _, hW3 ▸ (unhide P2).alloc _, hW3 ▸ (unhide M2).alloc _, hW3 ▸ Blk.new' (by rw [hsz2]), hW3 ▸ (unhide B2).alloc (by omega) _⟩
  rw [hW3]
  obtain ⟨g, hg⟩ : ∃ g, r + 1 = g := ⟨_, rfl⟩
  rw [hg] at S3 ⊢
  obtain ⟨qm, hqm⟩ : ∃ g', g + 1 = g' := ⟨_, rfl⟩
  rw [hqm] at S3 ⊢
  obtain ⟨qv, hqv⟩ : ∃ g', qm + 1 = g' := ⟨_, rfl⟩
  rw [hqv] at S3 ⊢
  have hg1 : r < g := by omega
  have hqm1 : g < qm := by omega
  have hqv1 : qm < qv := by omega
  clear hW3 hsz2 R1 P1 B1 R2 P2 M2 B2 HW1 HW2 HSZ SP B0 HCUR hg hqm hqv
  go_wp2_with fail
  go_loopw [7, 30] (fun h i wr => ∃ (k : Nat) (hb : Bool) (xs : List Nat), k ≤ 6 ∧ h = .bool hb ∧ i = .int .i64 k ∧ xs.length = 6 ∧ goodK ps k = true ∧ highK ps k = hb ∧ (∀ j, j < k → xs[j]? = some (decV 0 (partK ps j))) ∧ PS w wr r g qm qv cur xs) (fun _ i _ => 6 - (intOf i).toNat)
  case atStart => exact ⟨0, false, [0, 0, 0, 0, 0, 0], by omega, rfl, rfl, rfl, rfl, rfl, by omega, unhide S3⟩
  case round =>
    obtain ⟨k, hb, xs, hk, rfl, rfl, hxl, hgk, hhk, hxs, hS⟩ := hrel
    have SS := hide hS
    have GK := hide hgk
    have HK := hide hhk
    have HX := hide hxs
    clear hgk hhk hxs
    by_cases hlt : k < 6
    · obtain ⟨pk, hpk⟩ : ∃ p, partK ps k = p := ⟨_, rfl⟩
      have hlt2 : (k : Int) < 6 := by omega
      have ck : wr.cell? ⟨g, k, none⟩ = some (.string ⟨pk.toArray⟩) := by rw [hS.P.cell, (unhide HAT) k (by omega), hpk]; rfl
      have hgl : g < wr.heap.size := hS.P.lt
      have lk : pk.length ≤ maxLen := by
        have h := unhide HPM pk (by rw [← hpk]; simp [partK, show k < ps.length by omega])
        unfold maxLen; omega
      obtain ⟨b, hbk⟩ : ∃ b, okU pk = b := ⟨_, rfl⟩
      obtain ⟨n, hn⟩ : ∃ n, (if b = true then decV 0 pk else 0) = n := ⟨_, rfl⟩
      have HBK := hide hbk
      have HN := hide hn
      have HPK := hide hpk
      have LK := hide lk
      clear hS hbk hn hpk lk hk
      go_wp2_with fail
      refine (unhide CNU _ pk (unhide LK) b (unhide HBK) n (unhide HN)).mono ?_
      rintro e w5 ⟨rfl, hb5⟩
      have S5 := hide ((unhide SS).below hb5)
      have R5 : Hid (Blk w5 r 26 #[.int .u16 0, .int .u32 0, .int .u16 0, .int .u8 0, .int .u8 0, .int .u8 0, .bool false, .int .u8 0, .int .u8 0, .int .u8 0]) := hide (unhide S5).R
      have B5 := hide (unhide S5).B
      clear hb5 ck hgl
      cases b
      · have hf : formB ps = false := form_num (k := k + 1) (by omega) (by rw [goodK, unhide HPK, unhide HBK]; simp)
        have hb := parse_bad (hf)
        rw [unhide HV] at hb
        injection hb with hX hx
        subst hX hx
        go_wp2_with (first
          | (refine wpList_store_blk rfl 26 (.tmp 2) (.tmp 43) rfl r 26 _ #[.int .u16 0, .int .u32 0, .int .u16 0, .int .u8 0, .int .u8 0, .int .u8 0, .bool false, .int .u8 0, .int .u8 0, .int .u8 0] rfl rfl (unhide R5) rfl (by kernel_rfl) (one_ev zeroEv) ?_
             intro w9 hb9 hg9
             have Z9 := hide hb9
             have B9 := hide ((unhide B5).grown hg9 (by have := (unhide R5).lt; have := (unhide B5).size; omega) (fun j e => by injection e with e; omega))
             clear hb9 hg9)
          | fail)
        exact bodyPost_ret (v := .tuple #[.agg zeroEv.c, .int .i64 6]) (res2 rfl _ r 26 zeroEv.c _ _ rfl rfl (unhide Z9) Tryd.underlying26 rfl (by kernel_rfl)) rfl ⟨rfl, by rw [unhide HR]; exact unhide B9⟩
      · have hnv : decV 0 pk = n := by simpa using unhide HN
        have hgk1 : goodK ps (k + 1) = true := by rw [goodK, unhide GK, unhide HPK, unhide HBK]; rfl
        obtain ⟨xv, hxv⟩ : ∃ xv, xs[k]? = some xv := ⟨xs[k]'(by omega), List.getElem?_eq_getElem (by omega)⟩
        have q1 : w5.cell? ⟨qv, k, none⟩ = some (.int .u64 (xv : Int)) := by rw [(unhide S5).V.cell]; simp [u64s, hxv]
        have f1 : w5.frozen? ⟨qv, k, none⟩ = false := (unhide S5).V.frozen k
        have S6 := (unhide S5).set_ hg1 hqm1 hqv1 k n
        obtain ⟨mk, hmk⟩ : ∃ m, maxN k = m := ⟨_, rfl⟩
        have cm : w5.cell? ⟨qm, k, none⟩ = some (.int .u64 (mk : Int)) := by rw [(unhide S5).M.cell, most_at k hlt, hmk]
        have hml : qm < w5.heap.size := (unhide S5).M.lt
        have hvl : qv < w5.heap.size := (unhide S5).V.lt
        have hnx : ∀ j, j < k + 1 → (xs.set k n)[j]? = some (decV 0 (partK ps j)) := by
          intro j hj
          by_cases hjk : j = k
          · subst hjk
            rw [List.getElem?_set_self (by omega), unhide HPK, hnv]
          · rw [List.getElem?_set_ne (by omega), unhide HX j (by omega)]
        have SX := hide S6
        have GX := hide hgk1
        have NX := hide hnx
        have hhigh : highK ps (k + 1) = (hb || decide (mk < n)) := by rw [highK, unhide HK, hmk, unhide HPK, hnv]
        have HH := hide hhigh
        clear S6 hgk1 hnx hhigh hnv hmk
        cases hb
        · by_cases hov : mk < n
          · have hov' : ((mk : Int) < (n : Int)) = True := by simp; omega
            go_wp2_with fail
            go_roundw
            case rel => exact ⟨k + 1, true, xs.set k n, by omega, rfl, by go_num, by simp [hxl], unhide GX, by rw [unhide HH]; simp [hov], unhide NX, unhide SX⟩
            case measure => simp [intOf]; omega
          · have hov' : ((mk : Int) < (n : Int)) = False := by simp; omega
            go_wp2_with fail
            go_roundw
            case rel => exact ⟨k + 1, false, xs.set k n, by omega, rfl, by go_num, by simp [hxl], unhide GX, by rw [unhide HH]; simp [hov], unhide NX, unhide SX⟩
            case measure => simp [intOf]; omega
        · go_wp2_with fail
          go_roundw
          case rel => exact ⟨k + 1, true, xs.set k n, by omega, rfl, by go_num, by simp [hxl], unhide GX, by rw [unhide HH]; simp, unhide NX, unhide SX⟩
          case measure => simp [intOf]; omega
    · have hk6 : k = 6 := by omega
      have hkf : ((k : Int) < 6) = False := by simp; omega
      have GK6 : Hid (goodK ps 6 = true) := hide (by rw [← hk6]; exact unhide GK)
      have HK6 : Hid (highK ps 6 = hb) := hide (by rw [← hk6]; exact unhide HK)
      obtain ⟨x0, x1, x2, x3, x4, x5, rfl⟩ : ∃ x0 x1 x2 x3 x4 x5, xs = [x0, x1, x2, x3, x4, x5] := by
        rcases xs with _ | ⟨x0, _ | ⟨x1, _ | ⟨x2, _ | ⟨x3, _ | ⟨x4, _ | ⟨x5, _ | ⟨x6, t⟩⟩⟩⟩⟩⟩⟩
        all_goals try (simp at hxl; done)
        exact ⟨x0, x1, x2, x3, x4, x5, rfl⟩
      have v0 : x0 = decV 0 (partK ps 0) := Option.some.inj ((unhide HX) 0 (by omega))
      have v1 : x1 = decV 0 (partK ps 1) := Option.some.inj ((unhide HX) 1 (by omega))
      have v2 : x2 = decV 0 (partK ps 2) := Option.some.inj ((unhide HX) 2 (by omega))
      have v3 : x3 = decV 0 (partK ps 3) := Option.some.inj ((unhide HX) 3 (by omega))
      have v4 : x4 = decV 0 (partK ps 4) := Option.some.inj ((unhide HX) 4 (by omega))
      have v5 : x5 = decV 0 (partK ps 5) := Option.some.inj ((unhide HX) 5 (by omega))
      have VV := hide (⟨v0, v1, v2, v3, v4, v5⟩ : x0 = decV 0 (partK ps 0) ∧ x1 = decV 0 (partK ps 1) ∧ x2 = decV 0 (partK ps 2) ∧ x3 = decV 0 (partK ps 3) ∧ x4 = decV 0 (partK ps 4) ∧ x5 = decV 0 (partK ps 5))
      clear v0 v1 v2 v3 v4 v5 hlt hk hk6 hxl GK HK HX
      have c7 : wr.cell? ⟨g, 7, none⟩ = some (.string ⟨p7.toArray⟩) := by rw [hS.P.cell, (unhide HAT) 7 (by omega), unhide E7]; rfl
      have hgl : g < wr.heap.size := hS.P.lt
      have l7 : p7.length ≤ maxLen := by
        have h := unhide HPM p7 (by rw [← unhide E7]; simp [partK, h9])
        unfold maxLen; omega
      clear hS
      by_cases hx7 : hexF p7 = true
      rotate_left
      · have hx7' : hexF p7 = false := by simpa using hx7
        have hf : formB ps = false := form_hex (by rw [unhide E7]; exact hx7')
        have CD := hide (unhide CDB wr p7 l7 hx7')
        go_wp2_with fail
        refine (unhide CD).mono ?_
        rintro e w7 ⟨rfl, hb7⟩
        have S7 := (unhide SS).below hb7
        have R7 : Hid (Blk w7 r 26 #[.int .u16 0, .int .u32 0, .int .u16 0, .int .u8 0, .int .u8 0, .int .u8 0, .bool false, .int .u8 0, .int .u8 0, .int .u8 0]) := hide S7.R
        have B7 := hide S7.B
        clear hb7 S7 c7 hgl hx7
        go_wp2_with fail
        refine (unhide CWD _ 1 _ rfl).mono ?_
        rintro e w8 ⟨rfl, rfl⟩
        go_wp2_with fail
        refine (unhide CWD _ 111 _ rfl).mono ?_
        rintro e w8 ⟨rfl, rfl⟩
        go_wp2_with fail
        refine (unhide CWD _ 0 _ rfl).mono ?_
        rintro e w8 ⟨rfl, rfl⟩
        go_upto_region 17 with fail
        obtain ⟨W9, hW9⟩ : ∃ W9, (w7.alloc (.cells #[.int .u8 ((0 : Nat) : Int), .int .u8 ((0 : Nat) : Int), .int .u8 ((0 : Nat) : Int)] 24)).alloc (.cells #[.string ⟨(wordL 1).toArray⟩, .string ⟨(wordL 111).toArray⟩, .string ⟨(wordL 0).toArray⟩] 9) = W9 := ⟨_, rfl⟩
        have R9 : Hid (Blk W9 r 26 #[.int .u16 0, .int .u32 0, .int .u16 0, .int .u8 0, .int .u8 0, .int .u8 0, .bool false, .int .u8 0, .int .u8 0, .int .u8 0]) := hide (hW9 ▸ ((unhide R7).alloc _).alloc _)
        have B9' : Hid (Below r w W9) := hide (hW9 ▸ ((unhide B7).alloc (by have := (unhide R7).lt; omega) _).alloc (by have := (unhide R7).lt; rw [size_alloc]; omega) _)
        simp only [Int.natCast_zero] at hW9
        rw [hW9]
        clear hW9
        have hb := parse_bad (hf)
        rw [unhide HV] at hb
        injection hb with hX hx
        subst hX hx
        go_wp2_with (first
          | (refine wpList_store_blk rfl 26 (.tmp 2) (.tmp 91) rfl r 26 _ #[.int .u16 0, .int .u32 0, .int .u16 0, .int .u8 0, .int .u8 0, .int .u8 0, .bool false, .int .u8 0, .int .u8 0, .int .u8 0] rfl rfl (unhide R9) rfl (by kernel_rfl) (one_ev zeroEv) ?_
             intro w9 hb9 hg9
             have Z9 := hide hb9
             have B9 := hide ((unhide B9').grown hg9 (by have := (unhide R9).lt; have := (unhide B9').size; omega) (fun j e => by injection e with e; omega))
             clear hb9 hg9)
          | fail)
        exact bodyPost_ret (v := .tuple #[.agg zeroEv.c, .int .i64 6]) (res2 rfl _ r 26 zeroEv.c _ _ rfl rfl (unhide Z9) Tryd.underlying26 rfl (by kernel_rfl)) rfl ⟨rfl, by rw [unhide HR]; exact unhide B9⟩
      have CD := hide (unhide CDO wr p7 hx7)
      obtain ⟨d0, hd0⟩ : ∃ d, hx2 p7 0 = d := ⟨_, rfl⟩
      obtain ⟨d1, hd1⟩ : ∃ d, hx2 p7 1 = d := ⟨_, rfl⟩
      obtain ⟨d2, hd2⟩ : ∃ d, hx2 p7 2 = d := ⟨_, rfl⟩
      rw [hd0, hd1, hd2] at CD
      have HD := hide (⟨hd0, hd1, hd2⟩ : hx2 p7 0 = d0 ∧ hx2 p7 1 = d1 ∧ hx2 p7 2 = d2)
      have HX7 := hide hx7
      clear hd0 hd1 hd2 hx7
      go_wp2_with fail
      refine (unhide CD).mono ?_
      rintro e w7 ⟨rfl, hb7⟩
      have S7 := hide ((unhide SS).below hb7)
      clear hb7 c7 hgl l7
      go_wp2_with fail
      refine (unhide CWD _ 1 _ rfl).mono ?_
      rintro e w8 ⟨rfl, rfl⟩
      go_wp2_with fail
      refine (unhide CWD _ 111 _ rfl).mono ?_
      rintro e w8 ⟨rfl, rfl⟩
      go_wp2_with fail
      refine (unhide CWD _ 0 _ rfl).mono ?_
      rintro e w8 ⟨rfl, rfl⟩
      obtain ⟨W9, hW9⟩ : ∃ W9, (w7.alloc (.cells #[.int .u8 (d0 : Int), .int .u8 (d1 : Int), .int .u8 (d2 : Int)] 24)).alloc (.cells #[.string ⟨(wordL 1).toArray⟩, .string ⟨(wordL 111).toArray⟩, .string ⟨(wordL 0).toArray⟩] 9) = W9 := ⟨_, rfl⟩
      obtain ⟨qd, hqd⟩ : ∃ q, w7.heap.size = q := ⟨_, rfl⟩
      have D9 : Hid (Blk W9 qd 24 #[.int .u8 (d0 : Int), .int .u8 (d1 : Int), .int .u8 (d2 : Int)]) := hide (hqd ▸ hW9 ▸ (Blk.new w7 _ _).alloc _)
      have C9 : Hid (Blk W9 (qd + 1) 9 #[.string ⟨(wordL 1).toArray⟩, .string ⟨(wordL 111).toArray⟩, .string ⟨(wordL 0).toArray⟩]) := hide (hW9 ▸ Blk.new' (by rw [size_alloc, hqd]))
      have S9 : Hid (PS w W9 r g qm qv cur [x0, x1, x2, x3, x4, x5]) := hide (hW9 ▸ ((unhide S7).below ((Below.refl _ _).alloc (Nat.le_refl _) _)).below ((Below.refl _ _).alloc (Nat.le_refl _) _))
      have HW9 := hide hW9
      have HQD := hide hqd
      clear hW9 hqd
      go_upto_region 17 with fail
      rw [unhide HW9]
      simp only [unhide HQD]
      clear HW9 HQD S7
      obtain ⟨b8, hb8⟩ : ∃ b, wrdB p8 = b := ⟨_, rfl⟩
      have CC : Hid (Calls Tryd.prog 50 #[.slice (some ⟨qd + 1, 0, none⟩) 3 3, .string ⟨p8.toArray⟩] W9 fun e w' => e = .returned (.bool b8) ∧ W9 = w') := hide (by
        have h := Tryd.slices_Contains_string (qd + 1) 0 3 3 [⟨#[116, 104, 114, 101, 115, 104, 111, 108, 100]⟩, ⟨#[115, 116, 97, 116, 101]⟩, ⟨#[111, 116, 104, 101, 114]⟩] ⟨p8.toArray⟩ W9 (by decide) (by decide) (fun j hj => by
          rw [Nat.zero_add, (unhide C9).cell]
          simp at hj
          rcases (show j = 0 ∨ j = 1 ∨ j = 2 by omega) with rfl | rfl | rfl <;> rfl)
        refine h.mono fun e w' h => ⟨?_, h.2.symm⟩
        rw [h.1]
        have e1 : Lib.containsS ([⟨#[116, 104, 114, 101, 115, 104, 111, 108, 100]⟩, ⟨#[115, 116, 97, 116, 101]⟩, ⟨#[111, 116, 104, 101, 114]⟩].take 3) ⟨p8.toArray⟩ = wrdB p8 := by
          rw [Bool.eq_iff_iff, Lib.containsS_iff]
          simp [wrdB, wordL, ByteArray.mk.injEq]
        rw [e1, hb8])
      obtain ⟨okb, hokb⟩ : ∃ b, (sigB p6 && b8) = b := ⟨_, rfl⟩
      have HOK := hide hokb
      have HB8 := hide hb8
      have c6 : W9.cell? ⟨g, 6, none⟩ = some (.string ⟨p6.toArray⟩) := by rw [(unhide S9).P.cell, (unhide HAT) 6 (by omega), unhide E6]; rfl
      have c8 : W9.cell? ⟨g, 8, none⟩ = some (.string ⟨p8.toArray⟩) := by rw [(unhide S9).P.cell, (unhide HAT) 8 (by omega), unhide E8]; rfl
      have hgl : g < W9.heap.size := (unhide S9).P.lt
      clear hokb hb8
      go_cut [90] from 69 to 90 (fun c wx => c = .bool (!okb) ∧ wx = W9)
      case first =>
        have hokb := unhide HOK
        by_cases hs0 : p6 = [43]
        · subst hs0
          obtain rfl : b8 = okb := by rw [← hokb]; rfl
          go_wp2_with (go_at_call 50; refine (unhide CC).mono ?_; rintro e w10 ⟨rfl, rfl⟩)
          go_meet
          exact ⟨rfl, rfl⟩
        have ht0 : (p6 == [43]) = false := by simpa using hs0
        by_cases hs1 : p6 = [45]
        · subst hs1
          obtain rfl : b8 = okb := by rw [← hokb]; rfl
          go_wp2_with (go_at_call 50; refine (unhide CC).mono ?_; rintro e w10 ⟨rfl, rfl⟩)
          go_meet
          exact ⟨rfl, rfl⟩
        have ht1 : (p6 == [45]) = false := by simpa using hs1
        obtain rfl : false = okb := by rw [← hokb]; simp [sigB, hs0, hs1]
        go_wp2_with fail
        go_meet
        exact ⟨rfl, rfl⟩
      case rest =>
        obtain ⟨rfl, rfl⟩ := hcut
        have R9 : Hid (Blk wc r 26 #[.int .u16 0, .int .u32 0, .int .u16 0, .int .u8 0, .int .u8 0, .int .u8 0, .bool false, .int .u8 0, .int .u8 0, .int .u8 0]) := hide (unhide S9).R
        have B9' := hide (unhide S9).B
        clear c6 c8 CC
        cases okb
        · have hf : formB ps = false := by
            have h := unhide HOK
            simp only [Bool.and_eq_false_iff] at h
            rcases h with h | h
            · exact form_sig (by rw [unhide E6]; exact h)
            · exact form_wrd (by rw [unhide E8, unhide HB8]; exact h)
          have hb := parse_bad (hf)
          rw [unhide HV] at hb
          injection hb with hX hx
          subst hX hx
          go_wp2_with (first
            | (refine wpList_store_blk rfl 26 (.tmp 2) (.tmp 91) rfl r 26 _ #[.int .u16 0, .int .u32 0, .int .u16 0, .int .u8 0, .int .u8 0, .int .u8 0, .bool false, .int .u8 0, .int .u8 0, .int .u8 0] rfl rfl (unhide R9) rfl (by kernel_rfl) (one_ev zeroEv) ?_
               intro w9 hb9 hg9
               have Z9 := hide hb9
               have B9 := hide ((unhide B9').grown hg9 (by have := (unhide R9).lt; have := (unhide B9').size; omega) (fun j e => by injection e with e; omega))
               clear hb9 hg9)
            | fail)
          exact bodyPost_ret (v := .tuple #[.agg zeroEv.c, .int .i64 6]) (res2 rfl _ r 26 zeroEv.c _ _ rfl rfl (unhide Z9) Tryd.underlying26 rfl (by kernel_rfl)) rfl ⟨rfl, by rw [unhide HR]; exact unhide B9⟩
        have hok := unhide HOK
        simp only [Bool.and_eq_true] at hok
        have hform : formB ps = true := form_all h9 (unhide GK6) (by rw [unhide E6]; exact hok.1) (by rw [unhide E7]; exact unhide HX7) (by rw [unhide E8, unhide HB8]; exact hok.2)
        have HFORM := hide hform
        obtain ⟨ds, hds⟩ : ∃ b, (p6 == [45]) = b := ⟨_, rfl⟩
        have HDS := hide hds
        have hev : evOf ps = ⟨x0, x1, x2, x3, x4, x5, ds, d0, d1, d2⟩ := by
          have vv := unhide VV
          have dd := unhide HD
          unfold evOf
          rw [← vv.1, ← vv.2.1, ← vv.2.2.1, ← vv.2.2.2.1, ← vv.2.2.2.2.1, ← vv.2.2.2.2.2, unhide E7, unhide E6, dd.1, dd.2.1, dd.2.2]
          have hd := unhide HDS
          have e : decide (p6 = [45]) = (p6 == [45]) := by rw [Bool.eq_iff_iff]; simp
          rw [← hd, e]
        have HEV := hide hev
        clear hok hform hev
        simp only [Bool.not_true]
        cases hb
        rotate_left
        · have hb := parse_high (unhide HFORM) (unhide HK6)
          rw [unhide HV] at hb
          injection hb with hX hx
          subst hX hx
          go_wp2_with (first
            | (refine wpList_store_blk rfl 26 (.tmp 2) (.tmp 93) rfl r 26 _ #[.int .u16 0, .int .u32 0, .int .u16 0, .int .u8 0, .int .u8 0, .int .u8 0, .bool false, .int .u8 0, .int .u8 0, .int .u8 0] rfl rfl (unhide R9) rfl (by kernel_rfl) (one_ev zeroEv) ?_
               intro w9 hb9 hg9
               have Z9 := hide hb9
               have B9 := hide ((unhide B9').grown hg9 (by have := (unhide R9).lt; have := (unhide B9').size; omega) (fun j e => by injection e with e; omega))
               clear hb9 hg9)
            | fail)
          exact bodyPost_ret (v := .tuple #[.agg zeroEv.c, .int .i64 2]) (res2 rfl _ r 26 zeroEv.c _ _ rfl rfl (unhide Z9) Tryd.underlying26 rfl (by kernel_rfl)) rfl ⟨rfl, by rw [unhide HR]; exact unhide B9⟩
        have hlt := fun i hi => high_lt (unhide HK6) i hi
        have vv := unhide VV
        have u0 : x0 ≤ 65535 := by rw [vv.1]; exact hlt 0 (by omega)
        have u1 : x1 ≤ 4294967295 := by rw [vv.2.1]; exact hlt 1 (by omega)
        have u2 : x2 ≤ 65535 := by rw [vv.2.2.1]; exact hlt 2 (by omega)
        have u3' : x3 ≤ 255 := by rw [vv.2.2.2.1]; exact hlt 3 (by omega)
        have u4 : x4 ≤ 255 := by rw [vv.2.2.2.2.1]; exact hlt 4 (by omega)
        have u5' : x5 ≤ 255 := by rw [vv.2.2.2.2.2]; exact hlt 5 (by omega)
        clear hlt vv
        have wk0 : IntKind.u16.wrap (x0 : Int) = (x0 : Int) := IntWalk.u16_in _ (by omega)
        have wk1 : IntKind.u32.wrap (x1 : Int) = (x1 : Int) := IntWalk.u32_in _ (by omega)
        have wk2 : IntKind.u16.wrap (x2 : Int) = (x2 : Int) := IntWalk.u16_in _ (by omega)
        have wk3 : IntKind.u8.wrap (x3 : Int) = (x3 : Int) := IntWalk.u8_in _ (by omega)
        have wk4 : IntKind.u8.wrap (x4 : Int) = (x4 : Int) := IntWalk.u8_in _ (by omega)
        have wk5 : IntKind.u8.wrap (x5 : Int) = (x5 : Int) := IntWalk.u8_in _ (by omega)
        go_upto_region 21 with fail
        obtain ⟨W0, hW0⟩ : ∃ W0, wc = W0 := ⟨_, rfl⟩
        rw [hW0] at S9 D9 C9 R9 B9' hgl ⊢
        clear hW0
        have hS0 : Below W0.heap.size W0 W0.drew := (Below.refl _ _).drew
        refine wp_region_noPanic (wp_region_held_drew (S := fun W => Below W0.heap.size W0 W) (by kernel_rfl) hS0 (fun _ => ?_))
        refine th_take (i := 0) (v := ?_) rfl (by kernel_rfl) (by kernel_rfl) (by kernel_rfl) (Or.inl ⟨by rfl, fun wz hSw => ?_⟩) hS0 ?_
        rotate_left
        · go_simp
          with_reducible rfl
        simp only [Act.put, List.setIfInBounds_toArray, List.set_cons_zero, List.set_cons_succ]
        refine th_take (i := 1) (v := ?_) rfl (by kernel_rfl) (by kernel_rfl) (by kernel_rfl) (Or.inl ⟨by rfl, fun wz hSw => ?_⟩) hS0 ?_
        rotate_left
        · go_simp
          with_reducible rfl
        simp only [Act.put, List.setIfInBounds_toArray, List.set_cons_zero, List.set_cons_succ]
        refine th_take (i := 2) (v := .int .u64 (x0 : Int)) rfl (by kernel_rfl) (by kernel_rfl) (by kernel_rfl) (Or.inl ⟨by rfl, fun wz hSw => ?_⟩) hS0 ?_
        · have hc : wz.cell? ⟨qv, 0, none⟩ = some (.int .u64 (x0 : Int)) := by rw [((unhide S9).below hSw).V.cell]; rfl
          go_simp
        simp only [Act.put, List.setIfInBounds_toArray, List.set_cons_zero, List.set_cons_succ]
        refine th_take (i := 3) (v := .int .u16 (x0 : Int)) rfl (by kernel_rfl) (by kernel_rfl) (by kernel_rfl) (Or.inl ⟨by rfl, fun wz hSw => ?_⟩) hS0 ?_
        · skip
          go_simp
        simp only [Act.put, List.setIfInBounds_toArray, List.set_cons_zero, List.set_cons_succ]
        refine th_take (i := 4) (v := ?_) rfl (by kernel_rfl) (by kernel_rfl) (by kernel_rfl) (Or.inl ⟨by rfl, fun wz hSw => ?_⟩) hS0 ?_
        rotate_left
        · go_simp
          with_reducible rfl
        simp only [Act.put, List.setIfInBounds_toArray, List.set_cons_zero, List.set_cons_succ]
        refine th_take (i := 5) (v := ?_) rfl (by kernel_rfl) (by kernel_rfl) (by kernel_rfl) (Or.inl ⟨by rfl, fun wz hSw => ?_⟩) hS0 ?_
        rotate_left
        · go_simp
          with_reducible rfl
        simp only [Act.put, List.setIfInBounds_toArray, List.set_cons_zero, List.set_cons_succ]
        refine th_take (i := 6) (v := .int .u64 (x1 : Int)) rfl (by kernel_rfl) (by kernel_rfl) (by kernel_rfl) (Or.inl ⟨by rfl, fun wz hSw => ?_⟩) hS0 ?_
        · have hc : wz.cell? ⟨qv, 1, none⟩ = some (.int .u64 (x1 : Int)) := by rw [((unhide S9).below hSw).V.cell]; rfl
          go_simp
        simp only [Act.put, List.setIfInBounds_toArray, List.set_cons_zero, List.set_cons_succ]
        refine th_take (i := 7) (v := .int .u32 (x1 : Int)) rfl (by kernel_rfl) (by kernel_rfl) (by kernel_rfl) (Or.inl ⟨by rfl, fun wz hSw => ?_⟩) hS0 ?_
        · skip
          go_simp
        simp only [Act.put, List.setIfInBounds_toArray, List.set_cons_zero, List.set_cons_succ]
        refine th_take (i := 8) (v := ?_) rfl (by kernel_rfl) (by kernel_rfl) (by kernel_rfl) (Or.inl ⟨by rfl, fun wz hSw => ?_⟩) hS0 ?_
        rotate_left
        · go_simp
          with_reducible rfl
        simp only [Act.put, List.setIfInBounds_toArray, List.set_cons_zero, List.set_cons_succ]
        refine th_take (i := 9) (v := ?_) rfl (by kernel_rfl) (by kernel_rfl) (by kernel_rfl) (Or.inl ⟨by rfl, fun wz hSw => ?_⟩) hS0 ?_
        rotate_left
        · go_simp
          with_reducible rfl
        simp only [Act.put, List.setIfInBounds_toArray, List.set_cons_zero, List.set_cons_succ]
        refine th_take (i := 10) (v := .int .u64 (x2 : Int)) rfl (by kernel_rfl) (by kernel_rfl) (by kernel_rfl) (Or.inl ⟨by rfl, fun wz hSw => ?_⟩) hS0 ?_
        · have hc : wz.cell? ⟨qv, 2, none⟩ = some (.int .u64 (x2 : Int)) := by rw [((unhide S9).below hSw).V.cell]; rfl
          go_simp
        simp only [Act.put, List.setIfInBounds_toArray, List.set_cons_zero, List.set_cons_succ]
        refine th_take (i := 11) (v := .int .u16 (x2 : Int)) rfl (by kernel_rfl) (by kernel_rfl) (by kernel_rfl) (Or.inl ⟨by rfl, fun wz hSw => ?_⟩) hS0 ?_
        · skip
          go_simp
        simp only [Act.put, List.setIfInBounds_toArray, List.set_cons_zero, List.set_cons_succ]
        refine th_take (i := 12) (v := ?_) rfl (by kernel_rfl) (by kernel_rfl) (by kernel_rfl) (Or.inl ⟨by rfl, fun wz hSw => ?_⟩) hS0 ?_
        rotate_left
        · go_simp
          with_reducible rfl
        simp only [Act.put, List.setIfInBounds_toArray, List.set_cons_zero, List.set_cons_succ]
        refine th_take (i := 13) (v := ?_) rfl (by kernel_rfl) (by kernel_rfl) (by kernel_rfl) (Or.inl ⟨by rfl, fun wz hSw => ?_⟩) hS0 ?_
        rotate_left
        · go_simp
          with_reducible rfl
        simp only [Act.put, List.setIfInBounds_toArray, List.set_cons_zero, List.set_cons_succ]
        refine th_take (i := 14) (v := .int .u64 (x3 : Int)) rfl (by kernel_rfl) (by kernel_rfl) (by kernel_rfl) (Or.inl ⟨by rfl, fun wz hSw => ?_⟩) hS0 ?_
        · have hc : wz.cell? ⟨qv, 3, none⟩ = some (.int .u64 (x3 : Int)) := by rw [((unhide S9).below hSw).V.cell]; rfl
          go_simp
        simp only [Act.put, List.setIfInBounds_toArray, List.set_cons_zero, List.set_cons_succ]
        refine th_take (i := 15) (v := .int .u8 (x3 : Int)) rfl (by kernel_rfl) (by kernel_rfl) (by kernel_rfl) (Or.inl ⟨by rfl, fun wz hSw => ?_⟩) hS0 ?_
        · skip
          go_simp
        simp only [Act.put, List.setIfInBounds_toArray, List.set_cons_zero, List.set_cons_succ]
        refine th_take (i := 16) (v := ?_) rfl (by kernel_rfl) (by kernel_rfl) (by kernel_rfl) (Or.inl ⟨by rfl, fun wz hSw => ?_⟩) hS0 ?_
        rotate_left
        · go_simp
          with_reducible rfl
        simp only [Act.put, List.setIfInBounds_toArray, List.set_cons_zero, List.set_cons_succ]
        refine th_take (i := 17) (v := ?_) rfl (by kernel_rfl) (by kernel_rfl) (by kernel_rfl) (Or.inl ⟨by rfl, fun wz hSw => ?_⟩) hS0 ?_
        rotate_left
        · go_simp
          with_reducible rfl
        simp only [Act.put, List.setIfInBounds_toArray, List.set_cons_zero, List.set_cons_succ]
        refine th_take (i := 18) (v := .int .u64 (x4 : Int)) rfl (by kernel_rfl) (by kernel_rfl) (by kernel_rfl) (Or.inl ⟨by rfl, fun wz hSw => ?_⟩) hS0 ?_
        · have hc : wz.cell? ⟨qv, 4, none⟩ = some (.int .u64 (x4 : Int)) := by rw [((unhide S9).below hSw).V.cell]; rfl
          go_simp
        simp only [Act.put, List.setIfInBounds_toArray, List.set_cons_zero, List.set_cons_succ]
        refine th_take (i := 19) (v := .int .u8 (x4 : Int)) rfl (by kernel_rfl) (by kernel_rfl) (by kernel_rfl) (Or.inl ⟨by rfl, fun wz hSw => ?_⟩) hS0 ?_
        · skip
          go_simp
        simp only [Act.put, List.setIfInBounds_toArray, List.set_cons_zero, List.set_cons_succ]
        refine th_take (i := 20) (v := ?_) rfl (by kernel_rfl) (by kernel_rfl) (by kernel_rfl) (Or.inl ⟨by rfl, fun wz hSw => ?_⟩) hS0 ?_
        rotate_left
        · go_simp
          with_reducible rfl
        simp only [Act.put, List.setIfInBounds_toArray, List.set_cons_zero, List.set_cons_succ]
        refine th_take (i := 21) (v := ?_) rfl (by kernel_rfl) (by kernel_rfl) (by kernel_rfl) (Or.inl ⟨by rfl, fun wz hSw => ?_⟩) hS0 ?_
        rotate_left
        · go_simp
          with_reducible rfl
        simp only [Act.put, List.setIfInBounds_toArray, List.set_cons_zero, List.set_cons_succ]
        refine th_take (i := 22) (v := .int .u64 (x5 : Int)) rfl (by kernel_rfl) (by kernel_rfl) (by kernel_rfl) (Or.inl ⟨by rfl, fun wz hSw => ?_⟩) hS0 ?_
        · have hc : wz.cell? ⟨qv, 5, none⟩ = some (.int .u64 (x5 : Int)) := by rw [((unhide S9).below hSw).V.cell]; rfl
          go_simp
        simp only [Act.put, List.setIfInBounds_toArray, List.set_cons_zero, List.set_cons_succ]
        refine th_take (i := 23) (v := .int .u8 (x5 : Int)) rfl (by kernel_rfl) (by kernel_rfl) (by kernel_rfl) (Or.inl ⟨by rfl, fun wz hSw => ?_⟩) hS0 ?_
        · skip
          go_simp
        simp only [Act.put, List.setIfInBounds_toArray, List.set_cons_zero, List.set_cons_succ]
        refine th_take (i := 24) (v := ?_) rfl (by kernel_rfl) (by kernel_rfl) (by kernel_rfl) (Or.inl ⟨by rfl, fun wz hSw => ?_⟩) hS0 ?_
        rotate_left
        · go_simp
          with_reducible rfl
        simp only [Act.put, List.setIfInBounds_toArray, List.set_cons_zero, List.set_cons_succ]
        refine th_take (i := 25) (v := ?_) rfl (by kernel_rfl) (by kernel_rfl) (by kernel_rfl) (Or.inl ⟨by rfl, fun wz hSw => ?_⟩) hS0 ?_
        rotate_left
        · go_simp
          with_reducible rfl
        simp only [Act.put, List.setIfInBounds_toArray, List.set_cons_zero, List.set_cons_succ]
        refine th_take (i := 26) (v := .string ⟨p6.toArray⟩) rfl (by kernel_rfl) (by kernel_rfl) (by kernel_rfl) (Or.inl ⟨by rfl, fun wz hSw => ?_⟩) hS0 ?_
        · have hc : wz.cell? ⟨g, 6, none⟩ = some (.string ⟨p6.toArray⟩) := by rw [((unhide S9).below hSw).P.cell, (unhide HAT) 6 (by omega), unhide E6]; rfl
          go_simp
        simp only [Act.put, List.setIfInBounds_toArray, List.set_cons_zero, List.set_cons_succ]
        refine th_take (i := 27) (v := .bool ds) rfl (by kernel_rfl) (by kernel_rfl) (by kernel_rfl) (Or.inl ⟨by rfl, fun wz hSw => ?_⟩) hS0 ?_
        · skip
          go_simp
        simp only [Act.put, List.setIfInBounds_toArray, List.set_cons_zero, List.set_cons_succ]
        refine th_take (i := 28) rfl (by kernel_rfl) (by kernel_rfl) (by kernel_rfl) (y_loadblk 24 (.tmp 11) (by rfl) rfl qd rfl 24 #[.int .u8 (d0 : Int), .int .u8 (d1 : Int), .int .u8 (d2 : Int)] _ (fun _ h => (unhide D9).below h (unhide D9).lt) Tryd.underlying24 rfl (by kernel_rfl)) hS0 ?_
        simp only [Act.put, List.setIfInBounds_toArray, List.set_cons_zero, List.set_cons_succ]
        refine th_take (i := 29) (v := ?_) rfl (by kernel_rfl) (by kernel_rfl) (by kernel_rfl) (Or.inl ⟨by rfl, fun wz hSw => ?_⟩) hS0 ?_
        rotate_left
        · go_simp
          with_reducible rfl
        simp only [Act.put, List.setIfInBounds_toArray, List.set_cons_zero, List.set_cons_succ]
        refine th_one (i := 30) rfl (by kernel_rfl) (fun K hK => ?_)
        rw [if_pos (by rfl)]
        go_simp
        have hZ : Blk (W0.drew.alloc (.cells #[.int .u16 0, .int .u32 0, .int .u16 0, .int .u8 0, .int .u8 0, .int .u8 0, .bool false, .int .u8 0, .int .u8 0, .int .u8 0] 26)) W0.heap.size 26 #[.int .u16 0, .int .u32 0, .int .u16 0, .int .u8 0, .int .u8 0, .int .u8 0, .bool false, .int .u8 0, .int .u8 0, .int .u8 0] := Blk.new W0.drew _ _
        have hSa : Below W0.heap.size W0 (W0.drew.alloc (.cells #[.int .u16 0, .int .u32 0, .int .u16 0, .int .u8 0, .int .u8 0, .int .u8 0, .bool false, .int .u8 0, .int .u8 0, .int .u8 0] 26)) := hS0.alloc (Nat.le_refl _) _
        refine hK.out _ _ hSa (fun _ => ?_)
        clear hK K
        try simp only [Act.put, List.setIfInBounds_toArray, List.set_cons_zero, List.set_cons_succ]
        refine th_one (i := 31) rfl (by kernel_rfl) (fun K hK => ?_)
        refine step_store_blk (by rfl) 26 (.tmp 14) (.tmp 123) rfl W0.heap.size 26 _ #[.int .u16 (x0 : Int), .int .u32 (x1 : Int), .int .u16 (x2 : Int), .int .u8 (x3 : Int), .int .u8 (x4 : Int), .int .u8 (x5 : Int), .bool ds, .int .u8 (d0 : Int), .int .u8 (d1 : Int), .int .u8 (d2 : Int)] rfl rfl hZ rfl (by kernel_rfl) (one_ev (Ev.mk x0 x1 x2 x3 x4 x5 ds d0 d1 d2)) ?_
        intro w7' hb7' hg7
        have hS7 : Below W0.heap.size W0 w7' := hSa.grown hg7 (by simp only [size_alloc]; exact Nat.le_succ _) (fun j e => by injection e with e; omega)
        refine hK.out _ _ hS7 (fun _ => ?_)
        clear hK K
        try simp only [Act.put]
        refine wpAnyH_done (by kernel_rfl) (NoPanic.normal ?_) _
        obtain ⟨qe, hqe⟩ : ∃ q, W0.heap.size = q := ⟨_, rfl⟩
        have EA := hide (hqe ▸ hb7')
        have SA := hide ((unhide S9).below hS7)
        rw [hqe]
        clear hb7' hg7 hS7 hSa hZ hS0 hqe wk0 wk1 wk2 wk3 wk4 wk5
        go_upto_region 22 with fail
        obtain ⟨wl, hwl⟩ : ∃ l, wordL (x5 : Int) = l := ⟨_, rfl⟩
        have HWL := hide hwl
        have hin : Nonempty (InClass (fun W => Below w7'.heap.size w7' W)) := ⟨⟨_, Below.refl _ _⟩⟩
        have K1 : Hid (∀ x' : InClass (fun W => Below w7'.heap.size w7' W), Calls Tryd.prog 42 #[.int .u8 (x5 : Int)] x'.val fun e w'' => e = .returned (.string ⟨wl.toArray⟩) ∧ ∃ y' : InClass (fun W => Below w7'.heap.size w7' W), w'' = y'.val) := hide fun x' => (unhide CWD x'.val (x5 : Int) wl hwl).mono fun e w'' h => ⟨h.1, x', h.2.symm⟩
        have G0 : Hid (∀ x' : InClass (fun W => Below w7'.heap.size w7' W), x'.val.cell? ⟨g, 8, none⟩ = some (.string ⟨p8.toArray⟩)) := hide fun x' => by rw [((unhide SA).below x'.ok).P.cell, (unhide HAT) 8 (by omega), unhide E8]; rfl
        have G1 : Hid (∀ x' : InClass (fun W => Below w7'.heap.size w7' W), x'.val.cell? ⟨qe, 5, none⟩ = some (.int .u8 (x5 : Int))) := hide fun x' => ((unhide EA).below x'.ok (unhide EA).lt).cell 5
        have hS0 := hide ((Below.refl w7'.heap.size w7').drew)
        obtain ⟨eqb, heq⟩ : ∃ b, (wl == p8) = b := ⟨_, rfl⟩
        have HEQ := hide heq
        clear hwl hgl
        refine wp_region_class (fun W => Below w7'.heap.size w7' W) (by kernel_rfl) (by kernel_rfl) (unhide hS0) ?_
        have g0 := unhide G0
        have g1 := unhide G1
        repeat (go_big_quiet_step ((go_at_call 42; exact (unhide K1) _)))
        refine wpQuiet_nil ?_
        intro _ hw'
        obtain ⟨x13, hw''⟩ := hw'
        subst hw''
        have EB := hide ((unhide EA).below x13.ok (unhide EA).lt)
        have SB := hide ((unhide SA).below x13.ok)
        clear g0 g1 G0 G1 K1
        obtain ⟨WB, hWB⟩ : ∃ W9, x13.val = W9 := ⟨_, rfl⟩
        rw [hWB] at EB SB ⊢
        clear hWB hin hS0 heq
        have RB : Hid (Blk WB r 26 #[.int .u16 0, .int .u32 0, .int .u16 0, .int .u8 0, .int .u8 0, .int .u8 0, .bool false, .int .u8 0, .int .u8 0, .int .u8 0]) := hide (unhide SB).R
        have BB := hide (unhide SB).B
        cases eqb
        · have hne8 : wordL (evOf ps).ty ≠ partK ps 8 := by
            rw [unhide HEV, unhide E8]
            show wordL (x5 : Int) ≠ p8
            rw [unhide HWL]
            intro h
            have := unhide HEQ
            rw [h] at this
            simp at this
          have hb := parse_word (unhide HFORM) (unhide HK6) hne8
          rw [unhide HV] at hb
          injection hb with hX hx
          subst hX hx
          go_wp2_with (first
            | (refine wpList_store_blk rfl 26 (.tmp 2) (.tmp 132) rfl r 26 _ #[.int .u16 0, .int .u32 0, .int .u16 0, .int .u8 0, .int .u8 0, .int .u8 0, .bool false, .int .u8 0, .int .u8 0, .int .u8 0] rfl rfl (unhide RB) rfl (by kernel_rfl) (one_ev zeroEv) ?_
               intro w9 hb9 hg9
               have Z9 := hide hb9
               have B9 := hide ((unhide BB).grown hg9 (by have := (unhide RB).lt; have := (unhide BB).size; omega) (fun j e => by injection e with e; omega))
               clear hb9 hg9)
            | fail)
          exact bodyPost_ret (v := .tuple #[.agg zeroEv.c, .int .i64 6]) (res2 rfl _ r 26 zeroEv.c _ _ rfl rfl (unhide Z9) Tryd.underlying26 rfl (by kernel_rfl)) rfl ⟨rfl, by rw [unhide HR]; exact unhide B9⟩
        have heq8 : wordL (evOf ps).ty = partK ps 8 := by
          rw [unhide HEV, unhide E8]
          show wordL (x5 : Int) = p8
          rw [unhide HWL]
          have h : wl = p8 := by simpa using unhide HEQ
          exact h
        have HEQ8 := hide heq8
        obtain ⟨vb, hvb⟩ : ∃ b, validE ⟨x0, x1, x2, x3, x4, x5, ds, d0, d1, d2⟩ = b := ⟨_, rfl⟩
        have CV := hide fun W => unhide CVA W ⟨x0, x1, x2, x3, x4, x5, ds, d0, d1, d2⟩ vb hvb
        simp only [Ev.c] at CV
        have HVB := hide hvb
        clear heq8 hvb
        have m0 : WB.cell? ⟨qe, 0, none⟩ = some (.int .u16 (x0 : Int)) := (unhide EB).cell 0
        have m1 : WB.cell? ⟨qe, 1, none⟩ = some (.int .u32 (x1 : Int)) := (unhide EB).cell 1
        have m2 : WB.cell? ⟨qe, 2, none⟩ = some (.int .u16 (x2 : Int)) := (unhide EB).cell 2
        have m3 : WB.cell? ⟨qe, 3, none⟩ = some (.int .u8 (x3 : Int)) := (unhide EB).cell 3
        have m4 : WB.cell? ⟨qe, 4, none⟩ = some (.int .u8 (x4 : Int)) := (unhide EB).cell 4
        have m5 : WB.cell? ⟨qe, 5, none⟩ = some (.int .u8 (x5 : Int)) := (unhide EB).cell 5
        have m6 : WB.cell? ⟨qe, 6, none⟩ = some (.bool ds) := (unhide EB).cell 6
        have m7 : WB.cell? ⟨qe, 7, none⟩ = some (.int .u8 (d0 : Int)) := (unhide EB).cell 7
        have m8 : WB.cell? ⟨qe, 8, none⟩ = some (.int .u8 (d1 : Int)) := (unhide EB).cell 8
        have m9 : WB.cell? ⟨qe, 9, none⟩ = some (.int .u8 (d2 : Int)) := (unhide EB).cell 9
        have hqel9 : qe < WB.heap.size := (unhide EB).lt
        go_wp2_with fail
        refine (unhide CV _).mono ?_
        rintro e w10 ⟨rfl, hw10⟩
        obtain ⟨W10, hW10⟩ : ∃ W, WB.alloc (.cells #[.int .u16 (x0 : Int), .int .u32 (x1 : Int), .int .u16 (x2 : Int), .int .u8 (x3 : Int), .int .u8 (x4 : Int), .int .u8 (x5 : Int), .bool ds, .int .u8 (d0 : Int), .int .u8 (d1 : Int), .int .u8 (d2 : Int)] 26) = W := ⟨_, rfl⟩
        rw [hW10] at hw10
        subst hw10
        have hbb : Below WB.heap.size WB w10 := hW10 ▸ (Below.refl WB.heap.size WB).alloc (Nat.le_refl _) _
        have E10 := hide ((unhide EB).below hbb (unhide EB).lt)
        have S10 := (unhide SB).below hbb
        have R10 : Hid (Blk w10 r 26 #[.int .u16 0, .int .u32 0, .int .u16 0, .int .u8 0, .int .u8 0, .int .u8 0, .bool false, .int .u8 0, .int .u8 0, .int .u8 0]) := hide S10.R
        have B10 := hide S10.B
        clear hbb S10 hW10 hqel9 m0 m1 m2 m3 m4 m5 m6 m7 m8 m9
        cases vb
        · have hb := parse_inv (unhide HFORM) (unhide HK6) (unhide HEQ8) (by rw [unhide HEV]; exact unhide HVB)
          rw [unhide HV] at hb
          injection hb with hX hx
          subst hX hx
          go_wp2_with (first
            | (refine wpList_store_blk rfl 26 (.tmp 2) (.tmp 137) rfl r 26 _ #[.int .u16 0, .int .u32 0, .int .u16 0, .int .u8 0, .int .u8 0, .int .u8 0, .bool false, .int .u8 0, .int .u8 0, .int .u8 0] rfl rfl (unhide R10) rfl (by kernel_rfl) (one_ev zeroEv) ?_
               intro w9 hb9 hg9
               have Z9 := hide hb9
               have B9 := hide ((unhide B10).grown hg9 (by have := (unhide R10).lt; have := (unhide B10).size; omega) (fun j e => by injection e with e; omega))
               clear hb9 hg9)
            | fail)
          exact bodyPost_ret (v := .tuple #[.agg zeroEv.c, .int .i64 1]) (res2 rfl _ r 26 zeroEv.c _ _ rfl rfl (unhide Z9) Tryd.underlying26 rfl (by kernel_rfl)) rfl ⟨rfl, by rw [unhide HR]; exact unhide B9⟩
        have hb := parse_good (unhide HFORM) (unhide HK6) (unhide HEQ8) (by rw [unhide HEV]; exact unhide HVB)
        rw [unhide HV, unhide HEV] at hb
        injection hb with hX hx
        subst hX hx
        have m0 : w10.cell? ⟨qe, 0, none⟩ = some (.int .u16 (x0 : Int)) := (unhide E10).cell 0
        have m1 : w10.cell? ⟨qe, 1, none⟩ = some (.int .u32 (x1 : Int)) := (unhide E10).cell 1
        have m2 : w10.cell? ⟨qe, 2, none⟩ = some (.int .u16 (x2 : Int)) := (unhide E10).cell 2
        have m3 : w10.cell? ⟨qe, 3, none⟩ = some (.int .u8 (x3 : Int)) := (unhide E10).cell 3
        have m4 : w10.cell? ⟨qe, 4, none⟩ = some (.int .u8 (x4 : Int)) := (unhide E10).cell 4
        have m5 : w10.cell? ⟨qe, 5, none⟩ = some (.int .u8 (x5 : Int)) := (unhide E10).cell 5
        have m6 : w10.cell? ⟨qe, 6, none⟩ = some (.bool ds) := (unhide E10).cell 6
        have m7 : w10.cell? ⟨qe, 7, none⟩ = some (.int .u8 (d0 : Int)) := (unhide E10).cell 7
        have m8 : w10.cell? ⟨qe, 8, none⟩ = some (.int .u8 (d1 : Int)) := (unhide E10).cell 8
        have m9 : w10.cell? ⟨qe, 9, none⟩ = some (.int .u8 (d2 : Int)) := (unhide E10).cell 9
        have hqel10 : qe < w10.heap.size := (unhide E10).lt
        go_wp2_with (first
          | (refine wpList_store_blk rfl 26 (.tmp 2) (.tmp 138) rfl r 26 _ #[.int .u16 (x0 : Int), .int .u32 (x1 : Int), .int .u16 (x2 : Int), .int .u8 (x3 : Int), .int .u8 (x4 : Int), .int .u8 (x5 : Int), .bool ds, .int .u8 (d0 : Int), .int .u8 (d1 : Int), .int .u8 (d2 : Int)] rfl rfl (unhide R10) rfl (by kernel_rfl) (one_ev (Ev.mk x0 x1 x2 x3 x4 x5 ds d0 d1 d2)) ?_
             intro w9 hb9 hg9
             have Z9 := hide hb9
             have B9 := hide ((unhide B10).grown hg9 (by have := (unhide R10).lt; have := (unhide B10).size; omega) (fun j e => by injection e with e; omega))
             clear hb9 hg9)
          | fail)
        exact bodyPost_ret (v := .tuple #[.agg (Ev.mk x0 x1 x2 x3 x4 x5 ds d0 d1 d2).c, .int .i64 0]) (res2 rfl _ r 26 (Ev.mk x0 x1 x2 x3 x4 x5 ds d0 d1 d2).c _ _ rfl rfl (unhide Z9) Tryd.underlying26 rfl (by kernel_rfl)) rfl ⟨rfl, by rw [unhide HR]; exact unhide B9⟩
end Go.Proofs.YtklffnfaigmjfaaDoor
