/- The law SiphashDerives, walked: it returns true; nothing that was there turns. -/
import Derived.Test.YtaopgieejgcbeaaRDerive
import Derived.Test.YtaopgieejgcbeaaAwake
import Derived.Test.YtaopgieejgcbeaaLePlain
namespace Go.Proofs.Ytaopgieejgcbeaa
open Go.RowKit
theorem Own.ne_blk {w : World} {base size n g : Nat} {e t : TypeId} {v : Value} {xs : List Value} {cs : Array Value} (h : Own w base e size v n xs) (hg : Blk w g t cs) (hne : e ≠ t) : v.ownBlock ≠ some g := by
  rcases h.2 with ⟨rfl, _⟩ | ⟨g', cap, cur, fr, rfl, _, hh, _⟩
  · simp [Value.ownBlock]
  · intro he
    have : g' = g := by simpa [Value.ownBlock] using he
    subst this
    unfold Blk at hg
    rw [hh] at hg
    injection hg with hg
    injection hg with _ ht
    exact hne ht
/-- append of one element, told by 'only the row's own block and what is new'. -/
theorem wpList_append1_G {P : Program} (w0 : World) {ops : Array Oper} {rest : List Oper} {o : Oper} {a : Act} {Q : Exit → Act → World → Prop} (s x : Operand) (t : TypeId) (v u : Value)
    (ho : o.op = .call { callee := .builtin .append, args := #[s, x], argTypes := #[t, t] }) (hgd : o.guard = none) (hs : a.eval s = v) (hx : a.eval x = .slice (some ⟨w0.heap.size, 0, none⟩) 1 1)
    (base : Nat) (e : TypeId) (i : TypeInfo) (z : Value) (bytes : Nat) (ht : P.underlying t = some (.slice e)) (hi : P.info? e = some i) (hz : i.zero = some z)
    (hsize : i.size = 1) (hby : i.bytes = bytes) (hzs : z.cells.size = 1)
    (n : Nat) (xs : List Value) (hown : Own w0 base e 1 v n xs) (h1 : u.oneCell' = true)
    (h63 : n + 1 ≤ maxLen) (hbytes : (n + 1) * bytes ≤ 140737488355328) (hbase : base ≤ w0.heap.size)
    (h : ∀ v' w', Own w' base e 1 v' (n + 1) (xs ++ [u]) → w0.grownBy w' v.ownBlock → wpList P ops Q rest (a.put o.dst v') w') :
    wpList P ops Q (o :: rest) a (w0.alloc (.cells #[u] e)) := by
  have hr : Reads (w0.alloc (.cells #[u] e)) (w0.heap.size + 1) 1 (some ⟨w0.heap.size, 0, none⟩) 1 [u] := by
    have := Reads.of_blk (B := w0.heap.size + 1) (Blk.new w0 e #[u]) 0 1 (by simp) (Nat.lt_succ_self _)
    simpa using this
  exact wpList_append_O _ s x t v _ 1 1 ho hgd hs hx base e i z 1 bytes ht hi hz hsize hby hzs (by omega) n xs (hown.alloc _) _ [u] hr (by simpa using h1) h63 hbytes (by rw [size_alloc]; omega)
    fun v' w' h2 _ _ h5 => h v' w' h2 (World.grownBy.trans (only_alloc (World.grownBy.refl w0 _) _) h5)
def numJ (x y : Int) (j : Nat) : Int := if j = 0 then x else y
def textP (label : List UInt8) (x y : Int) (j i : Nat) : List UInt8 := label ++ [0] ++ (if j = 0 then leB x i else leB x 8 ++ leB y i)
theorem textP_next (label : List UInt8) (x y : Int) (j : Nat) (h : j < 2) : textP label x y j 8 = if j = 0 then textP label x y 1 0 else textF label x y := by
  have h : j = 0 ∨ j = 1 := by omega
  rcases h with rfl | rfl <;> simp [textP, textF, leB]
theorem textP_step (label : List UInt8) (x y : Int) (j i : Nat) (h : j < 2) : bsV (textP label x y j (i + 1)) = bsV (textP label x y j i) ++ [.int .u8 (IntKind.u8.wrap (numJ x y j / 2 ^ (8 * i)))] := by
  have h : j = 0 ∨ j = 1 := by omega
  rcases h with rfl | rfl <;> simp [textP, numJ, leB, List.range_succ, byteAt_eq]
def textQ (label : List UInt8) (x y : Int) (j : Nat) : List UInt8 := if j < 2 then textP label x y j 0 else textF label x y
theorem textQ_next (label : List UInt8) (x y : Int) (j : Nat) (h : j < 2) : textP label x y j 8 = textQ label x y (j + 1) := by
  have h : j = 0 ∨ j = 1 := by omega
  rcases h with rfl | rfl <;> simp [textP, textQ, textF, leB]
set_option maxRecDepth 100000 in
set_option maxHeartbeats 2000000 in
theorem derives_long (w : World) (ks : List UInt8) (s : ByteArray) (x y : Int) (hlen : 300 < s.size) :
    Calls Try.prog 4 #[.agg (bsV ks).toArray, .string s, .int .u64 x, .int .u64 y] w fun e w' => e = .returned (.bool true) ∧ Below w.heap.size w w' := by
  have HA := hide awake_any
  go_enter Try.func4, Try.ntmps4
  go_wp2_with fail
  refine (unhide HA _).mono ?_
  rintro e w1 ⟨rfl, hb1⟩
  have HB1 := hide (((Below.refl w.heap.size w).alloc (Nat.le_refl _) (.cells (bsV ks).toArray 23)).trans (hb1.mono (by rw [size_alloc]; omega)))
  clear hb1
  go_wp2_with fail
  go_ret
  exact ⟨rfl, unhide HB1⟩
set_option maxRecDepth 100000 in
set_option maxHeartbeats 4000000 in
theorem derives_short (w : World) (ks : List UInt8) (hk : ks.length = 16) (s : ByteArray) (hlen : s.size ≤ 300) (x y : Int) (hx : 0 ≤ x) (hy : 0 ≤ y) :
    Calls Try.prog 4 #[.agg (bsV ks).toArray, .string s, .int .u64 x, .int .u64 y] w fun e w' => e = .returned (.bool true) ∧ Below w.heap.size w w' := by
  obtain ⟨i0, hi, hz0, hz1, hz2⟩ := info_parts info_b
  have HK := hide hk
  have HA := hide awake_any
  clear hk
  go_enter Try.func4, Try.ntmps4
  go_wp2_with fail
  refine (unhide HA _).mono ?_
  rintro e w1 ⟨rfl, hb1⟩
  have hs1 := hb1.size
  have HKB := hide ((Blk.new w 23 (bsV ks).toArray).below hb1 (by rw [size_alloc]; omega))
  have HB1 := hide (((Below.refl w.heap.size w).alloc (Nat.le_refl _) (.cells (bsV ks).toArray 23)).trans (hb1.mono (by rw [size_alloc]; omega)))
  rw [size_alloc] at hs1
  clear hb1
  go_wp2_with (first
    | (refine wpList_str_bytes _ (.tmp 22) 9 24 5 s rfl rfl rfl Try.underlying9 Try.underlying24 Try.underlying5 w1.heap.size (Nat.le_refl _) (by unfold maxLen; omega) ?_
       intro v2 w2 ho2 hb2
       have HO2 := hide ho2
       have HB2 := hide hb2
       have hsz2 : w1.heap.size ≤ w2.heap.size := hb2.size
       clear ho2 hb2)
    | (at_builtin; refine wpList_append1_O w2 (.tmp 23) (.tmp 24) 24 v2 (.int .u8 0) rfl rfl rfl rfl w1.heap.size 5 i0 (.int .u8 0) 1 Try.underlying24 hi hz0 hz1 hz2 rfl s.size _ (unhide HO2) rfl (by unfold maxLen; omega) (by omega) hsz2 ?_
       intro v3 w3 ho3 _ hb3
       have HO3 := hide ho3
       have hb3' := (unhide HB2).trans hb3
       have HB3 := hide hb3'
       have hsz3 : w1.heap.size ≤ w3.heap.size := hb3'.size
       clear ho3 hb3 hb3')
    | fail)
  have hX := Blk.new w3 29 #[.int .u64 x, .int .u64 y]
  have HX := hide hX
  have ho3 := unhide HO3
  have htext : (s.data.toList.map fun b => Value.int .u8 (b.toNat : Int)) ++ [.int .u8 0] = bsV (textQ s.data.toList x y 0) := by simp [textQ, textP, leB, bsV]
  rw [htext] at ho3
  have HO4 := hide (ho3.alloc (.cells #[.int .u64 x, .int .u64 y] 29))
  have HKB3 := hide (((unhide HKB).below (unhide HB3) (by omega)).alloc (.cells #[.int .u64 x, .int .u64 y] 29))
  have HB4 := hide (((unhide HB1).trans ((unhide HB3).mono (by omega))).alloc (by omega) (.cells #[.int .u64 x, .int .u64 y] 29))
  clear hX ho3 htext
  go_loopw [9, 30] (fun v i wr => ∃ j : Nat, j ≤ 2 ∧ i = .int .i64 j ∧ Own wr w1.heap.size 5 1 v (s.size + 1 + 8 * j) (bsV (textQ s.data.toList x y j)) ∧ Blk wr w3.heap.size 29 #[.int .u64 x, .int .u64 y] ∧ Blk wr w.heap.size 23 (bsV ks).toArray ∧ Below w.heap.size w wr ∧ w1.heap.size ≤ wr.heap.size)
    (fun _ i _ => 2 - (intOf i).toNat)
  case atStart => exact ⟨0, by omega, rfl, unhide HO4, unhide HX, unhide HKB3, unhide HB4, by rw [size_alloc]; omega⟩
  case round =>
    obtain ⟨j, hj, rfl, hown, hX, hK, hg, hszj⟩ := hrel
    by_cases hlt : j < 2
    · have hcell : wr.cell? ⟨w3.heap.size, j, none⟩ = some (.int .u64 (numJ x y j)) := by
        have h2 : j = 0 ∨ j = 1 := by omega
        rcases h2 with rfl | rfl <;> simp [hX.cell, numJ]
      have hfr := hX.frozen j
      have hq : textQ s.data.toList x y j = textP s.data.toList x y j 0 := by simp [textQ, hlt]
      rw [hq] at hown
      have hn0 : 0 ≤ numJ x y j := by unfold numJ; split <;> assumption
      have HO := hide hown
      have HX1 := hide hX
      have HK1 := hide hK
      have HG := hide hg
      clear hown hX hK hg hq
      go_wp2_with fail
      rw [show decide ((j : Int) < 2) = true from by simp; omega]
      go_loopw [9, 12] (fun v i wi => ∃ k : Nat, k ≤ 8 ∧ i = .int .i64 k ∧ Own wi w1.heap.size 5 1 v (s.size + 1 + 8 * j + k) (bsV (textP s.data.toList x y j k)) ∧ Blk wi w3.heap.size 29 #[.int .u64 x, .int .u64 y] ∧ Blk wi w.heap.size 23 (bsV ks).toArray ∧ Below w.heap.size w wi ∧ w1.heap.size ≤ wi.heap.size)
        (fun _ i _ => 8 - (intOf i).toNat)
      case atStart => exact ⟨0, by omega, rfl, unhide HO, unhide HX1, unhide HK1, unhide HG, hszj⟩
      case round =>
        obtain ⟨k, hk8, rfl, hown, hX, hK, hg, hszi⟩ := hrel
        by_cases hlt2 : k < 8
        · have HO2' := hide hown
          have HX2 := hide hX
          have HK2 := hide hK
          have HG2 := hide hg
          have h8a : IntKind.i64.wrap (8 * (k : Int)) = 8 * (k : Int) := IntWalk.i64_in _ (by omega)
          clear hown hX hK hg
          go_wp2_with (first
            | (at_builtin; refine wpList_append1_G wr (.tmp 38) (.tmp 45) 24 u9 _ rfl rfl rfl rfl w1.heap.size 5 i0 (.int .u8 0) 1 Try.underlying24 hi hz0 hz1 hz2 rfl (s.size + 1 + 8 * j + k) _ (unhide HO2') rfl (by unfold maxLen; omega) (by omega) hszi ?_
               intro v4 w4 ho4 hg4
               have HO4 := hide ho4
               have HG4 := hide hg4
               clear ho4 hg4)
            | fail)
          go_roundw
          case rel =>
            refine ⟨k + 1, by omega, by go_num, ?_, ?_, ?_, ?_, ?_⟩
            · rw [textP_step _ _ _ _ _ hlt, IntKind.wrap_u8']
              exact unhide HO4
            · exact (unhide HX2).grown (unhide HG4) (fun e => (unhide HO2').ne_blk (unhide HX2) (by decide) e.symm)
            · exact (unhide HK2).grown (unhide HG4) (fun e => (unhide HO2').ne_blk (unhide HK2) (by decide) e.symm)
            · exact (unhide HG2).grown (unhide HG4) (unhide HG2).size (fun g e => by have := (unhide HO2').ge_ g e; omega)
            · have := (unhide HG4).size
              omega
          case measure => simp [intOf]; omega
        · obtain rfl : k = 8 := by omega
          rw [textQ_next _ _ _ _ hlt] at hown
          have HO5 := hide hown
          have HX5 := hide hX
          have HK5 := hide hK
          have HG5 := hide hg
          clear hown hX hK hg
          rw [show ((8 : Nat) : Int) = 8 from rfl]
          go_wp2_with fail
          go_roundw
          case rel =>
            refine ⟨j + 1, by omega, by go_num, ?_, unhide HX5, unhide HK5, unhide HG5, hszi⟩
            exact unhide HO5
          case measure => simp [intOf]; omega
    · obtain rfl : j = 2 := by omega
      have htf : textQ s.data.toList x y 2 = textF s.data.toList x y := by simp [textQ]
      rw [htf] at hown
      have HO6 := hide hown
      have HK6 := hide hK
      have HG6 := hide hg
      clear hown hX hK hg htf
      rw [show ((2 : Nat) : Int) = 2 from rfl]
      have HDER := hide (derive_any wr ks (unhide HK) s (by omega) x y hx hy)
      go_wp2_with (first
        | (refine wpList_load_row rfl 23 _ rfl w.heap.size rfl 23 _ _ _ (unhide HK6) Try.underlying23 rfl (key_size (unhide HK)) ?_)
        | fail)
      refine (unhide HDER).mono ?_
      rintro e w7 ⟨rfl, hb7⟩
      have hsz7 : wr.heap.size ≤ w7.heap.size := hb7.size
      have HO7 := hide ((unhide HO6).old hb7)
      have HK7 := hide ((unhide HK6).below hb7 (unhide HK6).lt)
      have HG7 := hide ((unhide HG6).trans (hb7.mono (unhide HG6).size))
      clear hb7 HDER
      have hz7 := Blk.new w7 23 (bsV (outF ks s.data.toList x y 0)).toArray
      have hk7 := (unhide HK7).alloc (.cells (bsV (outF ks s.data.toList x y 0)).toArray 23)
      have ho7 := (unhide HO7).alloc (.cells (bsV (outF ks s.data.toList x y 0)).toArray 23)
      have hg7 := (unhide HG7).alloc (unhide HG7).size (.cells (bsV (outF ks s.data.toList x y 0)).toArray 23)
      rw [out_zero] at hz7 hk7 ho7 hg7
      have HZ7 := hide hz7
      have HK8 := hide hk7
      have HO8 := hide ho7
      have HG8 := hide hg7
      have hsz16 : (Try.prog.info? 23).map (·.size) = some (bsV (derF ks s.data.toList x y)).toArray.size := key_size (der_len _ _ _ _)
      have HSZ := hide hsz16
      clear hz7 hk7 ho7 hg7 hsz16
      go_wp2_with (first
        | (refine wpList_store_blk rfl 23 (.tmp 13) (.tmp 52) rfl w7.heap.size 23 _ (bsV (derF ks s.data.toList x y)).toArray rfl rfl (unhide HZ7) (by simp [der_len]) (unhide HSZ) (by simpa using bsV_one (derF ks s.data.toList x y)) ?_
           intro w8 hb8 hg8
           have HD8 := hide hb8
           have HK9 := hide ((unhide HK8).grown hg8 (fun e => by injection e; omega))
           have HO9 := hide ((unhide HO8).kept hg8 (.inr ((unhide HO8).ne_blk (unhide HZ7) (by decide))))
           have HG9 := hide ((unhide HG8).grown hg8 (by have := (unhide HG8).size; omega) (fun g e => by injection e; omega))
           have hsz8 : w7.heap.size + 1 ≤ w8.heap.size := (by have := hg8.size; rw [size_alloc] at this; exact this)
           clear hb8 hg8)
        | fail)
      have ho9 := unhide HO9
      have hLb : s.size + 1 + 8 * 2 ≤ 400 := by omega
      generalize s.size + 1 + 8 * 2 = L at ho9 hLb
      clear HO9
      have HO9 := hide ho9
      clear ho9
      obtain ⟨A9, c9, rfl, hc9, hm9⟩ := (unhide HO9).slice_
      go_loopw [14] (fun i wr => ∃ h : Nat, h ≤ 2 ∧ i = .int .i64 h ∧ Own wr w1.heap.size 5 1 (.slice A9 L c9) L (bsV (textF s.data.toList x y)) ∧ Blk wr w7.heap.size 23 (bsV (derF ks s.data.toList x y)).toArray ∧ (Below (w.heap.size + 1) w8 wr ∧ wr.rangeAt w.heap.size 0 (bsV ks)))
        (fun i _ => 2 - (intOf i).toNat)
      case atStart => exact ⟨0, by omega, rfl, unhide HO9, unhide HD8, Below.refl _ _, range_of_blk (unhide HK9)⟩
      case round =>
        obtain ⟨h, hh, rfl, hown, hder, hS⟩ := hrel
        by_cases hlt : h < 2
        · have hWs : w.heap.size + 1 ≤ w8.heap.size := by omega
          have hwr8 : w8.heap.size ≤ wr.heap.size := hS.1.size
          have hu23 := Try.underlying23
          have hsz23 : (Try.prog.info? 23).map (·.size) = some (bsV ks).length := by
            have e : (bsV ks).length = 16 := by simp [unhide HK]
            rw [e]
            exact (by kernel_rfl : (Try.prog.info? 23).map (·.size) = some 16)
          have hS0 : Below (w.heap.size + 1) w8 wr.drew ∧ wr.drew.rangeAt w.heap.size 0 (bsV ks) := ⟨hS.1.drew, (World.rangeAt_drew _ _ _ _).2 hS.2⟩
          have hwh : IntKind.u8.wrap (h : Int) = (h : Int) := by rw [IntKind.wrap_u8']; omega
          have hRr := hown.reads.drew
          have HRr := hide hRr
          have HOr := hide hown
          have HDr := hide hder
          have e8 : bsV (textF s.data.toList x y) ++ [.int .u8 (h : Int)] = bsV (textF s.data.toList x y ++ [UInt8.ofNat h]) := (by simp [bsV]; omega)
          clear hown hder hS
          have HRb := hide ((hRr.alloc (Nat.le_refl _) (.cells #[.int .u8 (h : Int)] 5)))
          have HCb := hide (Blk.new wr.drew 5 #[.int .u8 (h : Int)])
          have hsz0 : wr.drew.heap.size = wr.heap.size := rfl
          clear hRr
          go_upto_region 18 with fail
          go_cut [15] from 53 to 81 (fun c wx => c = .int .u64 (sumF ks (textF s.data.toList x y ++ [UInt8.ofNat h])) ∧ Own wx w1.heap.size 5 1 (.slice A9 L c9) L (bsV (textF s.data.toList x y)) ∧ Blk wx w7.heap.size 23 (bsV (derF ks s.data.toList x y)).toArray ∧ (Below (w.heap.size + 1) w8 wx ∧ wx.rangeAt w.heap.size 0 (bsV ks)))
          case first =>
            go_region_held3 (fun W => Below (w.heap.size + 1) w8 W ∧ W.rangeAt w.heap.size 0 (bsV ks)) (first | assumption | exact held_alloc (by assumption) (by omega) hWs _) (first
              | (refine step_append_O wr.drew (.const (.slice none 0 0)) (.tmp 58) 24 (.slice none 0 0) A9 L c9 rfl rfl rfl rfl wr.heap.size 5 i0 (.int .u8 0) 1 1 Try.underlying24 hi hz0 hz1 hz2 rfl (by omega) 0 [] (Own.nil_ _ _ _ _) wr.heap.size _ (unhide HRr) (bsV_one _) (by unfold maxLen; omega) (by omega) (by simp) ?_
                 intro v10 w10 ho10 _ hb10 _
                 have hS10 : Below (w.heap.size + 1) w8 w10 ∧ w10.rangeAt w.heap.size 0 (bsV ks) := held_below (by assumption) hb10 (by omega) (by omega)
                 rw [Nat.zero_add] at ho10
                 have HO10 := hide ho10
                 have HR10 : Hid (Reads (w10.alloc (.cells #[.int .u8 (h : Int)] 5)) (w10.heap.size + 1) 1 (some ⟨w10.heap.size, 0, none⟩) 1 [.int .u8 (h : Int)]) := hide (by
                   have := Reads.of_blk (B := w10.heap.size + 1) (Blk.new w10 5 #[.int .u8 (h : Int)]) 0 1 (by simp) (Nat.lt_succ_self _)
                   simpa using this)
                 have hsz10 : wr.heap.size ≤ w10.heap.size := hb10.size
                 have HT10 := hide (((unhide HOr).drew.old hb10).alloc (.cells #[.int .u8 (h : Int)] 5))
                 have HD10 := hide (((unhide HDr).drew.below hb10 (unhide HDr).lt).alloc (.cells #[.int .u8 (h : Int)] 5))
                 clear ho10 hb10)
              | (refine step_append_O (w10.alloc (.cells #[.int .u8 (h : Int)] 5)) (.tmp 59) (.tmp 62) 24 v10 (some ⟨w10.heap.size, 0, none⟩) 1 1 rfl rfl rfl rfl wr.heap.size 5 i0 (.int .u8 0) 1 1 Try.underlying24 hi hz0 hz1 hz2 rfl (by omega) L _ ((unhide HO10).alloc _) (w10.heap.size + 1) _ (unhide HR10) (by intro u hu; simp at hu; subst hu; rfl) (by unfold maxLen; omega) (by omega) (by rw [size_alloc]; omega) ?_
                 intro v11 w11 ho11 _ hb11 _
                 have hS11 : Below (w.heap.size + 1) w8 w11 ∧ w11.rangeAt w.heap.size 0 (bsV ks) := held_below (by assumption) hb11 (by omega) (by omega)
                 have hsz11 : wr.heap.size ≤ w11.heap.size := (by have := hb11.size; rw [size_alloc] at this; omega)
                 obtain ⟨a11, c11, rfl, hc11, hm11⟩ := ho11.slice_
                 rw [List.nil_append, e8] at ho11
                 have HR11 := hide ho11.reads
                 have HT11 := hide ((unhide HT10).below hb11 (unhide HOr).lt_)
                 have HD11 := hide ((unhide HD10).below hb11 (unhide HDr).lt)
                 clear ho11 hb11)
              | (refine step_append_O (wr.drew.alloc (.cells #[.int .u8 (h : Int)] 5)) (.const (.slice none 0 0)) (.tmp 58) 24 (.slice none 0 0) A9 L c9 rfl rfl rfl rfl (wr.heap.size + 1) 5 i0 (.int .u8 0) 1 1 Try.underlying24 hi hz0 hz1 hz2 rfl (by omega) 0 [] (Own.nil_ _ _ _ _) wr.heap.size _ (unhide HRb) (bsV_one _) (by unfold maxLen; omega) (by omega) (by simp) ?_
                 intro v20 w20 ho20 _ hb20 _
                 have hS20 : Below (w.heap.size + 1) w8 w20 ∧ w20.rangeAt w.heap.size 0 (bsV ks) := held_below (by assumption) hb20 (by omega) (by omega)
                 rw [Nat.zero_add] at ho20
                 have HO20 := hide ho20
                 have HR20 : Hid (Reads w20 (wr.heap.size + 1) 1 (some ⟨wr.heap.size, 0, none⟩) 1 [.int .u8 (h : Int)]) := hide (by
                   have := Reads.of_blk (B := wr.heap.size + 1) ((unhide HCb).below hb20 (Nat.lt_succ_self _)) 0 1 (by simp) (Nat.lt_succ_self _)
                   simpa using this)
                 have hsz20 : wr.heap.size + 1 ≤ w20.heap.size := (by have := hb20.size; rw [size_alloc] at this; omega)
                 have HT20 := hide (((unhide HOr).drew.alloc _).below hb20 (fun g e => Nat.lt_succ_of_lt ((unhide HOr).lt_ g e)))
                 have HD20 := hide (((unhide HDr).drew.alloc _).below hb20 (Nat.lt_succ_of_lt (unhide HDr).lt))
                 clear ho20 hb20)
              | (refine step_append_O w20 (.tmp 59) (.tmp 62) 24 v20 (some ⟨wr.heap.size, 0, none⟩) 1 1 rfl rfl rfl rfl (wr.heap.size + 1) 5 i0 (.int .u8 0) 1 1 Try.underlying24 hi hz0 hz1 hz2 rfl (by omega) L _ (unhide HO20) (wr.heap.size + 1) _ (unhide HR20) (by intro u hu; simp at hu; subst hu; rfl) (by unfold maxLen; omega) (by omega) (by omega) ?_
                 intro v11 w11 ho11 _ hb11 _
                 have hS11 : Below (w.heap.size + 1) w8 w11 ∧ w11.rangeAt w.heap.size 0 (bsV ks) := held_below (by assumption) hb11 (by omega) (by omega)
                 have hsz11 : wr.heap.size ≤ w11.heap.size := (by have := hb11.size; omega)
                 obtain ⟨a11, c11, rfl, hc11, hm11⟩ := ho11.slice_
                 rw [List.nil_append, e8] at ho11
                 have HR11 := hide ho11.reads
                 have HT11 := hide ((unhide HT20).below hb11 (fun g e => Nat.lt_succ_of_lt ((unhide HOr).lt_ g e)))
                 have HD11 := hide ((unhide HD20).below hb11 (Nat.lt_succ_of_lt (unhide HDr).lt))
                 clear ho11 hb11)
              | (go_simp; go_at_call 10; refine (sum_any ks (textF s.data.toList x y ++ [UInt8.ofNat h]) (unhide HK) a11 (L + 1) c11 w11 (unhide HR11) hc11 hm11).mono ?_
                 rintro e w12 ⟨rfl, hb12⟩
                 have hS12 : Below (w.heap.size + 1) w8 w12 ∧ w12.rangeAt w.heap.size 0 (bsV ks) := held_below (by assumption) hb12 (by omega) (by omega)
                 have HT12 := hide ((unhide HT11).old hb12)
                 have HD12 := hide ((unhide HD11).below hb12 (unhide HD11).lt)
                 clear hb12))
            all_goals (go_wp2_with fail)
            all_goals go_meet
            all_goals exact ⟨rfl, unhide HT12, unhide HD12, hS12⟩
          case rest =>
            obtain ⟨rfl, hown, hder, hS⟩ := hcut
            have HE2 := hide hS
            have HO12 := hide hown
            have HD12 := hide hder
            clear hown hder hS
            go_wp2_with fail
            go_loop [16] (fun i => ∃ k : Nat, k ≤ 8 ∧ i = .int .i64 k) (fun i => 8 - (intOf i).toNat)
            case atStart => exact ⟨0, by omega, rfl⟩
            case round =>
              obtain ⟨k, hk8, rfl⟩ := hrel
              by_cases hlt2 : k < 8
              · have h8a : IntKind.i64.wrap (8 * (h : Int)) = 8 * (h : Int) := IntWalk.i64_in _ (by omega)
                have h8b : IntKind.i64.wrap (8 * (k : Int)) = 8 * (k : Int) := IntWalk.i64_in _ (by omega)
                have h8c : IntKind.i64.wrap (8 * (h : Int) + (k : Int)) = 8 * (h : Int) + (k : Int) := IntWalk.i64_in _ (by omega)
                have h8d : (0 : Int) ≤ 8 * (h : Int) + (k : Int) := by omega
                have h8e : 8 * (h : Int) + (k : Int) < 16 := by omega
                have h8f : (8 * (h : Int) + (k : Int)).toNat = 8 * h + k := by omega
                have hbyte : (halfF ks s.data.toList x y h)[k]? = some (byteAt (sumF ks (textF s.data.toList x y ++ [UInt8.ofNat h])) k) := by
                  simp [halfF, leB, hlt2]
                have hcell2 : wc.cell? ⟨w7.heap.size, 8 * h + k, none⟩ = some (.int .u8 (sumF ks (textF s.data.toList x y ++ [UInt8.ofNat h]) / 2 ^ (8 * k) % 256)) := by
                  rw [(unhide HD12).cell, ← IntKind.wrap_u8', ← byteAt_eq]
                  simp [bsV, List.getElem?_map, der_at ks s.data.toList x y h k hlt hlt2 _ hbyte]
                have hfr2 := (unhide HD12).frozen (8 * h + k)
                have HBY := Lib.hid hbyte
                have hSN := sumF_nonneg ks (textF s.data.toList x y ++ [UInt8.ofNat h])
                clear hbyte
                go_wp2_with fail
                go_roundw
                case rel => exact ⟨k + 1, by omega, by go_num⟩
                case measure => simp [intOf]; omega
              · obtain rfl : k = 8 := by omega
                rw [show ((8 : Nat) : Int) = 8 from rfl]
                go_wp2_with fail
                go_roundw
                case rel => exact ⟨h + 1, by omega, by go_num, unhide HO12, unhide HD12, unhide HE2⟩
                case measure => simp [intOf]; omega
        · obtain rfl : h = 2 := by omega
          have HE := hide ((unhide HG9).trans (hS.1.mono (by omega)))
          clear hown hder hS
          rw [show ((2 : Nat) : Int) = 2 from rfl]
          go_wp2_with fail
          go_ret
          exact ⟨rfl, unhide HE⟩
theorem derives_walk (w : World) (ks : List UInt8) (hk : ks.length = 16) (s : ByteArray) (_ : s.size ≤ maxLen) (x : Int) (hx : 0 ≤ x ∧ x ≤ 18446744073709551615) (y : Int) (hy : 0 ≤ y ∧ y ≤ 18446744073709551615) :
    Calls Try.prog 4 #[.agg (bsV ks).toArray, .string s, .int .u64 x, .int .u64 y] w fun e w' => e = .returned (.bool true) ∧ Below w.heap.size w w' := by
  by_cases h : 300 < s.size
  · exact derives_long w ks s x y h
  · exact derives_short w ks hk s (by omega) x y hx.1 hy.1
end Go.Proofs.Ytaopgieejgcbeaa
