/- session.Begin: a client and its hello (printed by wip/gen_sbegin.py). -/
import Derived.Test.YtfbkkmnkpjgciaaSOps
namespace Go.Proofs.Ytfbkkmnkpjgciaa
open Go.RowKit
def helloF (u : List UInt8) (lb : UInt8) (n : Nat) : List UInt8 := joinF 1 [leB (n : Int) 8, [lb], u]
theorem helloF_len (u : List UInt8) (lb : UInt8) (n : Nat) : (helloF u lb n).length = 10 + u.length := by simp [helloF, joinF, leB_len]; omega
def newCli (u ks : List UInt8) (l : Int) (n : Nat) : Cli := ⟨u, ks, l, n, 0, 0, z16, false, 0, 0, 0⟩
theorem newCli_ok {u ks : List UInt8} {l : Int} {n : Nat} (hu : u.length ≤ maxLen) (hk : ks.length = 16) (hn : n < 18446744073709551616) : (newCli u ks l n).Ok :=
  ⟨hu, hk, rfl, hn, by show 0 < 18446744073709551616; omega, by show 0 < 4294967296; omega, by show 0 < 4294967296; omega, by show 0 < 4294967296; omega, by show 0 < 4294967296; omega⟩
def BegR (B : Nat) (u : List UInt8) (lb : UInt8) (n : Nat) : Nat → Value → World → Prop
  | 2, v, w => SliceOf w 8 (leB (n : Int) 8) v
  | 5, v, w => SliceOf w 1 [lb] v
  | 7, v, w => SliceOf w u.length u v
  | 8, v, w => PiecesOf w 3 [leB (n : Int) 8, [lb], u] v
  | 9, v, w => OwnOf B w (10 + u.length) (helloF u lb n) v
  | _, _, _ => True
theorem BegR.keep {B : Nat} {u : List UInt8} {lb : UInt8} {n : Nat} : ∀ (k : Nat) (v : Value) (w w' : World), BegR B u lb n k v w → Below w.heap.size w w' → BegR B u lb n k v w' := by
  intro k v w w' h hb
  unfold BegR at *
  split at h
  · exact h.below hb
  · exact h.below hb
  · exact h.below hb
  · exact h.below hb
  · exact h.below hb
  · trivial
theorem nameF_len {u : List UInt8} (h : nameF u = true) : u.length ≤ 16 := by
  unfold nameF at h
  simp only [Bool.and_eq_true, decide_eq_true_eq] at h
  exact h.2.1
def BegPost (w : World) (c : Cli) (b : List UInt8) (e : Ending) (w' : World) : Prop :=
  ∃ v, e = .returned (.tuple #[.agg c.cs.toArray, v, .int .i64 0]) ∧ w'.ownsRow w.heap.size 5 1 v b.length (bsV b) ∧ Below w.heap.size w w'
def ErrC (w : World) (x : Int) (e : Ending) (w' : World) : Prop := e = .returned (.tuple #[.agg zCli.cs.toArray, .slice none 0 0, .int .i64 x]) ∧ Below w.heap.size w w' 
set_option maxRecDepth 100000 in
set_option maxHeartbeats 4000000 in
theorem begin_name (w : World) (u ks : List UInt8) (hu : u.length ≤ maxLen) (hk : ks.length = 16) (l : Int) (n : Nat) (hn : n < 18446744073709551616) (hno : nameF u = false) :
    Calls Try.prog 10 #[.string ⟨u.toArray⟩, .agg (bsV ks).toArray, .int .i64 l, .int .u64 (n : Int)] w (ErrC w 1) := by
  have HNO := hide hno
  clear hno
  obtain ⟨W2, hW2⟩ : ∃ W2, (w.alloc (.cells (bsV ks).toArray 36)).alloc (.cells zCli.cs.toArray 48) = W2 := ⟨_, rfl⟩
  have K0 : Hid (Blk ((w.alloc (.cells (bsV ks).toArray 36)).alloc (.cells zCli.cs.toArray 48)) w.heap.size 36 (bsV ks).toArray) := hide ((Blk.new w 36 (bsV ks).toArray).alloc _)
  have K1 : Hid (Blk ((w.alloc (.cells (bsV ks).toArray 36)).alloc (.cells zCli.cs.toArray 48)) (w.heap.size + 1) 48 zCli.cs.toArray) := hide (Blk.new' (by simp))
  have K2 : Hid (Blk (((w.alloc (.cells (bsV ks).toArray 36)).alloc (.cells zCli.cs.toArray 48)).alloc (.cells zCli.cs.toArray 48)) (w.heap.size + 2) 48 zCli.cs.toArray) := hide (Blk.new' (by simp))
  have B2 : Hid (Below w.heap.size w ((w.alloc (.cells (bsV ks).toArray 36)).alloc (.cells zCli.cs.toArray 48))) := hide (((Below.refl _ _).alloc (Nat.le_refl _) _).alloc (by rw [size_alloc]; omega) _)
  have B2a := hide ((unhide B2).alloc (unhide B2).size (.cells zCli.cs.toArray 48))
  have HSZ := hide (key_size hk)
  have HK := hide hk
  have HOK := hide (newCli_ok (l := l) hu hk hn)
  have HW2 := hide hW2
  have HU := hide hu
  have BC : Hid (Try.prog.built 48 [(0, .string ⟨u.toArray⟩), (1, .agg (bsV ks).toArray), (2, .int .i64 l), (3, .int .u64 (n : Int))] = some (newCli u ks l n).cs.toArray) := hide (build_cli u ks hk l n)
  clear hk hW2 hu hn
  go_enter Try.func10, Try.ntmps10
  go_upto_region 2 with (first
    | (refine wpList_alloc_to rfl 48 rfl _ (w.heap.size + 1) (size_alloc w _) (alloc_cli _) ?_)
    | (refine wpList_alloc_to rfl 48 rfl _ (w.heap.size + 2) (size_alloc2 w _ _) (alloc_cli _) ?_)
    | (refine wpList_load_row rfl 36 _ rfl w.heap.size rfl 36 _ _ _ (unhide K0) Try.underlying36 rfl (unhide HSZ) ?_)
    | (refine wpList_build_cs rfl 48 _ rfl [(0, .string ⟨u.toArray⟩), (1, .agg (bsV ks).toArray), (2, .int .i64 l), (3, .int .u64 (n : Int))] rfl _ (unhide BC) ?_)
    | (refine wpList_store_blk rfl 48 (.tmp 11) (.tmp 16) rfl (w.heap.size + 2) 48 _ (newCli u ks l n).cs.toArray rfl rfl (unhide K2) (Cli.size_eq (unhide HOK)) (cli_info (unhide HOK)) (fun v hv => Cli.one v (by simpa using hv)) ?_
       intro W3 hb3 hg3
       have Z3 := hide hb3
       have Q1 := hide (((unhide K1).alloc (.cells zCli.cs.toArray 48)).grown hg3 (fun e => by injection e with e; omega))
       have B3 := hide ((unhide B2a).grown hg3 (unhide B2a).size (fun j e => by injection e with e; omega))
       clear hb3 hg3)
    | fail)
  go_wp2_with fail
  refine (name_any _ u (unhide HU) false (unhide HNO)).mono ?_
  rintro e w4 ⟨rfl, rfl⟩
  have Q9 := Q1
  have B9 := B3
  go_wp2_with (first
      | (refine wpList_build_cs rfl 48 _ rfl [] rfl _ build_cli0 ?_)
      | (refine wpList_store_blk rfl 48 (.tmp 8) (.tmp 20) rfl (w.heap.size + 1) 48 _ zCli.cs.toArray rfl rfl (unhide Q9) rfl (cli_info zCli_ok) (fun v hv => Cli.one v (by simpa using hv)) ?_
         intro w9 hb9 hg9
         have Z9 := hide hb9
         have E9 := hide ((unhide B9).grown hg9 (unhide B9).size (fun j e => by injection e with e; omega))
         clear hb9 hg9)
      | fail)
  exact bodyPost_ret (v := .tuple #[.agg zCli.cs.toArray, .slice none 0 0, .int .i64 1]) (res_ctt rfl _ (w.heap.size + 1) 48 _ _ _ _ rfl rfl rfl (unhide Z9) Try.underlying48 rfl (cli_info zCli_ok)) rfl (show ErrC w 1 _ _ from ⟨rfl, unhide E9⟩)
set_option maxRecDepth 100000 in
set_option maxHeartbeats 4000000 in
theorem begin_level (w : World) (u ks : List UInt8) (hu : u.length ≤ maxLen) (hk : ks.length = 16) (l : Int) (n : Nat) (hn : n < 18446744073709551616) (hnm : nameF u = true) (hl : decide (1 ≤ l ∧ l ≤ 3) = false) :
    Calls Try.prog 10 #[.string ⟨u.toArray⟩, .agg (bsV ks).toArray, .int .i64 l, .int .u64 (n : Int)] w (ErrC w 2) := by
  have HNM := hide hnm
  have HCF : Hid (cliF (newCli u ks l n) = false) := hide (by unfold cliF; rw [show nameF (newCli u ks l n).user = true from hnm]; exact hl)
  clear hnm hl
  obtain ⟨W2, hW2⟩ : ∃ W2, (w.alloc (.cells (bsV ks).toArray 36)).alloc (.cells zCli.cs.toArray 48) = W2 := ⟨_, rfl⟩
  have K0 : Hid (Blk ((w.alloc (.cells (bsV ks).toArray 36)).alloc (.cells zCli.cs.toArray 48)) w.heap.size 36 (bsV ks).toArray) := hide ((Blk.new w 36 (bsV ks).toArray).alloc _)
  have K1 : Hid (Blk ((w.alloc (.cells (bsV ks).toArray 36)).alloc (.cells zCli.cs.toArray 48)) (w.heap.size + 1) 48 zCli.cs.toArray) := hide (Blk.new' (by simp))
  have K2 : Hid (Blk (((w.alloc (.cells (bsV ks).toArray 36)).alloc (.cells zCli.cs.toArray 48)).alloc (.cells zCli.cs.toArray 48)) (w.heap.size + 2) 48 zCli.cs.toArray) := hide (Blk.new' (by simp))
  have B2 : Hid (Below w.heap.size w ((w.alloc (.cells (bsV ks).toArray 36)).alloc (.cells zCli.cs.toArray 48))) := hide (((Below.refl _ _).alloc (Nat.le_refl _) _).alloc (by rw [size_alloc]; omega) _)
  have B2a := hide ((unhide B2).alloc (unhide B2).size (.cells zCli.cs.toArray 48))
  have HSZ := hide (key_size hk)
  have HK := hide hk
  have HOK := hide (newCli_ok (l := l) hu hk hn)
  have HW2 := hide hW2
  have HU := hide hu
  have BC : Hid (Try.prog.built 48 [(0, .string ⟨u.toArray⟩), (1, .agg (bsV ks).toArray), (2, .int .i64 l), (3, .int .u64 (n : Int))] = some (newCli u ks l n).cs.toArray) := hide (build_cli u ks hk l n)
  clear hk hW2 hu hn
  go_enter Try.func10, Try.ntmps10
  go_upto_region 2 with (first
    | (refine wpList_alloc_to rfl 48 rfl _ (w.heap.size + 1) (size_alloc w _) (alloc_cli _) ?_)
    | (refine wpList_alloc_to rfl 48 rfl _ (w.heap.size + 2) (size_alloc2 w _ _) (alloc_cli _) ?_)
    | (refine wpList_load_row rfl 36 _ rfl w.heap.size rfl 36 _ _ _ (unhide K0) Try.underlying36 rfl (unhide HSZ) ?_)
    | (refine wpList_build_cs rfl 48 _ rfl [(0, .string ⟨u.toArray⟩), (1, .agg (bsV ks).toArray), (2, .int .i64 l), (3, .int .u64 (n : Int))] rfl _ (unhide BC) ?_)
    | (refine wpList_store_blk rfl 48 (.tmp 11) (.tmp 16) rfl (w.heap.size + 2) 48 _ (newCli u ks l n).cs.toArray rfl rfl (unhide K2) (Cli.size_eq (unhide HOK)) (cli_info (unhide HOK)) (fun v hv => Cli.one v (by simpa using hv)) ?_
       intro W3 hb3 hg3
       have Z3 := hide hb3
       have Q1 := hide (((unhide K1).alloc (.cells zCli.cs.toArray 48)).grown hg3 (fun e => by injection e with e; omega))
       have B3 := hide ((unhide B2a).grown hg3 (unhide B2a).size (fun j e => by injection e with e; omega))
       clear hb3 hg3)
    | fail)
  go_wp2_with fail
  refine (name_any _ u (unhide HU) true (unhide HNM)).mono ?_
  rintro e w4 ⟨rfl, rfl⟩
  go_wp2_with (first
    | (refine wpList_load_row rfl 48 _ rfl (w.heap.size + 2) rfl 48 _ _ _ (unhide Z3) Try.underlying48 rfl (cli_info (unhide HOK)) ?_)
    | fail)
  refine (client_sx _ _ (unhide HOK) false (unhide HCF)).mono ?_
  rintro e w5 ⟨rfl, hb5⟩
  have Q9 := hide ((unhide Q1).below hb5 (unhide Q1).lt)
  have B9 := hide ((unhide B3).trans (hb5.mono (unhide B3).size))
  clear hb5
  go_wp2_with (first
      | (refine wpList_build_cs rfl 48 _ rfl [] rfl _ build_cli0 ?_)
      | (refine wpList_store_blk rfl 48 (.tmp 8) (.tmp 24) rfl (w.heap.size + 1) 48 _ zCli.cs.toArray rfl rfl (unhide Q9) rfl (cli_info zCli_ok) (fun v hv => Cli.one v (by simpa using hv)) ?_
         intro w9 hb9 hg9
         have Z9 := hide hb9
         have E9 := hide ((unhide B9).grown hg9 (unhide B9).size (fun j e => by injection e with e; omega))
         clear hb9 hg9)
      | fail)
  exact bodyPost_ret (v := .tuple #[.agg zCli.cs.toArray, .slice none 0 0, .int .i64 2]) (res_ctt rfl _ (w.heap.size + 1) 48 _ _ _ _ rfl rfl rfl (unhide Z9) Try.underlying48 rfl (cli_info zCli_ok)) rfl (show ErrC w 2 _ _ from ⟨rfl, unhide E9⟩)
set_option maxRecDepth 100000 in
set_option maxHeartbeats 8000000 in
theorem begin_ok (w : World) (u ks : List UInt8) (hk : ks.length = 16) (lb : UInt8) (n : Nat) (hn : n < 18446744073709551616) (hnm : nameF u = true) (hl : decide (1 ≤ (lb.toNat : Int) ∧ (lb.toNat : Int) ≤ 3) = true) :
    Calls Try.prog 10 #[.string ⟨u.toArray⟩, .agg (bsV ks).toArray, .int .i64 (lb.toNat : Int), .int .u64 (n : Int)] w (BegPost w (newCli u ks (lb.toNat : Int) n) (helloF u lb n)) := by
  have hu : u.length ≤ maxLen := by have := nameF_len hnm; unfold maxLen; omega
  obtain ⟨l, hle⟩ : ∃ l : Int, (lb.toNat : Int) = l := ⟨_, rfl⟩
  rw [hle] at hl ⊢
  have HLE := hide hle
  have hlw : IntKind.u8.wrap l = (lb.toNat : Int) := by rw [← hle, IntKind.wrap_u8']; have := lb.toNat_lt; omega
  have HNM := hide hnm
  have HCF : Hid (cliF (newCli u ks l n) = true) := hide (by unfold cliF; rw [show nameF (newCli u ks l n).user = true from hnm]; exact hl)
  have HU16 := hide (nameF_len hnm)
  have EGL' := hide (enters Try.func22 (by kernel_rfl) rfl)
  have EGJ' := hide (enters Try.func21 (by kernel_rfl) rfl)
  clear hnm hl hle
  obtain ⟨W2, hW2⟩ : ∃ W2, (w.alloc (.cells (bsV ks).toArray 36)).alloc (.cells zCli.cs.toArray 48) = W2 := ⟨_, rfl⟩
  have K0 : Hid (Blk ((w.alloc (.cells (bsV ks).toArray 36)).alloc (.cells zCli.cs.toArray 48)) w.heap.size 36 (bsV ks).toArray) := hide ((Blk.new w 36 (bsV ks).toArray).alloc _)
  have K1 : Hid (Blk ((w.alloc (.cells (bsV ks).toArray 36)).alloc (.cells zCli.cs.toArray 48)) (w.heap.size + 1) 48 zCli.cs.toArray) := hide (Blk.new' (by simp))
  have K2 : Hid (Blk (((w.alloc (.cells (bsV ks).toArray 36)).alloc (.cells zCli.cs.toArray 48)).alloc (.cells zCli.cs.toArray 48)) (w.heap.size + 2) 48 zCli.cs.toArray) := hide (Blk.new' (by simp))
  have B2 : Hid (Below w.heap.size w ((w.alloc (.cells (bsV ks).toArray 36)).alloc (.cells zCli.cs.toArray 48))) := hide (((Below.refl _ _).alloc (Nat.le_refl _) _).alloc (by rw [size_alloc]; omega) _)
  have B2a := hide ((unhide B2).alloc (unhide B2).size (.cells zCli.cs.toArray 48))
  have HSZ := hide (key_size hk)
  have HK := hide hk
  have HOK := hide (newCli_ok (l := l) hu hk hn)
  have HW2 := hide hW2
  have HU := hide hu
  have BC : Hid (Try.prog.built 48 [(0, .string ⟨u.toArray⟩), (1, .agg (bsV ks).toArray), (2, .int .i64 l), (3, .int .u64 (n : Int))] = some (newCli u ks l n).cs.toArray) := hide (build_cli u ks hk l n)
  clear hk hW2 hu hn
  go_enter Try.func10, Try.ntmps10
  go_upto_region 2 with (first
    | (refine wpList_alloc_to rfl 48 rfl _ (w.heap.size + 1) (size_alloc w _) (alloc_cli _) ?_)
    | (refine wpList_alloc_to rfl 48 rfl _ (w.heap.size + 2) (size_alloc2 w _ _) (alloc_cli _) ?_)
    | (refine wpList_load_row rfl 36 _ rfl w.heap.size rfl 36 _ _ _ (unhide K0) Try.underlying36 rfl (unhide HSZ) ?_)
    | (refine wpList_build_cs rfl 48 _ rfl [(0, .string ⟨u.toArray⟩), (1, .agg (bsV ks).toArray), (2, .int .i64 l), (3, .int .u64 (n : Int))] rfl _ (unhide BC) ?_)
    | (refine wpList_store_blk rfl 48 (.tmp 11) (.tmp 16) rfl (w.heap.size + 2) 48 _ (newCli u ks l n).cs.toArray rfl rfl (unhide K2) (Cli.size_eq (unhide HOK)) (cli_info (unhide HOK)) (fun v hv => Cli.one v (by simpa using hv)) ?_
       intro W3 hb3 hg3
       have Z3 := hide hb3
       have Q1 := hide (((unhide K1).alloc (.cells zCli.cs.toArray 48)).grown hg3 (fun e => by injection e with e; omega))
       have B3 := hide ((unhide B2a).grown hg3 (unhide B2a).size (fun j e => by injection e with e; omega))
       clear hb3 hg3)
    | fail)
  go_wp2_with fail
  refine (name_any _ u (unhide HU) true (unhide HNM)).mono ?_
  rintro e w4 ⟨rfl, rfl⟩
  go_wp2_with (first
    | (refine wpList_load_row rfl 48 _ rfl (w.heap.size + 2) rfl 48 _ _ _ (unhide Z3) Try.underlying48 rfl (cli_info (unhide HOK)) ?_)
    | fail)
  refine (client_sx _ _ (unhide HOK) true (unhide HCF)).mono ?_
  rintro e w5 ⟨rfl, hb5⟩
  have Q5 := hide ((unhide Q1).below hb5 (unhide Q1).lt)
  have Z5 := hide ((unhide Z3).below hb5 (unhide Z3).lt)
  have B5 := hide ((unhide B3).trans (hb5.mono (unhide B3).size))
  clear hb5
  go_upto_region 6 with fail
  have hB0 : Below w5.heap.size w5 w5.drew := (Below.refl _ _).drew
  have hS0 : (fun wz => Blk wz (w.heap.size + 2) 48 (newCli u ks l n).cs.toArray) w5.drew := unhide Z5
  refine wp_region_noPanic (wp_region_held_drew (S := fun wz => Blk wz (w.heap.size + 2) 48 (newCli u ks l n).cs.toArray) (by kernel_rfl) hS0 (fun _ => ?_))
  refine th_take (i := 0) rfl (by kernel_rfl) (by kernel_rfl) (by kernel_rfl) (y_loadblk 48 (.tmp 11) (by rfl) rfl (w.heap.size + 2) rfl 48 (newCli u ks l n).cs.toArray _ (fun _ h => h) Try.underlying48 rfl (cli_info (unhide HOK))) hS0 ?_
  simp only [Act.put, List.setIfInBounds_toArray, List.set_cons_zero, List.set_cons_succ]
  refine th_take (i := 1) (v := ?_) rfl (by kernel_rfl) (by kernel_rfl) (by kernel_rfl) (Or.inl ⟨by rfl, fun wz hSw => ?_⟩) hS0 ?_
  rotate_left
  · go_simp
    with_reducible rfl
  simp only [Act.put, List.setIfInBounds_toArray, List.set_cons_zero, List.set_cons_succ]
  refine th_take (i := 3) (v := ?_) rfl (by kernel_rfl) (by kernel_rfl) (by kernel_rfl) (Or.inl ⟨by rfl, fun wz hSw => ?_⟩) hS0 ?_
  rotate_left
  · go_simp
    with_reducible rfl
  simp only [Act.put, List.setIfInBounds_toArray, List.set_cons_zero, List.set_cons_succ]
  refine th_take (i := 4) (v := .int .u8 (lb.toNat : Int)) rfl (by kernel_rfl) (by kernel_rfl) (by kernel_rfl) (Or.inl ⟨by rfl, fun wz hSw => ?_⟩) hS0 ?_
  · skip
    go_simp
  simp only [Act.put, List.setIfInBounds_toArray, List.set_cons_zero, List.set_cons_succ]
  refine th_take (i := 6) (v := ?_) rfl (by kernel_rfl) (by kernel_rfl) (by kernel_rfl) (Or.inl ⟨by rfl, fun wz hSw => ?_⟩) hS0 ?_
  rotate_left
  · go_simp
    with_reducible rfl
  simp only [Act.put, List.setIfInBounds_toArray, List.set_cons_zero, List.set_cons_succ]
  refine any_below (BegR w.heap.size u lb n) w5 [2, 5, 7, 8, 9] #[true, true, true, true, true, true, true, true, true, true, false, false, false] [(2, some 27), (5, some 30), (7, some 32), (8, some 33), (9, some 34)] 35 3 (by kernel_rfl) rfl BegR.keep (fun _ h => (unhide Z5).below h (unhide Z5).lt) hB0 ⟨?_, ?_, ?_, ?_, ?_, trivial⟩ ?_ rfl
  · intro a wa hBa hout hin
    refine b_call [.int .u64 (n : Int), .int .i64 ((8 : Nat) : Int)] rfl rfl rfl rfl (unhide EGL') ?_ ?_
    · show [a.eval (.tmp 26), _] = _
      rw [hout 26 (by kernel_rfl)]
      rfl
    · exact little_of wa n 8 (.inr rfl)
  · intro a wa hBa hout hin
    have e : a.eval (.tmp 29) = .int .u8 (lb.toNat : Int) := hout 29 (by kernel_rfl)
    refine b_val rfl rfl (v := .slice (some ⟨wa.heap.size, 0, none⟩) 1 1) (w' := wa.alloc (.cells #[.int .u8 (lb.toNat : Int)] 5)) ?_ ⟨(Below.refl _ _).alloc (Nat.le_refl _) _, SliceOf.new1 lb⟩
    simp [execOp, e, run_slice_b]
  · intro a wa hBa hout hin
    have e : a.eval (.tmp 31) = .string ⟨u.toArray⟩ := hout 31 (by kernel_rfl)
    obtain ⟨v, w7, hrun, ho, hb⟩ := run_str_bytes (P := Try.prog) wa 9 32 5 ⟨u.toArray⟩ Try.underlying9 Try.underlying32 Try.underlying5 wa.heap.size (Nat.le_refl _) (by have := unhide HU; simpa [ByteArray.size] using this)
    obtain ⟨A7, c7, rfl, h71, h72⟩ := ho.slice_
    refine b_val rfl rfl (v := .slice A7 (ByteArray.mk u.toArray).size c7) (w' := w7) ?_ ⟨hb, A7, c7, by simp [ByteArray.size], by simpa [ByteArray.size] using h71, h72, by simpa [bsV, ByteArray.size] using ho.reads⟩
    simp [execOp, e, hrun]
  · intro a wa hBa hout hin
    obtain ⟨A2, c2, e2, h21, h22, h23⟩ := hin 2 27 (by kernel_rfl)
    obtain ⟨A5, c5, e5, h51, h52, h53⟩ := hin 5 30 (by kernel_rfl)
    obtain ⟨A7, c7, e7, h71, h72, h73⟩ := hin 7 32 (by kernel_rfl)
    refine b_val rfl rfl (v := .slice (some ⟨wa.heap.size, 0, none⟩) 3 3) (w' := wa.alloc (.cells [Value.slice A2 8 c2, .slice A5 1 c5, .slice A7 u.length c7].toArray 32)) ?_ ⟨(Below.refl _ _).alloc (Nat.le_refl _) _, PiecesOf.new 3 rfl (.cons h21 h22 h23 (.cons h51 h52 h53 (.cons h71 h72 h73 (.nil _ _))))⟩
    simp [execOp, e2, e5, e7, run_slice_3]
  · intro a wa hBa hout hin
    refine b_call [.int .u8 ((1 : UInt8).toNat : Int), a.eval (.tmp 33)] rfl rfl rfl rfl (unhide EGJ') rfl ?_
    refine (joined_of wa 1 3 _ _ (hin 8 33 (by kernel_rfl)) (by have := unhide HU16; simp [leB_len]; omega) (by omega)).mono fun e w' ⟨v, he, ho, hb⟩ => ⟨v, he, hb, ?_⟩
    have hl : (joinF 1 [leB (n : Int) 8, [lb], u]).length = 10 + u.length := helloF_len u lb n
    rw [hl] at ho
    exact own_more ho (Nat.le_trans (unhide B5).size hBa.size)
  intro vals ww hBw hRw
  simp only [puts, Act.put, List.setIfInBounds_toArray, List.set_cons_zero, List.set_cons_succ]
  have h9 : OwnOf w.heap.size ww (10 + u.length) (helloF u lb n) (vals 9) := hRw 9 (by rfl)
  have hx1 : Below w.heap.size w ww := (unhide B5).trans (hBw.mono (unhide B5).size)
  have q1 := (unhide Q5).below hBw (unhide Q5).lt
  have hsz3 := (unhide Z5).lt
  clear hRw
  have hSt : Below w5.heap.size w5 ww := hBw
  refine th_one (i := 10) rfl (by kernel_rfl) (fun K hK => ?_)
  have hsq := Cli.size_eq (unhide HOK)
  refine step_store_blk (by rfl) 48 (.tmp 8) (.tmp 25) rfl (w.heap.size + 1) 48 _ (newCli u ks l n).cs.toArray rfl rfl q1 hsq (cli_info (unhide HOK)) (fun v hv => Cli.one v (by simpa using hv)) ?_
  intro w8 hb8 hg8
  have hx8 : Below w.heap.size w w8 := hx1.grown hg8 hx1.size (fun j e => by injection e with e; omega)
  have ho8 : OwnOf w.heap.size w8 (10 + u.length) (helloF u lb n) (vals 9) := World.ownsRow.kept h9 hg8 (.inr (own_blk_ne h9 q1 (by decide)))
  have hS8 : Blk w8 (w.heap.size + 2) 48 (newCli u ks l n).cs.toArray := ((unhide Z5).below hBw (unhide Z5).lt).grown hg8 (fun e => by injection e with e; omega)
  refine hK.out _ _ hS8 (fun _ => ?_)
  clear hK K
  try simp only [Act.put]
  refine th_take (i := 11) (v := ?_) rfl (by kernel_rfl) (by kernel_rfl) (by kernel_rfl) (Or.inl ⟨by rfl, fun wz hSw => ?_⟩) hS8 ?_
  rotate_left
  · go_simp
    with_reducible rfl
  simp only [Act.put, List.setIfInBounds_toArray, List.set_cons_zero, List.set_cons_succ]
  refine th_take (i := 12) (v := ?_) rfl (by kernel_rfl) (by kernel_rfl) (by kernel_rfl) (Or.inl ⟨by rfl, fun wz hSw => ?_⟩) hS8 ?_
  rotate_left
  · go_simp
    with_reducible rfl
  simp only [Act.put, List.setIfInBounds_toArray, List.set_cons_zero, List.set_cons_succ]
  refine wpAnyH_done (by kernel_rfl) (NoPanic.normal ?_) _
  have H8 := hide hb8
  have O8 := hide ho8
  have X8 := hide hx8
  clear hb8 ho8 hx8 hg8 q1 h9 hx1 hSt
  go_wp2_with fail
  refine bodyPost_ret (v := .tuple #[.agg (newCli u ks l n).cs.toArray, vals 9, .int .i64 0]) (res_ctt rfl _ (w.heap.size + 1) 48 _ _ _ _ rfl rfl rfl (unhide H8) Try.underlying48 rfl (cli_info (unhide HOK))) rfl (show BegPost w _ _ _ _ from ⟨vals 9, rfl, ?_, unhide X8⟩)
  rw [helloF_len]
  exact unhide O8
end Go.Proofs.Ytfbkkmnkpjgciaa
