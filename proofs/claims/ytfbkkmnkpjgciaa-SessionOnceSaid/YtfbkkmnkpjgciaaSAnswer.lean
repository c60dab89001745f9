/- session.Answer: the proof of a client (printed by wip/gen_sanswer.py). -/
import Derived.Test.YtfbkkmnkpjgciaaSPart
import Derived.Test.YtfbkkmnkpjgciaaSBegin
namespace Go.Proofs.Ytfbkkmnkpjgciaa
open Go.RowKit
def sessL : List UInt8 := [115, 101, 115, 115, 105, 111, 110]
def levB (l : Int) : UInt8 := UInt8.ofNat l.toNat
theorem levB_of {l : Int} (h : decide (1 ≤ l ∧ l ≤ 3) = true) : ((levB l).toNat : Int) = l := by
  simp only [decide_eq_true_eq] at h
  have : l = 1 ∨ l = 2 ∨ l = 3 := by omega
  rcases this with rfl | rfl | rfl <;> rfl
theorem cliF_level {c : Cli} (h : cliF c = true) : decide (1 ≤ c.level ∧ c.level ≤ 3) = true := by
  unfold cliF at h
  simp only [Bool.and_eq_true] at h
  exact h.2
theorem leW_lt8 (l : List UInt8) (h : l.length ≤ 8) : leW l < 18446744073709551616 := by
  have h1 := leW_lt l
  have h2 : 256 ^ l.length ≤ 256 ^ 8 := Nat.pow_le_pow_right (by omega) h
  omega
/-- the client behind a challenge -/
def ansC (c : Cli) (b : List UInt8) : Cli := { c with id := leW ((b.drop 1).take 4), server := leW (b.drop 5), sess := derF c.key sessL (c.nonce : Int) (leW (b.drop 5) : Int) }
theorem ansC_ok {c : Cli} (h : c.Ok) {b : List UInt8} (hb : b.length = 13) : (ansC c b).Ok :=
  ⟨h.user, h.key, der_len _ _ _ _, h.nonce, leW_lt8 _ (by simp; omega), leW4 _ _, h.hi, h.se, h.out⟩
set_option maxRecDepth 100000 in
set_option maxHeartbeats 4000000 in
theorem answer_bad (w : World) (c : Cli) (hok : c.Ok) (A : Option Addr) (n cc : Nat) (hcf : cliF c = false) : Calls Try.prog 13 #[.agg c.cs.toArray, .slice A n cc] w (ErrC w 1) := by
  have HCF := hide hcf
  clear hcf
  have K0 : Hid (Blk ((w.alloc (.cells c.cs.toArray 48)).alloc (.cells zCli.cs.toArray 48)) w.heap.size 48 c.cs.toArray) := hide ((Blk.new w 48 c.cs.toArray).alloc _)
  have K1 : Hid (Blk ((w.alloc (.cells c.cs.toArray 48)).alloc (.cells zCli.cs.toArray 48)) (w.heap.size + 1) 48 zCli.cs.toArray) := hide (Blk.new' (by simp))
  have B0 : Hid (Below w.heap.size w ((w.alloc (.cells c.cs.toArray 48)).alloc (.cells zCli.cs.toArray 48))) := hide (((Below.refl _ _).alloc (Nat.le_refl _) _).alloc (by rw [size_alloc]; omega) _)
  have HOK := hide hok
  clear hok
  go_enter Try.func13, Try.ntmps13
  go_wp2_with (first
    | (refine wpList_alloc_to rfl 48 rfl _ (w.heap.size + 1) (size_alloc w _) (alloc_cli _) ?_)
    | (refine wpList_load_row rfl 48 _ rfl w.heap.size rfl 48 _ _ _ (unhide K0) Try.underlying48 rfl (cli_info (unhide HOK)) ?_)
    | fail)
  refine (client_sx _ _ (unhide HOK) _ (unhide HCF)).mono ?_
  rintro e w1 ⟨rfl, hb1⟩
  have Z1 := hide ((unhide K0).below hb1 (unhide K0).lt)
  have Q1 := hide ((unhide K1).below hb1 (unhide K1).lt)
  have B1 := hide ((unhide B0).trans (hb1.mono (unhide B0).size))
  clear hb1
  go_wp2_with (first
    | (refine wpList_build_cs rfl 48 _ rfl [] rfl _ build_cli0 ?_)
    | (refine wpList_store_blk rfl 48 (.tmp 4) (.tmp 11) rfl (w.heap.size + 1) 48 _ zCli.cs.toArray rfl rfl (unhide Q1) rfl (cli_info zCli_ok) (fun v hv => Cli.one v (by simpa using hv)) ?_
       intro w9 hb9 hg9
       have Z9 := hide hb9
       have E9 := hide ((unhide B1).grown hg9 (unhide B1).size (fun j e => by injection e with e; omega))
       clear hb9 hg9)
    | fail)
  exact bodyPost_ret (v := .tuple #[.agg zCli.cs.toArray, .slice none 0 0, .int .i64 1]) (res_ctt rfl _ (w.heap.size + 1) 48 _ _ _ _ rfl rfl rfl (unhide Z9) Try.underlying48 rfl (cli_info zCli_ok)) rfl (show ErrC w 1 _ _ from ⟨rfl, unhide E9⟩)
set_option maxRecDepth 100000 in
set_option maxHeartbeats 4000000 in
theorem answer_open (w : World) (c : Cli) (hok : c.Ok) (A : Option Addr) (n cc : Nat) (hcf : cliF c = true) (hop : c.opn = true) : Calls Try.prog 13 #[.agg c.cs.toArray, .slice A n cc] w (ErrC w 46) := by
  have HCF := hide hcf
  have HOP := hide hop
  clear hcf hop
  have K0 : Hid (Blk ((w.alloc (.cells c.cs.toArray 48)).alloc (.cells zCli.cs.toArray 48)) w.heap.size 48 c.cs.toArray) := hide ((Blk.new w 48 c.cs.toArray).alloc _)
  have K1 : Hid (Blk ((w.alloc (.cells c.cs.toArray 48)).alloc (.cells zCli.cs.toArray 48)) (w.heap.size + 1) 48 zCli.cs.toArray) := hide (Blk.new' (by simp))
  have B0 : Hid (Below w.heap.size w ((w.alloc (.cells c.cs.toArray 48)).alloc (.cells zCli.cs.toArray 48))) := hide (((Below.refl _ _).alloc (Nat.le_refl _) _).alloc (by rw [size_alloc]; omega) _)
  have HOK := hide hok
  clear hok
  go_enter Try.func13, Try.ntmps13
  go_wp2_with (first
    | (refine wpList_alloc_to rfl 48 rfl _ (w.heap.size + 1) (size_alloc w _) (alloc_cli _) ?_)
    | (refine wpList_load_row rfl 48 _ rfl w.heap.size rfl 48 _ _ _ (unhide K0) Try.underlying48 rfl (cli_info (unhide HOK)) ?_)
    | fail)
  refine (client_sx _ _ (unhide HOK) _ (unhide HCF)).mono ?_
  rintro e w1 ⟨rfl, hb1⟩
  have Z1 := hide ((unhide K0).below hb1 (unhide K0).lt)
  have Q1 := hide ((unhide K1).below hb1 (unhide K1).lt)
  have B1 := hide ((unhide B0).trans (hb1.mono (unhide B0).size))
  clear hb1
  have hc := (c.blk (unhide HOK) (unhide Z1)).opn
  rw [unhide HOP] at hc
  go_wp2_with (first
    | (refine wpList_build_cs rfl 48 _ rfl [] rfl _ build_cli0 ?_)
    | (refine wpList_store_blk rfl 48 (.tmp 4) (.tmp 15) rfl (w.heap.size + 1) 48 _ zCli.cs.toArray rfl rfl (unhide Q1) rfl (cli_info zCli_ok) (fun v hv => Cli.one v (by simpa using hv)) ?_
       intro w9 hb9 hg9
       have Z9 := hide hb9
       have E9 := hide ((unhide B1).grown hg9 (unhide B1).size (fun j e => by injection e with e; omega))
       clear hb9 hg9)
    | fail)
  exact bodyPost_ret (v := .tuple #[.agg zCli.cs.toArray, .slice none 0 0, .int .i64 46]) (res_ctt rfl _ (w.heap.size + 1) 48 _ _ _ _ rfl rfl rfl (unhide Z9) Try.underlying48 rfl (cli_info zCli_ok)) rfl (show ErrC w 46 _ _ from ⟨rfl, unhide E9⟩)
set_option maxRecDepth 100000 in
set_option maxHeartbeats 4000000 in
theorem answer_form (w : World) (c : Cli) (hok : c.Ok) (A : Option Addr) (n cc : Nat) (b : List UInt8) (hr : Reads w w.heap.size 1 A n (bsV b)) (hn : n ≤ maxLen) (hcf : cliF c = true) (hop : c.opn = false) (hfm : ¬ (b.length = 13 ∧ b[0]? = some 2)) :
    Calls Try.prog 13 #[.agg c.cs.toArray, .slice A n cc] w (ErrC w 6) := by
  have HCF := hide hcf
  have HOP := hide hop
  have hl : b.length = n := by have := hr.1; simpa [bsV] using this
  rw [hl] at hfm
  unfold maxLen at hn
  by_cases h13 : n = 13
  · subst h13
    obtain ⟨x, hx, hx2⟩ : ∃ x, b[0]? = some x ∧ x ≠ 2 := ⟨b[0]'(by omega), List.getElem?_eq_getElem _, fun e => hfm ⟨rfl, by rw [List.getElem?_eq_getElem (by omega), e]⟩⟩
    obtain ⟨g, oo, hA, hgl, hcell⟩ := spot_b hr (by omega)
    subst hA
    have c0 := hide (hcell 0 x hx)
    have hne : ((x.toNat : Int) != 2) = true := by
      have : x.toNat ≠ 2 := fun e => hx2 (UInt8.toNat_inj.1 e)
      simp; omega
    clear hcf hop hr hfm hl hcell hx hx2
    have K0 : Hid (Blk ((w.alloc (.cells c.cs.toArray 48)).alloc (.cells zCli.cs.toArray 48)) w.heap.size 48 c.cs.toArray) := hide ((Blk.new w 48 c.cs.toArray).alloc _)
    have K1 : Hid (Blk ((w.alloc (.cells c.cs.toArray 48)).alloc (.cells zCli.cs.toArray 48)) (w.heap.size + 1) 48 zCli.cs.toArray) := hide (Blk.new' (by simp))
    have B0 : Hid (Below w.heap.size w ((w.alloc (.cells c.cs.toArray 48)).alloc (.cells zCli.cs.toArray 48))) := hide (((Below.refl _ _).alloc (Nat.le_refl _) _).alloc (by rw [size_alloc]; omega) _)
    have HOK := hide hok
    clear hok
    go_enter Try.func13, Try.ntmps13
    go_wp2_with (first
      | (refine wpList_alloc_to rfl 48 rfl _ (w.heap.size + 1) (size_alloc w _) (alloc_cli _) ?_)
      | (refine wpList_load_row rfl 48 _ rfl w.heap.size rfl 48 _ _ _ (unhide K0) Try.underlying48 rfl (cli_info (unhide HOK)) ?_)
      | fail)
    refine (client_sx _ _ (unhide HOK) _ (unhide HCF)).mono ?_
    rintro e w1 ⟨rfl, hb1⟩
    have Z1 := hide ((unhide K0).below hb1 (unhide K0).lt)
    have Q1 := hide ((unhide K1).below hb1 (unhide K1).lt)
    have B1 := hide ((unhide B0).trans (hb1.mono (unhide B0).size))
    clear hb1
    have hc := (c.blk (unhide HOK) (unhide Z1)).opn
    rw [unhide HOP] at hc
    have hc0 : w1.cell? ⟨g, oo, none⟩ = some (.int .u8 (x.toNat : Int)) := ((unhide B1).cell (p := ⟨g, oo, none⟩) hgl).trans (unhide c0)
    go_wp2_with (first
      | (refine wpList_build_cs rfl 48 _ rfl [] rfl _ build_cli0 ?_)
      | (refine wpList_store_blk rfl 48 (.tmp 4) (.tmp 26) rfl (w.heap.size + 1) 48 _ zCli.cs.toArray rfl rfl (unhide Q1) rfl (cli_info zCli_ok) (fun v hv => Cli.one v (by simpa using hv)) ?_
         intro w9 hb9 hg9
         have Z9 := hide hb9
         have E9 := hide ((unhide B1).grown hg9 (unhide B1).size (fun j e => by injection e with e; omega))
         clear hb9 hg9)
      | fail)
    exact bodyPost_ret (v := .tuple #[.agg zCli.cs.toArray, .slice none 0 0, .int .i64 6]) (res_ctt rfl _ (w.heap.size + 1) 48 _ _ _ _ rfl rfl rfl (unhide Z9) Try.underlying48 rfl (cli_info zCli_ok)) rfl (show ErrC w 6 _ _ from ⟨rfl, unhide E9⟩)
  · have hne : ((n : Int) != 13) = true := by simp; omega
    clear hcf hop hr hfm hl
    have K0 : Hid (Blk ((w.alloc (.cells c.cs.toArray 48)).alloc (.cells zCli.cs.toArray 48)) w.heap.size 48 c.cs.toArray) := hide ((Blk.new w 48 c.cs.toArray).alloc _)
    have K1 : Hid (Blk ((w.alloc (.cells c.cs.toArray 48)).alloc (.cells zCli.cs.toArray 48)) (w.heap.size + 1) 48 zCli.cs.toArray) := hide (Blk.new' (by simp))
    have B0 : Hid (Below w.heap.size w ((w.alloc (.cells c.cs.toArray 48)).alloc (.cells zCli.cs.toArray 48))) := hide (((Below.refl _ _).alloc (Nat.le_refl _) _).alloc (by rw [size_alloc]; omega) _)
    have HOK := hide hok
    clear hok
    go_enter Try.func13, Try.ntmps13
    go_wp2_with (first
      | (refine wpList_alloc_to rfl 48 rfl _ (w.heap.size + 1) (size_alloc w _) (alloc_cli _) ?_)
      | (refine wpList_load_row rfl 48 _ rfl w.heap.size rfl 48 _ _ _ (unhide K0) Try.underlying48 rfl (cli_info (unhide HOK)) ?_)
      | fail)
    refine (client_sx _ _ (unhide HOK) _ (unhide HCF)).mono ?_
    rintro e w1 ⟨rfl, hb1⟩
    have Z1 := hide ((unhide K0).below hb1 (unhide K0).lt)
    have Q1 := hide ((unhide K1).below hb1 (unhide K1).lt)
    have B1 := hide ((unhide B0).trans (hb1.mono (unhide B0).size))
    clear hb1
    have hc := (c.blk (unhide HOK) (unhide Z1)).opn
    rw [unhide HOP] at hc
    go_wp2_with (first
      | (refine wpList_build_cs rfl 48 _ rfl [] rfl _ build_cli0 ?_)
      | (refine wpList_store_blk rfl 48 (.tmp 4) (.tmp 26) rfl (w.heap.size + 1) 48 _ zCli.cs.toArray rfl rfl (unhide Q1) rfl (cli_info zCli_ok) (fun v hv => Cli.one v (by simpa using hv)) ?_
         intro w9 hb9 hg9
         have Z9 := hide hb9
         have E9 := hide ((unhide B1).grown hg9 (unhide B1).size (fun j e => by injection e with e; omega))
         clear hb9 hg9)
      | fail)
    exact bodyPost_ret (v := .tuple #[.agg zCli.cs.toArray, .slice none 0 0, .int .i64 6]) (res_ctt rfl _ (w.heap.size + 1) 48 _ _ _ _ rfl rfl rfl (unhide Z9) Try.underlying48 rfl (cli_info zCli_ok)) rfl (show ErrC w 6 _ _ from ⟨rfl, unhide E9⟩)
set_option maxRecDepth 100000 in
set_option maxHeartbeats 8000000 in
theorem answer_ok (w : World) (c : Cli) (hok : c.Ok) (A : Option Addr) (cc : Nat) (b : List UInt8) (hr : Reads w w.heap.size 1 A 13 (bsV b)) (hnc : 13 ≤ cc) (hcf : cliF c = true) (hop : c.opn = false) (hb0 : b[0]? = some 2) :
    Calls Try.prog 13 #[.agg c.cs.toArray, .slice A 13 cc] w (BegPost w (ansC c b) (provF 3 c.key (ansC c b).id c.nonce (ansC c b).server (levB c.level))) := by
  have HCF := hide hcf
  have HOP := hide hop
  have hl : b.length = 13 := by have := hr.1; simpa [bsV] using this
  obtain ⟨g, oo, hA, hgl, hcell⟩ := spot_b hr (by omega)
  have c0 := hide (hcell 0 2 hb0)
  have hlv := hide (levB_of (cliF_level hcf))
  have HR := hide hr
  have HNC := hide hnc
  have HLN := hide hl
  have HKL := hide hok.key
  obtain ⟨x, hx⟩ : ∃ x, leW ((b.drop 1).take 4) = x := ⟨_, rfl⟩
  obtain ⟨y, hy⟩ : ∃ y, leW (b.drop 5) = y := ⟨_, rfl⟩
  obtain ⟨z, hz⟩ : ∃ z, derF c.key sessL (c.nonce : Int) (y : Int) = z := ⟨_, rfl⟩
  have ha : ansC c b = { c with id := x, server := y, sess := z } := by rw [← hx, ← hz, ← hy]; rfl
  have hzl : z.length = 16 := by rw [← hz]; exact der_len _ _ _ _
  have hxl : x < 4294967296 := by rw [← hx]; exact leW4 _ _
  have hyl : y < 18446744073709551616 := by rw [← hy]; exact leW_lt8 _ (by simp; omega)
  have O1 : ({ c with id := x } : Cli).Ok := ⟨hok.user, hok.key, hok.sess, hok.nonce, hok.server, hxl, hok.hi, hok.se, hok.out⟩
  have O2 : ({ c with id := x, server := y } : Cli).Ok := ⟨hok.user, hok.key, hok.sess, hok.nonce, hyl, hxl, hok.hi, hok.se, hok.out⟩
  have O3 : ({ c with id := x, server := y, sess := z } : Cli).Ok := ⟨hok.user, hok.key, hzl, hok.nonce, hyl, hxl, hok.hi, hok.se, hok.out⟩
  rw [ha]
  dsimp only
  have HO1 := hide O1
  have HO2 := hide O2
  have HO3 := hide O3
  have HX := hide hx
  have HY := hide hy
  have HZ := hide hz
  have HZL := hide hzl
  have HXL := hide hxl
  have HYL := hide hyl
  have HA := hide hA
  have HSA := hide (fun W => sl_lh W A 13 cc 1 5 1 5 rfl rfl (by omega) (by omega))
  have HSB := hide (fun W => sl_l W A 13 cc 5 5 rfl (by omega))
  have wx : IntKind.u32.wrap (x : Int) = (x : Int) := IntWalk.u32_in _ (by omega)
  clear hcf hop hr hl hcell hb0 hnc hx hy hz ha hzl O1 O2 O3
  subst hA
  have K0 : Hid (Blk ((w.alloc (.cells c.cs.toArray 48)).alloc (.cells zCli.cs.toArray 48)) w.heap.size 48 c.cs.toArray) := hide ((Blk.new w 48 c.cs.toArray).alloc _)
  have K1 : Hid (Blk ((w.alloc (.cells c.cs.toArray 48)).alloc (.cells zCli.cs.toArray 48)) (w.heap.size + 1) 48 zCli.cs.toArray) := hide (Blk.new' (by simp))
  have B0 : Hid (Below w.heap.size w ((w.alloc (.cells c.cs.toArray 48)).alloc (.cells zCli.cs.toArray 48))) := hide (((Below.refl _ _).alloc (Nat.le_refl _) _).alloc (by rw [size_alloc]; omega) _)
  have HOK := hide hok
  clear hok
  go_enter Try.func13, Try.ntmps13
  go_wp2_with (first
    | (refine wpList_alloc_to rfl 48 rfl _ (w.heap.size + 1) (size_alloc w _) (alloc_cli _) ?_)
    | (refine wpList_load_row rfl 48 _ rfl w.heap.size rfl 48 _ _ _ (unhide K0) Try.underlying48 rfl (cli_info (unhide HOK)) ?_)
    | fail)
  refine (client_sx _ _ (unhide HOK) _ (unhide HCF)).mono ?_
  rintro e w1 ⟨rfl, hb1⟩
  have Z1 := hide ((unhide K0).below hb1 (unhide K0).lt)
  have Q1 := hide ((unhide K1).below hb1 (unhide K1).lt)
  have B1 := hide ((unhide B0).trans (hb1.mono (unhide B0).size))
  clear hb1
  have hc := (c.blk (unhide HOK) (unhide Z1)).opn
  rw [unhide HOP] at hc
  have hc0 : w1.cell? ⟨g, oo, none⟩ = some (.int .u8 2) := ((unhide B1).cell (p := ⟨g, oo, none⟩) hgl).trans (unhide c0)
  have R1 := hide ((unhide HR).below (unhide B1))
  go_upto_region 7 with fail
  clear hc hc0
  have hS0 : (fun _ : World => True) w1.drew := trivial
  refine wp_region_noPanic (wp_region_held_drew (S := fun _ => True) (by kernel_rfl) hS0 (fun _ => ?_))
  refine th_take (i := 0) (v := ?_) rfl (by kernel_rfl) (by kernel_rfl) (by kernel_rfl) (Or.inl ⟨by rfl, fun wz hSw => ?_⟩) hS0 ?_
  rotate_left
  · go_simp
    with_reducible rfl
  simp only [Act.put, List.setIfInBounds_toArray, List.set_cons_zero, List.set_cons_succ]
  refine th_take (i := 1) (v := .slice (subA (some ⟨g, oo, none⟩) 1 cc) 4 (cc - 1)) rfl (by kernel_rfl) (by kernel_rfl) (by kernel_rfl) (Or.inl ⟨by rfl, fun wz hSw => ?_⟩) hS0 ?_
  · have hq := unhide HSA wz
    go_simp
  simp only [Act.put, List.setIfInBounds_toArray, List.set_cons_zero, List.set_cons_succ]
  refine th_take (i := 4) (v := ?_) rfl (by kernel_rfl) (by kernel_rfl) (by kernel_rfl) (Or.inl ⟨by rfl, fun wz hSw => ?_⟩) hS0 ?_
  rotate_left
  · go_simp
    with_reducible rfl
  simp only [Act.put, List.setIfInBounds_toArray, List.set_cons_zero, List.set_cons_succ]
  refine th_take (i := 5) (v := .slice (subA (some ⟨g, oo, none⟩) 5 cc) 8 (cc - 5)) rfl (by kernel_rfl) (by kernel_rfl) (by kernel_rfl) (Or.inl ⟨by rfl, fun wz hSw => ?_⟩) hS0 ?_
  · have hq := unhide HSB wz
    go_simp
  simp only [Act.put, List.setIfInBounds_toArray, List.set_cons_zero, List.set_cons_succ]
  refine th_one (i := 2) rfl (by kernel_rfl) (fun K hK => ?_)
  rw [if_pos (by rfl)]
  go_simp
  have hr2 := ((unhide R1).drew).part (i := 1) (j := 5) (c := cc) (by omega) (by omega) (unhide HNC)
  refine (number_sx _ 4 (cc - 1) ((b.drop 1).take 4) _ _ hr2 (by omega)).mono ?_
  rw [unhide HX]
  clear hr2
  rintro e w' ⟨rfl, rfl⟩
  refine hK.out _ _ hS0 (fun _ => ?_)
  clear hK K
  try simp only [Act.put, List.setIfInBounds_toArray, List.set_cons_zero, List.set_cons_succ]
  refine th_take (i := 3) (v := .int .u32 (x : Int)) rfl (by kernel_rfl) (by kernel_rfl) (by kernel_rfl) (Or.inl ⟨by rfl, fun wz hSw => ?_⟩) hS0 ?_
  · skip
    go_simp
  simp only [Act.put, List.setIfInBounds_toArray, List.set_cons_zero, List.set_cons_succ]
  refine th_take (i := 7) (v := ?_) rfl (by kernel_rfl) (by kernel_rfl) (by kernel_rfl) (Or.inl ⟨by rfl, fun wz hSw => ?_⟩) hS0 ?_
  rotate_left
  · go_simp
    with_reducible rfl
  simp only [Act.put, List.setIfInBounds_toArray, List.set_cons_zero, List.set_cons_succ]
  refine th_one (i := 6) rfl (by kernel_rfl) (fun K hK => ?_)
  rw [if_pos (by rfl)]
  go_simp
  have hr2 := ((unhide R1).drew).rest (i := 5) (c := cc) (by omega) (unhide HNC)
  refine (number_sx _ 8 (cc - 5) (b.drop 5) _ _ hr2 (by omega)).mono ?_
  rw [unhide HY]
  clear hr2
  rintro e w' ⟨rfl, rfl⟩
  refine hK.out _ _ hS0 (fun _ => ?_)
  clear hK K
  try simp only [Act.put, List.setIfInBounds_toArray, List.set_cons_zero, List.set_cons_succ]
  have hk2 : Blk w1.drew w.heap.size 48 c.cs.toArray := unhide Z1
  have hq2 : Blk w1.drew (w.heap.size + 1) 48 zCli.cs.toArray := unhide Q1
  refine th_one (i := 8) rfl (by kernel_rfl) (fun K hK => ?_)
  refine step_store_part (by rfl) 22 (.tmp 34) (.tmp 30) rfl w.heap.size 20 48 c.cs.toArray (.int .u32 (x : Int)) [.int .u32 (x : Int)] ({ c with id := x } : Cli).cs rfl rfl hk2 rfl (by rw [Cli.size (unhide HOK)]; simp) (by kernel_rfl) (one1 rfl) (Cli.set_id (unhide HOK) x) ?_
  intro w2 hb2 hg2
  refine hK.out _ _ trivial (fun _ => ?_)
  clear hK K
  try simp only [Act.put]
  refine th_take (i := 9) (v := ?_) rfl (by kernel_rfl) (by kernel_rfl) (by kernel_rfl) (Or.inl ⟨by rfl, fun wz hSw => ?_⟩) hS0 ?_
  rotate_left
  · go_simp
    with_reducible rfl
  simp only [Act.put, List.setIfInBounds_toArray, List.set_cons_zero, List.set_cons_succ]
  refine th_one (i := 10) rfl (by kernel_rfl) (fun K hK => ?_)
  refine step_store_part (by rfl) 46 (.tmp 35) (.tmp 33) rfl w.heap.size 19 48 ({ c with id := x } : Cli).cs.toArray (.int .u64 (y : Int)) [.int .u64 (y : Int)] ({ c with id := x, server := y } : Cli).cs rfl rfl hb2 rfl (by rw [Cli.size (unhide HO1)]; simp) (by kernel_rfl) (one1 rfl) (Cli.set_server (unhide HO1) y) ?_
  intro w3 hb3 hg3
  refine hK.out _ _ trivial (fun _ => ?_)
  clear hK K
  try simp only [Act.put]
  refine wpAnyH_done (by kernel_rfl) (NoPanic.normal ?_) _
  have B3 : Hid (Below w.heap.size w w3) := hide ((((unhide B1).drew).grown hg2 (unhide B1).size (fun j e => by injection e with e; omega)).grown hg3 (((unhide B1).drew).grown hg2 (unhide B1).size (fun j e => by injection e with e; omega)).size (fun j e => by injection e with e; omega))
  have Q3 := hide ((hq2.grown hg2 (fun e => by injection e with e; omega)).grown hg3 (fun e => by injection e with e; omega))
  have Z3 := hide hb3
  clear hb2 hb3 hg2 hg3 hk2 hq2 hS0
  have hat := (Cli.blk (unhide HO2) (unhide Z3))
  have h18 := hat.nonce
  have h19 := hat.server
  dsimp only at h18 h19
  clear hat
  obtain ⟨dk, hdk, hdr⟩ := key_isRow
  have HDK := hide hdk
  have HDR := hide hdr
  clear hdk hdr
  go_wp2_with (first
    | (refine wpList_load_part rfl 36 (.tmp 36) rfl w.heap.size 1 48 _ (bsV c.key) dk rfl (unhide Z3) ((Cli.at_ (unhide HO2)).key) (unhide HDK) (unhide HDR) (key_info _ (unhide HKL)) ?_)
    | fail)
  refine (derive_any w3 c.key (unhide HKL) ⟨#[115, 101, 115, 115, 105, 111, 110]⟩ (by decide) (c.nonce : Int) (y : Int) (by omega) (by omega)).mono ?_
  rintro e w4 ⟨rfl, hb4⟩
  have ez : derF c.key (ByteArray.mk #[115, 101, 115, 115, 105, 111, 110]).data.toList (c.nonce : Int) (y : Int) = z := unhide HZ
  rw [ez]
  have Z4 := hide ((unhide Z3).below hb4 (unhide Z3).lt)
  have Q4 := hide ((unhide Q3).below hb4 (unhide Q3).lt)
  have B4 := hide ((unhide B3).trans (hb4.mono (unhide B3).size))
  clear hb4 h18 h19 ez
  go_upto_region 9 with (first
    | (refine wpList_store_part rfl 36 (.tmp 43) (.tmp 42) rfl w.heap.size 21 48 _ (.agg (bsV z).toArray) (bsV z) ({ c with id := x, server := y, sess := z } : Cli).cs rfl rfl (unhide Z4) rfl (by rw [Cli.size (unhide HO2)]; simp [unhide HZL]) (key_info _ (unhide HZL)) (bsV_one z) (Cli.set_sess (unhide HO2) z (unhide HZL)) ?_
       intro w5 hb5 hg5
       have Z5 := hide hb5
       have Q5 := hide ((unhide Q4).grown hg5 (fun e => by injection e with e; omega))
       have B5 := hide ((unhide B4).grown hg5 (unhide B4).size (fun j e => by injection e with e; omega))
       clear hb5 hg5)
    | fail)
  obtain ⟨d, hd⟩ : ∃ d : Cli, d = { c with id := x, server := y, sess := z } := ⟨_, rfl⟩
  have Z6 := unhide Z5
  have O6 := unhide HO3
  have hkd : d.key = c.key := by rw [hd]
  have hid : d.id = x := by rw [hd]
  have hnd : d.nonce = c.nonce := by rw [hd]
  have hsd : d.server = y := by rw [hd]
  have hld : d.level = c.level := by rw [hd]
  rw [← hd] at Z6 O6 ⊢
  have HZ6 := hide Z6
  have HO6 := hide O6
  have HDD := hide hd
  clear Z5 Z6 O6 HO3 hd
  have hB0 : Below w5.heap.size w5 w5.drew := (Below.refl _ _).drew
  have hS0 : (fun wz => Blk wz w.heap.size 48 d.cs.toArray) w5.drew := unhide HZ6
  refine wp_region_noPanic (wp_region_held_drew (S := fun wz => Blk wz w.heap.size 48 d.cs.toArray) (by kernel_rfl) hS0 (fun _ => ?_))
  refine th_take (i := 0) rfl (by kernel_rfl) (by kernel_rfl) (by kernel_rfl) (y_loadblk 48 (.tmp 2) (by rfl) rfl w.heap.size rfl 48 d.cs.toArray _ (fun _ h => h) Try.underlying48 rfl (cli_info (unhide HO6))) hS0 ?_
  simp only [Act.put, List.setIfInBounds_toArray, List.set_cons_zero, List.set_cons_succ]
  refine th_take (i := 1) (v := ?_) rfl (by kernel_rfl) (by kernel_rfl) (by kernel_rfl) (Or.inl ⟨by rfl, fun wz hSw => ?_⟩) hS0 ?_
  rotate_left
  · go_simp
    with_reducible rfl
  simp only [Act.put, List.setIfInBounds_toArray, List.set_cons_zero, List.set_cons_succ]
  refine th_take (i := 2) rfl (by kernel_rfl) (by kernel_rfl) (by kernel_rfl) (y_loadpart 36 (.tmp 45) (by rfl) rfl w.heap.size 1 rfl 48 d.cs.toArray (bsV d.key) dk (fun _ h => h) ((Cli.at_ (unhide HO6)).key) (unhide HDK) (unhide HDR) (key_info _ (unhide HO6).key)) hS0 ?_
  simp only [Act.put, List.setIfInBounds_toArray, List.set_cons_zero, List.set_cons_succ]
  refine th_take (i := 3) (v := ?_) rfl (by kernel_rfl) (by kernel_rfl) (by kernel_rfl) (Or.inl ⟨by rfl, fun wz hSw => ?_⟩) hS0 ?_
  rotate_left
  · go_simp
    with_reducible rfl
  simp only [Act.put, List.setIfInBounds_toArray, List.set_cons_zero, List.set_cons_succ]
  refine th_take (i := 4) (v := .int .u32 (d.id : Int)) rfl (by kernel_rfl) (by kernel_rfl) (by kernel_rfl) (Or.inl ⟨by rfl, fun wz hSw => ?_⟩) hS0 ?_
  · have hq := (Cli.blk (unhide HO6) hSw).id
    go_simp
  simp only [Act.put, List.setIfInBounds_toArray, List.set_cons_zero, List.set_cons_succ]
  refine th_take (i := 5) (v := ?_) rfl (by kernel_rfl) (by kernel_rfl) (by kernel_rfl) (Or.inl ⟨by rfl, fun wz hSw => ?_⟩) hS0 ?_
  rotate_left
  · go_simp
    with_reducible rfl
  simp only [Act.put, List.setIfInBounds_toArray, List.set_cons_zero, List.set_cons_succ]
  refine th_take (i := 6) (v := .int .u64 (d.nonce : Int)) rfl (by kernel_rfl) (by kernel_rfl) (by kernel_rfl) (Or.inl ⟨by rfl, fun wz hSw => ?_⟩) hS0 ?_
  · have hq := (Cli.blk (unhide HO6) hSw).nonce
    go_simp
  simp only [Act.put, List.setIfInBounds_toArray, List.set_cons_zero, List.set_cons_succ]
  refine th_take (i := 7) (v := ?_) rfl (by kernel_rfl) (by kernel_rfl) (by kernel_rfl) (Or.inl ⟨by rfl, fun wz hSw => ?_⟩) hS0 ?_
  rotate_left
  · go_simp
    with_reducible rfl
  simp only [Act.put, List.setIfInBounds_toArray, List.set_cons_zero, List.set_cons_succ]
  refine th_take (i := 8) (v := .int .u64 (d.server : Int)) rfl (by kernel_rfl) (by kernel_rfl) (by kernel_rfl) (Or.inl ⟨by rfl, fun wz hSw => ?_⟩) hS0 ?_
  · have hq := (Cli.blk (unhide HO6) hSw).server
    go_simp
  simp only [Act.put, List.setIfInBounds_toArray, List.set_cons_zero, List.set_cons_succ]
  refine th_take (i := 9) (v := ?_) rfl (by kernel_rfl) (by kernel_rfl) (by kernel_rfl) (Or.inl ⟨by rfl, fun wz hSw => ?_⟩) hS0 ?_
  rotate_left
  · go_simp
    with_reducible rfl
  simp only [Act.put, List.setIfInBounds_toArray, List.set_cons_zero, List.set_cons_succ]
  refine th_take (i := 10) (v := .int .i64 d.level) rfl (by kernel_rfl) (by kernel_rfl) (by kernel_rfl) (Or.inl ⟨by rfl, fun wz hSw => ?_⟩) hS0 ?_
  · have hq := (Cli.blk (unhide HO6) hSw).level
    go_simp
  simp only [Act.put, List.setIfInBounds_toArray, List.set_cons_zero, List.set_cons_succ]
  refine th_one (i := 11) rfl (by kernel_rfl) (fun K hK => ?_)
  rw [if_pos (by rfl)]
  go_simp
  rw [← unhide hlv]
  refine (proved_sx _ 3 c.key (unhide HKL) x c.nonce y (unhide HXL) (levB c.level)).mono ?_
  rintro e w6 ⟨v6, rfl, ho6, hb6⟩
  have hb6 : Below w5.heap.size w5 w6 := hB0.trans hb6
  have hz6 : Blk w6 w.heap.size 48 d.cs.toArray := (unhide HZ6).below hb6 (unhide HZ6).lt
  have hq6 : Blk w6 (w.heap.size + 1) 48 zCli.cs.toArray := (unhide Q5).below hb6 (unhide Q5).lt
  have hx6 : Below w.heap.size w w6 := (unhide B5).trans (hb6.mono (unhide B5).size)
  have ho6' : w6.ownsRow w.heap.size 5 1 v6 13 (bsV (provF 3 c.key x c.nonce y (levB c.level))) := own_more ho6 (unhide B5).size
  refine hK.out _ _ hz6 (fun _ => ?_)
  clear hK K
  try simp only [Act.put, List.setIfInBounds_toArray, List.set_cons_zero, List.set_cons_succ]
  refine th_one (i := 12) rfl (by kernel_rfl) (fun K hK => ?_)
  have hsq := Cli.size_eq (unhide HO6)
  refine step_store_blk (by rfl) 48 (.tmp 4) (.tmp 44) rfl (w.heap.size + 1) 48 _ d.cs.toArray rfl rfl hq6 hsq (cli_info (unhide HO6)) (fun v hv => Cli.one v (by simpa using hv)) ?_
  intro w8 hb8 hg8
  have hz8 : Blk w8 w.heap.size 48 d.cs.toArray := hz6.grown hg8 (fun e => by injection e with e; omega)
  have hx8 : Below w.heap.size w w8 := hx6.grown hg8 hx6.size (fun j e => by injection e with e; omega)
  have ho8 : w8.ownsRow w.heap.size 5 1 v6 13 (bsV (provF 3 c.key x c.nonce y (levB c.level))) := World.ownsRow.kept ho6' hg8 (.inr (own_blk_ne ho6' hq6 (by decide)))
  refine hK.out _ _ hz8 (fun _ => ?_)
  clear hK K
  try simp only [Act.put]
  refine th_take (i := 13) (v := ?_) rfl (by kernel_rfl) (by kernel_rfl) (by kernel_rfl) (Or.inl ⟨by rfl, fun wz hSw => ?_⟩) hz8 ?_
  rotate_left
  · go_simp
    with_reducible rfl
  simp only [Act.put, List.setIfInBounds_toArray, List.set_cons_zero, List.set_cons_succ]
  refine th_take (i := 14) (v := ?_) rfl (by kernel_rfl) (by kernel_rfl) (by kernel_rfl) (Or.inl ⟨by rfl, fun wz hSw => ?_⟩) hz8 ?_
  rotate_left
  · go_simp
    with_reducible rfl
  simp only [Act.put, List.setIfInBounds_toArray, List.set_cons_zero, List.set_cons_succ]
  refine wpAnyH_done (by kernel_rfl) (NoPanic.normal ?_) _
  have H8 := hide hb8
  have O8 := hide ho8
  have X8 := hide hx8
  clear hb8 ho8 hx8 hg8 hq6 hz6 hx6 hz8 ho6 ho6' hb6 hS0 hB0
  go_wp2_with fail
  refine bodyPost_ret (v := .tuple #[.agg d.cs.toArray, v6, .int .i64 0]) (res_ctt rfl _ (w.heap.size + 1) 48 _ _ _ _ rfl rfl rfl (unhide H8) Try.underlying48 rfl (cli_info (unhide HO6))) rfl (show BegPost w _ _ _ _ from ⟨v6, by rw [← unhide HDD], ?_, unhide X8⟩)
  rw [provF_len]
  exact unhide O8
end Go.Proofs.Ytfbkkmnkpjgciaa
