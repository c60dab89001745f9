/- session.Accept and session.Post where they succeed (printed by wip/gen_sacc.py). -/
import Derived.Test.YtfbkkmnkpjgciaaSAnswer
import Derived.Test.YtfbkkmnkpjgciaaSLePlain
namespace Go.Proofs.Ytfbkkmnkpjgciaa
open Go.RowKit
theorem provF_head (f : UInt8) (ks : List UInt8) (id cl sv : Nat) (lb : UInt8) : (provF f ks id cl sv lb)[0]? = some f := rfl
theorem provF_id (f : UInt8) (ks : List UInt8) (id cl sv : Nat) (lb : UInt8) (h : id < 4294967296) : leW (((provF f ks id cl sv lb).drop 1).take 4) = id := by
  have e : ((provF f ks id cl sv lb).drop 1).take 4 = leB (id : Int) 4 := by
    have : provF f ks id cl sv lb = f :: (leB (id : Int) 4 ++ leB (sumF ks (ptextF f id cl sv lb)) 8) := by simp [provF, headF, joinF]
    rw [this, List.drop_succ_cons, List.drop_zero]
    exact List.take_left' (leB_len _ _)
  rw [e, leW_leB_nat]
  exact Nat.mod_eq_of_lt h
def AccPost (w : World) (c : Cli) (e : Ending) (w' : World) : Prop := e = .returned (.tuple #[.agg c.cs.toArray, .int .i64 0]) ∧ Below w.heap.size w w' 
set_option maxRecDepth 100000 in
set_option maxHeartbeats 8000000 in
theorem accept_ok (w : World) (c : Cli) (hok : c.Ok) (A : Option Addr) (cc : Nat) (b : List UInt8) (hr : Reads w w.heap.size 1 A 13 (bsV b)) (hnc : 13 ≤ cc) (hcf : cliF c = true) (hop : c.opn = false) (hid0 : c.id ≠ 0)
    (hb : b = provF 4 c.key c.id c.nonce c.server (levB c.level)) : Calls Try.prog 15 #[.agg c.cs.toArray, .slice A 13 cc] w (AccPost w { c with opn := true }) := by
  have HCF := hide hcf
  have HOP := hide hop
  have hl : b.length = 13 := by rw [hb]; exact provF_len _ _ _ _ _ _
  have hb0 : b[0]? = some 4 := by rw [hb]; exact provF_head _ _ _ _ _ _
  have hbid : leW ((b.drop 1).take 4) = c.id := by rw [hb]; exact provF_id _ _ _ _ _ _ hok.id
  obtain ⟨g, oo, hA, hgl, hcell⟩ := spot_b hr (by omega)
  have c0 := hide (hcell 0 4 hb0)
  have hlv := hide (levB_of (cliF_level hcf))
  have HR := hide hr
  have HNC := hide hnc
  have HBID := hide hbid
  have HB := hide hb
  have O1 : ({ c with opn := true } : Cli).Ok := ⟨hok.user, hok.key, hok.sess, hok.nonce, hok.server, hok.id, hok.hi, hok.se, hok.out⟩
  have HO1 := hide O1
  have hcid := hok.id
  have hid1 : ((c.id : Int) == 0) = false := by simp; omega
  have wid : IntKind.u32.wrap (c.id : Int) = (c.id : Int) := IntWalk.u32_in _ (by omega)
  have HSA := hide (fun W => sl_lh W A 13 cc 1 5 1 5 rfl rfl (by omega) (by omega))
  have hneq : ((c.id : Int) != (c.id : Int)) = false := by simp
  clear hcf hop hr hl hcell hb0 hnc hbid hb hid0 O1
  subst hA
  have K0 : Hid (Blk ((w.alloc (.cells c.cs.toArray 48)).alloc (.cells zCli.cs.toArray 48)) w.heap.size 48 c.cs.toArray) := hide ((Blk.new w 48 c.cs.toArray).alloc _)
  have K1 : Hid (Blk ((w.alloc (.cells c.cs.toArray 48)).alloc (.cells zCli.cs.toArray 48)) (w.heap.size + 1) 48 zCli.cs.toArray) := hide (Blk.new' (by simp))
  have B0 : Hid (Below w.heap.size w ((w.alloc (.cells c.cs.toArray 48)).alloc (.cells zCli.cs.toArray 48))) := hide (((Below.refl _ _).alloc (Nat.le_refl _) _).alloc (by rw [size_alloc]; omega) _)
  have HOK := hide hok
  clear hok
  go_enter Try.func15, Try.ntmps15
  go_wp2_with (first
    | (refine wpList_alloc_to rfl 48 rfl _ (w.heap.size + 1) (size_alloc w _) (alloc_cli _) ?_)
    | (refine wpList_load_row rfl 48 _ rfl w.heap.size rfl 48 _ _ _ (unhide K0) Try.underlying48 rfl (cli_info (unhide HOK)) ?_)
    | fail)
  refine (client_sx _ _ (unhide HOK) _ (unhide HCF)).mono ?_
  rintro e w1 ⟨rfl, hb1⟩
  have Z1 := hide ((unhide K0).below hb1 (unhide K0).lt)
  have Q1 := hide ((unhide K1).below hb1 (unhide K1).lt)
  have B1 := hide ((unhide B0).trans (hb1.mono (unhide B0).size))
  clear hb1
  have hat := (c.blk (unhide HOK) (unhide Z1))
  have hc := hat.opn
  rw [unhide HOP] at hc
  have hc20 := hat.id
  have hc0 : w1.cell? ⟨g, oo, none⟩ = some (.int .u8 4) := ((unhide B1).cell (p := ⟨g, oo, none⟩) hgl).trans (unhide c0)
  have R1 := hide ((unhide HR).below (unhide B1))
  have R1' := hide (((unhide HR).below (unhide B1)).more (unhide B1).size)
  clear hat
  go_upto_region 5 with fail
  have hS0 : (fun wz : World => Blk wz w.heap.size 48 c.cs.toArray ∧ wz.cell? ⟨g, oo, none⟩ = some (.int .u8 4)) w1.drew := ⟨unhide Z1, hc0⟩
  clear hc hc20 hc0
  refine wp_region_noPanic (wp_region_held_drew (S := fun wz => Blk wz w.heap.size 48 c.cs.toArray ∧ wz.cell? ⟨g, oo, none⟩ = some (.int .u8 4)) (by kernel_rfl) hS0 (fun _ => ?_))
  refine th_take (i := 0) (v := ?_) rfl (by kernel_rfl) (by kernel_rfl) (by kernel_rfl) (Or.inl ⟨by rfl, fun wz hSw => ?_⟩) hS0 ?_
  rotate_left
  · go_simp
    with_reducible rfl
  simp only [Act.put, List.setIfInBounds_toArray, List.set_cons_zero, List.set_cons_succ]
  refine th_take (i := 1) (v := ?_) rfl (by kernel_rfl) (by kernel_rfl) (by kernel_rfl) (Or.inl ⟨by rfl, fun wz hSw => ?_⟩) hS0 ?_
  rotate_left
  · go_simp
    with_reducible rfl
  simp only [Act.put, List.setIfInBounds_toArray, List.set_cons_zero, List.set_cons_succ]
  refine th_take (i := 2) (v := ?_) rfl (by kernel_rfl) (by kernel_rfl) (by kernel_rfl) (Or.inl ⟨by rfl, fun wz hSw => ?_⟩) hS0 ?_
  rotate_left
  · go_simp
    with_reducible rfl
  simp only [Act.put, List.setIfInBounds_toArray, List.set_cons_zero, List.set_cons_succ]
  refine th_take (i := 3) (v := ?_) rfl (by kernel_rfl) (by kernel_rfl) (by kernel_rfl) (Or.inl ⟨by rfl, fun wz hSw => ?_⟩) hS0 ?_
  rotate_left
  · go_simp
    with_reducible rfl
  simp only [Act.put, List.setIfInBounds_toArray, List.set_cons_zero, List.set_cons_succ]
  refine th_take (i := 4) (v := ?_) rfl (by kernel_rfl) (by kernel_rfl) (by kernel_rfl) (Or.inl ⟨by rfl, fun wz hSw => ?_⟩) hS0 ?_
  rotate_left
  · go_simp
    with_reducible rfl
  simp only [Act.put, List.setIfInBounds_toArray, List.set_cons_zero, List.set_cons_succ]
  refine th_take (i := 5) (v := ?_) rfl (by kernel_rfl) (by kernel_rfl) (by kernel_rfl) (Or.inl ⟨by rfl, fun wz hSw => ?_⟩) hS0 ?_
  rotate_left
  · go_simp
    with_reducible rfl
  simp only [Act.put, List.setIfInBounds_toArray, List.set_cons_zero, List.set_cons_succ]
  refine th_take (i := 6) (v := .int .u8 4) rfl (by kernel_rfl) (by kernel_rfl) (by kernel_rfl) (Or.inl ⟨by rfl, fun wz hSw => ?_⟩) hS0 ?_
  · have hq := hSw.2
    go_simp
  simp only [Act.put, List.setIfInBounds_toArray, List.set_cons_zero, List.set_cons_succ]
  refine th_take (i := 7) (v := ?_) rfl (by kernel_rfl) (by kernel_rfl) (by kernel_rfl) (Or.inl ⟨by rfl, fun wz hSw => ?_⟩) hS0 ?_
  rotate_left
  · go_simp
    with_reducible rfl
  simp only [Act.put, List.setIfInBounds_toArray, List.set_cons_zero, List.set_cons_succ]
  refine th_take (i := 8) (v := ?_) rfl (by kernel_rfl) (by kernel_rfl) (by kernel_rfl) (Or.inl ⟨by rfl, fun wz hSw => ?_⟩) hS0 ?_
  rotate_left
  · go_simp
    with_reducible rfl
  simp only [Act.put, List.setIfInBounds_toArray, List.set_cons_zero, List.set_cons_succ]
  refine th_take (i := 9) (v := ?_) rfl (by kernel_rfl) (by kernel_rfl) (by kernel_rfl) (Or.inl ⟨by rfl, fun wz hSw => ?_⟩) hS0 ?_
  rotate_left
  · go_simp
    with_reducible rfl
  simp only [Act.put, List.setIfInBounds_toArray, List.set_cons_zero, List.set_cons_succ]
  refine th_take (i := 10) (v := ?_) rfl (by kernel_rfl) (by kernel_rfl) (by kernel_rfl) (Or.inl ⟨by rfl, fun wz hSw => ?_⟩) hS0 ?_
  rotate_left
  · go_simp
    with_reducible rfl
  simp only [Act.put, List.setIfInBounds_toArray, List.set_cons_zero, List.set_cons_succ]
  refine th_take (i := 11) (v := .slice (subA (some ⟨g, oo, none⟩) 1 cc) 4 (cc - 1)) rfl (by kernel_rfl) (by kernel_rfl) (by kernel_rfl) (Or.inl ⟨by rfl, fun wz hSw => ?_⟩) hS0 ?_
  · have hq := unhide HSA wz
    go_simp
  simp only [Act.put, List.setIfInBounds_toArray, List.set_cons_zero, List.set_cons_succ]
  refine th_take (i := 14) (v := ?_) rfl (by kernel_rfl) (by kernel_rfl) (by kernel_rfl) (Or.inl ⟨by rfl, fun wz hSw => ?_⟩) hS0 ?_
  rotate_left
  · go_simp
    with_reducible rfl
  simp only [Act.put, List.setIfInBounds_toArray, List.set_cons_zero, List.set_cons_succ]
  refine th_take (i := 15) (v := .int .u32 (c.id : Int)) rfl (by kernel_rfl) (by kernel_rfl) (by kernel_rfl) (Or.inl ⟨by rfl, fun wz hSw => ?_⟩) hS0 ?_
  · have hq := (Cli.blk (unhide HOK) hSw.1).id
    go_simp
  simp only [Act.put, List.setIfInBounds_toArray, List.set_cons_zero, List.set_cons_succ]
  refine th_one (i := 12) rfl (by kernel_rfl) (fun K hK => ?_)
  rw [if_pos (by rfl)]
  go_simp
  have hr2 := ((unhide R1).drew).part (i := 1) (j := 5) (c := cc) (by omega) (by omega) (unhide HNC)
  refine (number_sx _ 4 (cc - 1) ((b.drop 1).take 4) _ _ hr2 (by omega)).mono ?_
  rw [unhide HBID]
  clear hr2
  rintro e w' ⟨rfl, rfl⟩
  refine hK.out _ _ hS0 (fun _ => ?_)
  clear hK K
  try simp only [Act.put, List.setIfInBounds_toArray, List.set_cons_zero, List.set_cons_succ]
  refine th_take (i := 13) (v := .int .u32 (c.id : Int)) rfl (by kernel_rfl) (by kernel_rfl) (by kernel_rfl) (Or.inl ⟨by rfl, fun wz hSw => ?_⟩) hS0 ?_
  · skip
    go_simp
  simp only [Act.put, List.setIfInBounds_toArray, List.set_cons_zero, List.set_cons_succ]
  refine th_take (i := 16) (v := .bool false) rfl (by kernel_rfl) (by kernel_rfl) (by kernel_rfl) (Or.inl ⟨by rfl, fun wz hSw => ?_⟩) hS0 ?_
  · skip
    go_simp
  simp only [Act.put, List.setIfInBounds_toArray, List.set_cons_zero, List.set_cons_succ]
  refine th_take (i := 17) (v := .bool false) rfl (by kernel_rfl) (by kernel_rfl) (by kernel_rfl) (Or.inl ⟨by rfl, fun wz hSw => ?_⟩) hS0 ?_
  · skip
    go_simp
  simp only [Act.put, List.setIfInBounds_toArray, List.set_cons_zero, List.set_cons_succ]
  refine th_take (i := 18) (v := ?_) rfl (by kernel_rfl) (by kernel_rfl) (by kernel_rfl) (Or.inl ⟨by rfl, fun wz hSw => ?_⟩) hS0 ?_
  rotate_left
  · go_simp
    with_reducible rfl
  simp only [Act.put, List.setIfInBounds_toArray, List.set_cons_zero, List.set_cons_succ]
  refine wpAnyH_done (by kernel_rfl) (NoPanic.normal ?_) _
  clear hS0
  have Z2 : Hid (Blk w1.drew w.heap.size 48 c.cs.toArray) := Z1
  have Q2 : Hid (Blk w1.drew (w.heap.size + 1) 48 zCli.cs.toArray) := Q1
  have B2 : Hid (Below w.heap.size w w1.drew) := hide (unhide B1).drew
  have R2 : Hid (Reads w1.drew w1.heap.size 1 (some ⟨g, oo, none⟩) 13 (bsV b)) := R1'
  have hat := (Cli.blk (unhide HOK) (unhide Z2))
  have h17 := hat.level
  have h18 := hat.nonce
  have h19 := hat.server
  have h20 := hat.id
  clear hat
  obtain ⟨dk, hdk, hdr⟩ := key_isRow
  have HDK := hide hdk
  have HDR := hide hdr
  clear hdk hdr
  go_wp2_with (first
    | (refine wpList_load_part rfl 36 (.tmp 42) rfl w.heap.size 1 48 _ (bsV c.key) dk rfl (unhide Z2) ((Cli.at_ (unhide HOK)).key) (unhide HDK) (unhide HDR) (key_info _ (unhide HOK).key) ?_)
    | fail)
  rw [← unhide hlv]
  refine (proved_sx _ 4 c.key (unhide HOK).key c.id c.nonce c.server hcid (levB c.level)).mono ?_
  rintro e w3 ⟨v3, rfl, ho3, hb3⟩
  obtain ⟨A3, c3, hv3, h31, h32⟩ := slice_of_own ho3
  subst hv3
  have hb3 : Below w1.heap.size w1.drew w3 := hb3
  have Z3 := hide ((unhide Z2).below hb3 (unhide Z1).lt)
  have Q3 := hide ((unhide Q2).below hb3 (unhide Q1).lt)
  have B3 := hide ((unhide B2).trans (hb3.mono (unhide B1).size))
  have R3 := hide (((unhide R2).below hb3).more hb3.size)
  have P3 := hide (Reads.of_own ho3)
  have EQ : Hid (decide (b = provF 4 c.key c.id c.nonce c.server (levB c.level)) = true) := hide (by rw [← unhide HB]; simp)
  clear ho3 hb3 h17 h18 h19 h20
  go_wp2_with fail
  refine (equal_sx w3 13 _ A3 cc c3 _ _ w3.heap.size (unhide R3) (unhide P3) (by omega) true (unhide EQ)).mono ?_
  rintro e w4 ⟨rfl, hb4⟩
  have Z4 := hide ((unhide Z3).below hb4 (unhide Z3).lt)
  have Q4 := hide ((unhide Q3).below hb4 (unhide Q3).lt)
  have B4 := hide ((unhide B3).trans (hb4.mono (unhide B3).size))
  clear hb4
  go_wp2_with (first
    | (refine wpList_store_part rfl 4 (.tmp 56) (.const (.bool true)) rfl w.heap.size 37 48 _ (.bool true) [.bool true] ({ c with opn := true } : Cli).cs rfl rfl (unhide Z4) rfl (by rw [Cli.size (unhide HOK)]; simp) (by kernel_rfl) (one1 rfl) (Cli.set_opn (unhide HOK) true) ?_
       intro w5 hb5 hg5
       have Z5 := hide hb5
       have Q5 := hide ((unhide Q4).grown hg5 (fun e => by injection e with e; omega))
       have B5 := hide ((unhide B4).grown hg5 (unhide B4).size (fun j e => by injection e with e; omega))
       clear hb5 hg5)
    | (refine wpList_load_row rfl 48 _ rfl w.heap.size rfl 48 _ _ _ (unhide Z5) Try.underlying48 rfl (cli_info (unhide HO1)) ?_)
    | (refine wpList_store_blk rfl 48 (.tmp 4) (.tmp 57) rfl (w.heap.size + 1) 48 _ ({ c with opn := true } : Cli).cs.toArray rfl rfl (unhide Q5) (Cli.size_eq (unhide HO1)) (cli_info (unhide HO1)) (fun v hv => Cli.one v (by simpa using hv)) ?_
       intro w9 hb9 hg9
       have Z9 := hide hb9
       have E9 := hide ((unhide B5).grown hg9 (unhide B5).size (fun j e => by injection e with e; omega))
       clear hb9 hg9)
    | fail)
  exact bodyPost_ret (v := .tuple #[.agg ({ c with opn := true } : Cli).cs.toArray, .int .i64 0]) (res2 rfl _ (w.heap.size + 1) 48 _ _ _ rfl rfl (unhide Z9) Try.underlying48 rfl (cli_info (unhide HO1))) rfl (show AccPost w _ _ _ from ⟨rfl, unhide E9⟩)
set_option maxRecDepth 100000 in
set_option maxHeartbeats 8000000 in
theorem post_ok (w : World) (c : Cli) (hok : c.Ok) (kb : UInt8) (A : Option Addr) (n cc : Nat) (data : List UInt8) (hr : Reads w w.heap.size 1 A n (bsV data)) (hnc : n ≤ cc) (hcm : cc ≤ maxLen) (hcf : cliF c = true) (hop : c.opn = true)
    (hsf : sendF (kb.toNat : Int) n (c.out : Int) = 0) (hd : n ≤ 256) (hout : c.out < 4294967295) : Calls Try.prog 17 #[.agg c.cs.toArray, .int .i64 (kb.toNat : Int), .slice A n cc] w (BegPost w { c with out := c.out + 1 } (packF 5 c.sess c.id (c.out + 1) kb data)) := by
  have HCF := hide hcf
  have HOP := hide hop
  have hl : data.length = n := by have := hr.1; simpa [bsV] using this
  have HL := hide hl
  have HR := hide hr
  have HNC := hide hnc
  have HCM := hide hcm
  have HSF := hide hsf
  have O1 : ({ c with out := c.out + 1 } : Cli).Ok := ⟨hok.user, hok.key, hok.sess, hok.nonce, hok.server, hok.id, hok.hi, hok.se, by show c.out + 1 < 4294967296; omega⟩
  have HO1 := hide O1
  have hcid := hok.id
  obtain ⟨m, hm⟩ : ∃ m, c.out + 1 = m := ⟨_, rfl⟩
  have HM := hide hm
  have hmz : (c.out : Int) + 1 = (m : Int) := by omega
  have hml : m < 4294967296 := by omega
  have wm : IntKind.u32.wrap ((c.out : Int) + 1) = (m : Int) := by rw [hmz]; exact IntWalk.u32_in _ (by omega)
  have wm2 : IntKind.u32.wrap (m : Int) = (m : Int) := IntWalk.u32_in _ (by omega)
  have wm3 : (m : Int) % 4294967296 = (m : Int) := by omega
  rw [hm] at HO1 ⊢
  have HD : Hid (data.length ≤ 900) := hide (by omega)
  clear hcf hop hr hl hnc hcm hsf O1 hm hout hd
  have K0 : Hid (Blk ((w.alloc (.cells c.cs.toArray 48)).alloc (.cells zCli.cs.toArray 48)) w.heap.size 48 c.cs.toArray) := hide ((Blk.new w 48 c.cs.toArray).alloc _)
  have K1 : Hid (Blk ((w.alloc (.cells c.cs.toArray 48)).alloc (.cells zCli.cs.toArray 48)) (w.heap.size + 1) 48 zCli.cs.toArray) := hide (Blk.new' (by simp))
  have B0 : Hid (Below w.heap.size w ((w.alloc (.cells c.cs.toArray 48)).alloc (.cells zCli.cs.toArray 48))) := hide (((Below.refl _ _).alloc (Nat.le_refl _) _).alloc (by rw [size_alloc]; omega) _)
  have HOK := hide hok
  clear hok
  go_enter Try.func17, Try.ntmps17
  go_wp2_with (first
    | (refine wpList_alloc_to rfl 48 rfl _ (w.heap.size + 1) (size_alloc w _) (alloc_cli _) ?_)
    | (refine wpList_load_row rfl 48 _ rfl w.heap.size rfl 48 _ _ _ (unhide K0) Try.underlying48 rfl (cli_info (unhide HOK)) ?_)
    | fail)
  refine (client_sx _ _ (unhide HOK) _ (unhide HCF)).mono ?_
  rintro e w1 ⟨rfl, hb1⟩
  have Z1 := hide ((unhide K0).below hb1 (unhide K0).lt)
  have Q1 := hide ((unhide K1).below hb1 (unhide K1).lt)
  have B1 := hide ((unhide B0).trans (hb1.mono (unhide B0).size))
  clear hb1
  have hat := (c.blk (unhide HOK) (unhide Z1))
  have hc := hat.opn
  rw [unhide HOP] at hc
  have hc40 := hat.out
  clear hat
  go_wp2_with fail
  refine (sendable_sx _ _ _ _ _ _ 0 (unhide HSF)).mono ?_
  rintro e w2 ⟨rfl, rfl⟩
  have hat := (c.blk (unhide HOK) (unhide Z1))
  go_upto_region 9 with (first
    | (refine wpList_store_part rfl 22 (.tmp 30) (.tmp 29) rfl w.heap.size 40 48 _ (.int .u32 (m : Int)) [.int .u32 (m : Int)] ({ c with out := m } : Cli).cs rfl rfl (unhide Z1) rfl (by rw [Cli.size (unhide HOK)]; simp) (by kernel_rfl) (one1 rfl) (Cli.set_out (unhide HOK) m) ?_
       intro w5 hb5 hg5
       have Z5 := hide hb5
       have Q5 := hide ((unhide Q1).grown hg5 (fun e => by injection e with e; omega))
       have B5 := hide ((unhide B1).grown hg5 (unhide B1).size (fun j e => by injection e with e; omega))
       clear hb5 hg5)
    | fail)
  obtain ⟨d, hd⟩ : ∃ d : Cli, d = { c with out := m } := ⟨_, rfl⟩
  have Z6 := unhide Z5
  have O6 := unhide HO1
  have hsd : d.sess = c.sess := by rw [hd]
  have hid : d.id = c.id := by rw [hd]
  have hod : d.out = m := by rw [hd]
  rw [← hd] at Z6 O6 ⊢
  have HZ6 := hide Z6
  have HO6 := hide O6
  have HDD := hide hd
  obtain ⟨dk, hdk, hdr⟩ := key_isRow
  have HDK := hide hdk
  have HDR := hide hdr
  have R5 := hide (((unhide HR).below (unhide B5)).more (unhide B5).size)
  clear Z5 Z6 O6 HO1 hd hdk hdr hat hc hc40
  have hB0 : Below w5.heap.size w5 w5.drew := (Below.refl _ _).drew
  have hS0 : (fun wz => Blk wz w.heap.size 48 d.cs.toArray) w5.drew := unhide HZ6
  refine wp_region_noPanic (wp_region_held_drew (S := fun wz => Blk wz w.heap.size 48 d.cs.toArray) (by kernel_rfl) hS0 (fun _ => ?_))
  refine th_take (i := 0) rfl (by kernel_rfl) (by kernel_rfl) (by kernel_rfl) (y_loadblk 48 (.tmp 3) (by rfl) rfl w.heap.size rfl 48 d.cs.toArray _ (fun _ h => h) Try.underlying48 rfl (cli_info (unhide HO6))) hS0 ?_
  simp only [Act.put, List.setIfInBounds_toArray, List.set_cons_zero, List.set_cons_succ]
  refine th_take (i := 1) (v := ?_) rfl (by kernel_rfl) (by kernel_rfl) (by kernel_rfl) (Or.inl ⟨by rfl, fun wz hSw => ?_⟩) hS0 ?_
  rotate_left
  · go_simp
    with_reducible rfl
  simp only [Act.put, List.setIfInBounds_toArray, List.set_cons_zero, List.set_cons_succ]
  refine th_take (i := 2) rfl (by kernel_rfl) (by kernel_rfl) (by kernel_rfl) (y_loadpart 36 (.tmp 32) (by rfl) rfl w.heap.size 21 rfl 48 d.cs.toArray (bsV d.sess) dk (fun _ h => h) ((Cli.at_ (unhide HO6)).sess) (unhide HDK) (unhide HDR) (key_info _ (unhide HO6).sess)) hS0 ?_
  simp only [Act.put, List.setIfInBounds_toArray, List.set_cons_zero, List.set_cons_succ]
  refine th_take (i := 3) (v := ?_) rfl (by kernel_rfl) (by kernel_rfl) (by kernel_rfl) (Or.inl ⟨by rfl, fun wz hSw => ?_⟩) hS0 ?_
  rotate_left
  · go_simp
    with_reducible rfl
  simp only [Act.put, List.setIfInBounds_toArray, List.set_cons_zero, List.set_cons_succ]
  refine th_take (i := 4) (v := .int .u32 (d.id : Int)) rfl (by kernel_rfl) (by kernel_rfl) (by kernel_rfl) (Or.inl ⟨by rfl, fun wz hSw => ?_⟩) hS0 ?_
  · have hq := (Cli.blk (unhide HO6) hSw).id
    go_simp
  simp only [Act.put, List.setIfInBounds_toArray, List.set_cons_zero, List.set_cons_succ]
  refine th_take (i := 5) (v := ?_) rfl (by kernel_rfl) (by kernel_rfl) (by kernel_rfl) (Or.inl ⟨by rfl, fun wz hSw => ?_⟩) hS0 ?_
  rotate_left
  · go_simp
    with_reducible rfl
  simp only [Act.put, List.setIfInBounds_toArray, List.set_cons_zero, List.set_cons_succ]
  refine th_take (i := 6) (v := .int .u32 (d.out : Int)) rfl (by kernel_rfl) (by kernel_rfl) (by kernel_rfl) (Or.inl ⟨by rfl, fun wz hSw => ?_⟩) hS0 ?_
  · have hq := (Cli.blk (unhide HO6) hSw).out
    go_simp
  simp only [Act.put, List.setIfInBounds_toArray, List.set_cons_zero, List.set_cons_succ]
  refine th_take (i := 7) (v := ?_) rfl (by kernel_rfl) (by kernel_rfl) (by kernel_rfl) (Or.inl ⟨by rfl, fun wz hSw => ?_⟩) hS0 ?_
  rotate_left
  · go_simp
    with_reducible rfl
  simp only [Act.put, List.setIfInBounds_toArray, List.set_cons_zero, List.set_cons_succ]
  refine th_take (i := 8) (v := ?_) rfl (by kernel_rfl) (by kernel_rfl) (by kernel_rfl) (Or.inl ⟨by rfl, fun wz hSw => ?_⟩) hS0 ?_
  rotate_left
  · go_simp
    with_reducible rfl
  simp only [Act.put, List.setIfInBounds_toArray, List.set_cons_zero, List.set_cons_succ]
  refine th_one (i := 9) rfl (by kernel_rfl) (fun K hK => ?_)
  rw [if_pos (by rfl)]
  go_simp
  refine (packet_sx _ 5 c.sess (unhide HOK).sess c.id m hcid hml kb A n cc data (unhide R5).drew (unhide HNC) (unhide HCM) (unhide HD)).mono ?_
  rintro e w6 ⟨v6, rfl, ho6, hb6⟩
  have hb6 : Below w5.heap.size w5 w6 := hB0.trans hb6
  have hz6 : Blk w6 w.heap.size 48 d.cs.toArray := (unhide HZ6).below hb6 (unhide HZ6).lt
  have hq6 : Blk w6 (w.heap.size + 1) 48 zCli.cs.toArray := (unhide Q5).below hb6 (unhide Q5).lt
  have hx6 : Below w.heap.size w w6 := (unhide B5).trans (hb6.mono (unhide B5).size)
  have ho6' : w6.ownsRow w.heap.size 5 1 v6 (packF 5 c.sess c.id m kb data).length (bsV (packF 5 c.sess c.id m kb data)) := own_more ho6 (unhide B5).size
  refine hK.out _ _ hz6 (fun _ => ?_)
  clear hK K
  try simp only [Act.put, List.setIfInBounds_toArray, List.set_cons_zero, List.set_cons_succ]
  refine th_one (i := 10) rfl (by kernel_rfl) (fun K hK => ?_)
  have hsq := Cli.size_eq (unhide HO6)
  refine step_store_blk (by rfl) 48 (.tmp 6) (.tmp 31) rfl (w.heap.size + 1) 48 _ d.cs.toArray rfl rfl hq6 hsq (cli_info (unhide HO6)) (fun v hv => Cli.one v (by simpa using hv)) ?_
  intro w8 hb8 hg8
  have hz8 : Blk w8 w.heap.size 48 d.cs.toArray := hz6.grown hg8 (fun e => by injection e with e; omega)
  have hx8 : Below w.heap.size w w8 := hx6.grown hg8 hx6.size (fun j e => by injection e with e; omega)
  have ho8 : w8.ownsRow w.heap.size 5 1 v6 (packF 5 c.sess c.id m kb data).length (bsV (packF 5 c.sess c.id m kb data)) := World.ownsRow.kept ho6' hg8 (.inr (own_blk_ne ho6' hq6 (by decide)))
  refine hK.out _ _ hz8 (fun _ => ?_)
  clear hK K
  try simp only [Act.put]
  refine th_take (i := 11) (v := ?_) rfl (by kernel_rfl) (by kernel_rfl) (by kernel_rfl) (Or.inl ⟨by rfl, fun wz hSw => ?_⟩) hz8 ?_
  rotate_left
  · go_simp
    with_reducible rfl
  simp only [Act.put, List.setIfInBounds_toArray, List.set_cons_zero, List.set_cons_succ]
  refine th_take (i := 12) (v := ?_) rfl (by kernel_rfl) (by kernel_rfl) (by kernel_rfl) (Or.inl ⟨by rfl, fun wz hSw => ?_⟩) hz8 ?_
  rotate_left
  · go_simp
    with_reducible rfl
  simp only [Act.put, List.setIfInBounds_toArray, List.set_cons_zero, List.set_cons_succ]
  refine wpAnyH_done (by kernel_rfl) (NoPanic.normal ?_) _
  have H8 := hide hb8
  have O8 := hide ho8
  have X8 := hide hx8
  clear hb8 ho8 hx8 hg8 hq6 hz6 hx6 hz8 ho6 ho6' hb6 hS0 hB0
  go_wp2_with fail
  exact bodyPost_ret (v := .tuple #[.agg d.cs.toArray, v6, .int .i64 0]) (res_ctt rfl _ (w.heap.size + 1) 48 _ _ _ _ rfl rfl rfl (unhide H8) Try.underlying48 rfl (cli_info (unhide HO6))) rfl (show BegPost w _ _ _ _ from ⟨v6, by rw [← unhide HDD], unhide O8, unhide X8⟩)
end Go.Proofs.Ytfbkkmnkpjgciaa
