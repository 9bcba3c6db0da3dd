/- Part of the proof of the laws of this seat: S10c. No conditions. -/
import Derived.Test.YtjbhobahebebkaaDoorK5
import Derived.Test.YtjbhobahebebkaaDoorK19
import Derived.Test.YtjbhobahebebkaaDoorK20
import Derived.Shelf.Small.Bits
/- Walks of Go functions over the frame of this claim: what each computes, for every input of the stated types (S10c). -/
set_option linter.unusedVariables false
set_option linter.unusedSimpArgs false
set_option linter.unnecessarySimpa false
namespace Go.Proofs.YtjbhobahebebkaaDoor
open Go.Bil
open Go.RowKit (Below)
open Go.Proofs

open Go.Sort (swp ltInt)
theorem bits_len (w : World) (y : Nat) (hy : y < 64) : Calls Tryd.prog 48 #[.int .u64 (y : Int)] w (fun ex w' => ∃ v, ex = .returned v ∧ v = .int .i64 ((Go.Sort.bitsLen y : Nat) : Int) ∧ Below w.heap.size w w') :=
  (Any.bits_Len len_lay (y : Int) w (by omega) (by omega)).mono (by
    rintro ex w' ⟨rfl, rfl⟩
    exact ⟨_, rfl, iE (by rw [Int.toNat_natCast, len_bits y hy]), Below.refl _ _⟩)

set_option maxHeartbeats 4000000 in
theorem sort_ord2 (w : World) (A : Option Addr) (n c : Nat) (d : AI) (e : Ent) (hR : RowIs 42 1 A n c ((d).toList.map keyCell) e) (bs s : Nat) (hs : s ≤ 1000) (hO : Own [e, (some bs, bc [.int .i64 ((s : Nat) : Int)] 3)] w) (a b : Nat) (ha : a < n) (hb : b < n) :
    Calls Tryd.prog 85 #[.slice A n c, .int .i64 (a : Int), .int .i64 (b : Int), .pointer (some ⟨bs, 0, none⟩)] w (fun ex w' => ∃ v, ex = .returned v ∧ (fun v w' => v = .tuple #[.int .i64 ((Go.Sort.order2 ltInt d a b s).1 : Int), .int .i64 ((Go.Sort.order2 ltInt d a b s).2.1 : Int)] ∧ Mem w (blks [e, (some bs, bc [.int .i64 ((s : Nat) : Int)] 3)]) [e, (some bs, bc [.int .i64 (((Go.Sort.order2 ltInt d a b s).2.2 : Nat) : Int)] 3)] w') v w') := by
  have hdn : d.size = n := by simpa using hR.1
  have hnb := hR.2.2.1
  refine calls_of_W #[.tmp 8, .tmp 9] 28 Tryd.func85 rfl Tryd.results85 Tryd.ntmps85 rfl ?_
  have M0 := hO.mem
  refine W_seq ?_
  refine W_region ?_
  refine wl_q (r_assign (.int _ _) rfl) rfl rfl ?_
  refine wl_q (r_assign (.int _ _) rfl) rfl rfl ?_
  refine wl_nil ?_
  refine thenN ?_
  refine W_seq ?_
  refine W_seq ?_
  refine W_draw [(0, 0), (1, 0), (2, 1), (3, 1), (4, 0), (5, 0), (6, 1), (7, 1), (8, 2)] mixed rfl (by kernel_rfl) (fun w1 hb1 hh1 => ?_)
  have M1 := M0.drew hb1 hh1
  refine D_p rfl rfl rfl (fun _ => r_move (.slice _ _ _) rfl) ?_
  refine D_p rfl rfl rfl (fun _ => r_move (.int _ _) rfl) ?_
  refine D_r rfl rfl rfl (r_idxR ((b)) sl27 rfl rfl rfl ((hR.rd M1 (nthMem (i := 0) rfl)).below_len (mapGet keyCell (dget (d := d) (i := b) (by omega)))) ((hR.rd M1 (nthMem (i := 0) rfl)).someK (mapGet keyCell (dget (d := d) (i := b) (by omega))))) ?_
  refine D_r rfl rfl rfl (r_ldE0 (.int _ _) one42 (hR.rd M1 (nthMem (i := 0) rfl)) (mapGet keyCell (dget (d := d) (i := b) (by omega))) rfl) ?_
  refine D_p rfl rfl rfl (fun _ => r_move (.slice _ _ _) rfl) ?_
  refine D_p rfl rfl rfl (fun _ => r_move (.int _ _) rfl) ?_
  refine D_r rfl rfl rfl (r_idxR ((a)) sl27 rfl rfl rfl ((hR.rd M1 (nthMem (i := 0) rfl)).below_len (mapGet keyCell (dget (d := d) (i := a) (by omega)))) ((hR.rd M1 (nthMem (i := 0) rfl)).someK (mapGet keyCell (dget (d := d) (i := a) (by omega))))) ?_
  refine D_r rfl rfl rfl (r_ldE0 (.int _ _) one42 (hR.rd M1 (nthMem (i := 0) rfl)) (mapGet keyCell (dget (d := d) (i := a) (by omega))) rfl) ?_
  refine D_e [true, true, true, true] rfl (by kernel_rfl) ?_
  refine wl_cal cal61 rfl rfl rfl ?_
  refine (cmp_Less32 _ _ _).mono ?_
  rintro _ w2 ⟨v2, rfl, ⟨rfl, hb2⟩⟩
  refine ⟨_, rfl, ?_⟩
  have M2 := M1.callB hb2
  refine wl_nil (thenN ⟨alN, ?_⟩)
  refine D_nil ?_
  refine thenN ?_
  refine W_condD rfl (fun h18 => ?_) (fun h18 => ?_)
  · skip
    refine W_seq ?_
    refine W_region ?_
    refine wl_q (r_move (.pointer _) rfl) rfl rfl ?_
    refine wl_q (r_nilCheck rfl) rfl rfl ?_
    refine wl_q (r_ld 1 (.int _ _) one3 M2 rfl rfl rfl) rfl rfl ?_
    refine wl_q (r_add rfl rfl (by omega) (by omega)) rfl rfl ?_
    refine wl_re 22 (.int .i64 ((s + 1 : Nat) : Int)) (iE (by omega)) ?_
    refine wl_q (r_nilCheck rfl) rfl rfl ?_
    refine wl_st 1 (.int _ _) one3 M2 rfl rfl rfl rfl rfl rfl (fun w3 M3 => ?_)
    refine wl_nil ?_
    refine thenN ?_
    refine W_seq ?_
    refine W_region ?_
    refine wl_q (r_move (.int _ _) rfl) rfl rfl ?_
    refine wl_q (r_move (.int _ _) rfl) rfl rfl ?_
    refine wl_q (r_assign (.int _ _) rfl) rfl rfl ?_
    refine wl_q (r_assign (.int _ _) rfl) rfl rfl ?_
    refine wl_nil ?_
    refine thenN ?_
    refine W_ret ?_
    refine thenR ?_
    skip
    refine fin2 (.int _ _) (.int _ _) rfl rfl ?_
    exact ⟨by rw [ord2_yes h18], by rw [ord2_yes h18]; exact M3⟩
  · skip
    refine W_skip ?_
    refine thenN ?_
    refine W_seq ?_
    refine W_region ?_
    refine wl_q (r_move (.int _ _) rfl) rfl rfl ?_
    refine wl_q (r_move (.int _ _) rfl) rfl rfl ?_
    refine wl_q (r_assign (.int _ _) rfl) rfl rfl ?_
    refine wl_q (r_assign (.int _ _) rfl) rfl rfl ?_
    refine wl_nil ?_
    refine thenN ?_
    refine W_ret ?_
    skip
    refine fin2 (.int _ _) (.int _ _) rfl rfl ?_
    exact ⟨by rw [ord2_no h18], by rw [ord2_no h18]; exact M2⟩

set_option maxHeartbeats 4000000 in
theorem sort_med (w : World) (A : Option Addr) (n c : Nat) (d : AI) (e : Ent) (hR : RowIs 42 1 A n c ((d).toList.map keyCell) e) (bs s : Nat) (hs : s ≤ 1000) (hO : Own [e, (some bs, bc [.int .i64 ((s : Nat) : Int)] 3)] w) (a b z : Nat) (ha : a < n) (hb : b < n) (hz : z < n) (hs3 : s ≤ 900) :
    Calls Tryd.prog 80 #[.slice A n c, .int .i64 (a : Int), .int .i64 (b : Int), .int .i64 (z : Int), .pointer (some ⟨bs, 0, none⟩)] w (fun ex w' => ∃ v, ex = .returned v ∧ (fun v w' => v = .int .i64 ((Go.Sort.median ltInt d a b z s).1 : Int) ∧ Mem w (blks [e, (some bs, bc [.int .i64 ((s : Nat) : Int)] 3)]) [e, (some bs, bc [.int .i64 (((Go.Sort.median ltInt d a b z s).2 : Nat) : Int)] 3)] w') v w') := by
  have hdn : d.size = n := by simpa using hR.1
  have hnb := hR.2.2.1
  refine calls_of_W #[.tmp 10] 36 Tryd.func80 rfl Tryd.results80 Tryd.ntmps80 rfl ?_
  have M0 := hO.mem
  refine W_seq ?_
  refine W_region ?_
  refine wl_q (r_assign (.int _ _) rfl) rfl rfl ?_
  refine wl_nil ?_
  refine thenN ?_
  refine W_seq ?_
  refine W_region ?_
  refine wl_q (r_move (.slice _ _ _) rfl) rfl rfl ?_
  refine wl_q (r_move (.int _ _) rfl) rfl rfl ?_
  refine wl_q (r_move (.int _ _) rfl) rfl rfl ?_
  refine wl_q (r_move (.pointer _) rfl) rfl rfl ?_
  refine wl_cal cal85 rfl rfl rfl ?_
  refine (sort_ord2 _ A n c d e hR bs s (by omega) (M0.ownSeg 0 2) a b (by omega) (by omega)).mono ?_
  rintro _ w1 ⟨v1, rfl, ⟨rfl, hM1⟩⟩
  refine ⟨_, rfl, ?_⟩
  have M1 : Mem _ _ [_, _] _ := M0.seg 0 2 hM1
  have hm1 := Go.Sort.order2_mem ltInt d a b s
  have hc1 := ord2_cnt d a b s
  refine wl_q (r_move (.tuple (List.toArray _)) rfl) rfl rfl ?_
  refine wl_q (r_ext (.int _ _) rfl rfl) rfl rfl ?_
  refine wl_q (r_ext (.int _ _) rfl rfl) rfl rfl ?_
  refine wl_q (r_assign (.int _ _) rfl) rfl rfl ?_
  refine wl_q (r_assign (.int _ _) rfl) rfl rfl ?_
  refine wl_nil ?_
  refine thenN ?_
  refine W_seq ?_
  refine W_region ?_
  refine wl_q (r_move (.slice _ _ _) rfl) rfl rfl ?_
  refine wl_q (r_move (.int _ _) rfl) rfl rfl ?_
  refine wl_q (r_move (.int _ _) rfl) rfl rfl ?_
  refine wl_q (r_move (.pointer _) rfl) rfl rfl ?_
  refine wl_cal cal85 rfl rfl rfl ?_
  refine (sort_ord2 _ A n c d e hR bs (Go.Sort.order2 ltInt d a b s).2.2 (by omega) (M1.ownSeg 0 2) (Go.Sort.order2 ltInt d a b s).2.1 z (by omega) (by omega)).mono ?_
  rintro _ w2 ⟨v2, rfl, ⟨rfl, hM2⟩⟩
  refine ⟨_, rfl, ?_⟩
  have M2 : Mem _ _ [_, _] _ := M1.seg 0 2 hM2
  have hm2 := Go.Sort.order2_mem ltInt d (Go.Sort.order2 ltInt d a b s).2.1 z (Go.Sort.order2 ltInt d a b s).2.2
  have hc2 := ord2_cnt d (Go.Sort.order2 ltInt d a b s).2.1 z (Go.Sort.order2 ltInt d a b s).2.2
  refine wl_q (r_move (.tuple (List.toArray _)) rfl) rfl rfl ?_
  refine wl_q (r_ext (.int _ _) rfl rfl) rfl rfl ?_
  refine wl_q (r_ext (.int _ _) rfl rfl) rfl rfl ?_
  refine wl_q (r_assign (.int _ _) rfl) rfl rfl ?_
  refine wl_q (r_assign (.int _ _) rfl) rfl rfl ?_
  refine wl_nil ?_
  refine thenN ?_
  refine W_seq ?_
  refine W_region ?_
  refine wl_q (r_move (.slice _ _ _) rfl) rfl rfl ?_
  refine wl_q (r_move (.int _ _) rfl) rfl rfl ?_
  refine wl_q (r_move (.int _ _) rfl) rfl rfl ?_
  refine wl_q (r_move (.pointer _) rfl) rfl rfl ?_
  refine wl_cal cal85 rfl rfl rfl ?_
  refine (sort_ord2 _ A n c d e hR bs (Go.Sort.order2 ltInt d (Go.Sort.order2 ltInt d a b s).2.1 z (Go.Sort.order2 ltInt d a b s).2.2).2.2 (by omega) (M2.ownSeg 0 2) (Go.Sort.order2 ltInt d a b s).1 (Go.Sort.order2 ltInt d (Go.Sort.order2 ltInt d a b s).2.1 z (Go.Sort.order2 ltInt d a b s).2.2).1 (by omega) (by omega)).mono ?_
  rintro _ w3 ⟨v3, rfl, ⟨rfl, hM3⟩⟩
  refine ⟨_, rfl, ?_⟩
  have M3 : Mem _ _ [_, _] _ := M2.seg 0 2 hM3
  have hm3 := Go.Sort.order2_mem ltInt d (Go.Sort.order2 ltInt d a b s).1 (Go.Sort.order2 ltInt d (Go.Sort.order2 ltInt d a b s).2.1 z (Go.Sort.order2 ltInt d a b s).2.2).1 (Go.Sort.order2 ltInt d (Go.Sort.order2 ltInt d a b s).2.1 z (Go.Sort.order2 ltInt d a b s).2.2).2.2
  have hc3 := ord2_cnt d (Go.Sort.order2 ltInt d a b s).1 (Go.Sort.order2 ltInt d (Go.Sort.order2 ltInt d a b s).2.1 z (Go.Sort.order2 ltInt d a b s).2.2).1 (Go.Sort.order2 ltInt d (Go.Sort.order2 ltInt d a b s).2.1 z (Go.Sort.order2 ltInt d a b s).2.2).2.2
  refine wl_q (r_move (.tuple (List.toArray _)) rfl) rfl rfl ?_
  refine wl_q (r_ext (.int _ _) rfl rfl) rfl rfl ?_
  refine wl_q (r_ext (.int _ _) rfl rfl) rfl rfl ?_
  refine wl_q (r_assign (.int _ _) rfl) rfl rfl ?_
  refine wl_q (r_assign (.int _ _) rfl) rfl rfl ?_
  refine wl_nil ?_
  refine thenN ?_
  refine W_seq ?_
  refine W_region ?_
  refine wl_q (r_move (.int _ _) rfl) rfl rfl ?_
  refine wl_q (r_assign (.int _ _) rfl) rfl rfl ?_
  refine wl_nil ?_
  refine thenN ?_
  refine W_ret ?_
  skip
  refine fin1 (.int _ _) rfl ?_
  exact ⟨rfl, M3⟩

set_option maxHeartbeats 4000000 in
theorem sort_piv (w : World) (A : Option Addr) (n c : Nat) (d : AI) (e : Ent) (hR : RowIs 42 1 A n c ((d).toList.map keyCell) e) (hO : Own [e] w) (a b : Nat) (hab : a + 8 ≤ b) (hb : b ≤ n) (h50 : b - a < 50) :
    Calls Tryd.prog 58 #[.slice A n c, .int .i64 (a : Int), .int .i64 (b : Int)] w (fun ex w' => ∃ v, ex = .returned v ∧ (fun v w' => v = .tuple #[.int .i64 ((Go.Sort.choosePivot ltInt d a b).1 : Int), .int .i64 (hintI (Go.Sort.choosePivot ltInt d a b).2)] ∧ Mem w (blks [e]) [e] w') v w') := by
  have hdn : d.size = n := by simpa using hR.1
  have hnb := hR.2.2.1
  refine calls_of_W #[.tmp 6, .tmp 7] 57 Tryd.func58 rfl Tryd.results58 Tryd.ntmps58 rfl ?_
  have M0 := hO.mem
  refine W_seq ?_
  refine W_region ?_
  refine wl_q (r_assign (.int _ _) rfl) rfl rfl ?_
  refine wl_q (r_assign (.int _ _) rfl) rfl rfl ?_
  refine wl_nil ?_
  refine thenN ?_
  refine W_seq ?_
  refine W_region ?_
  refine wl_q (r_move (.int _ _) rfl) rfl rfl ?_
  refine wl_q (r_move (.int _ _) rfl) rfl rfl ?_
  refine wl_q (r_sub rfl rfl (by omega) (by omega)) rfl rfl ?_
  refine wl_re 15 (.int .i64 ((b - a : Nat) : Int)) (iE (by omega)) ?_
  refine wl_q (r_assign (.int _ _) rfl) rfl rfl ?_
  refine wl_nil ?_
  refine thenN ?_
  refine W_seq ?_
  refine W_region ?_
  refine wl_alloc zero3 M0 rfl rfl (fun b1 w1 M1 => ?_)
  refine wl_nil ?_
  refine thenN ?_
  refine W_seq ?_
  refine W_region ?_
  refine wl_q (r_move (.int _ _) rfl) rfl rfl ?_
  refine wl_q (r_move (.int _ _) rfl) rfl rfl ?_
  refine wl_q (r_quo rfl rfl (by decide)) rfl rfl ?_
  refine wl_re 18 (.int .i64 (((b - a) / 4 : Nat) : Int)) (iE (by rw [tquo4, w64 _ (by omega) (by omega)])) ?_
  refine wl_q (r_mul rfl rfl (by omega) (by omega)) rfl rfl ?_
  refine wl_re 19 (.int .i64 (((b - a) / 4 * 1 : Nat) : Int)) (iE (by omega)) ?_
  refine wl_q (r_add rfl rfl (by omega) (by omega)) rfl rfl ?_
  refine wl_re 20 (.int .i64 ((a + (b - a) / 4 * 1 : Nat) : Int)) (iE (by omega)) ?_
  refine wl_q (r_assign (.int _ _) rfl) rfl rfl ?_
  refine wl_nil ?_
  refine thenN ?_
  refine W_seq ?_
  refine W_region ?_
  refine wl_q (r_move (.int _ _) rfl) rfl rfl ?_
  refine wl_q (r_move (.int _ _) rfl) rfl rfl ?_
  refine wl_q (r_quo rfl rfl (by decide)) rfl rfl ?_
  refine wl_re 23 (.int .i64 (((b - a) / 4 : Nat) : Int)) (iE (by rw [tquo4, w64 _ (by omega) (by omega)])) ?_
  refine wl_q (r_mul rfl rfl (by omega) (by omega)) rfl rfl ?_
  refine wl_re 24 (.int .i64 (((b - a) / 4 * 2 : Nat) : Int)) (iE (by omega)) ?_
  refine wl_q (r_add rfl rfl (by omega) (by omega)) rfl rfl ?_
  refine wl_re 25 (.int .i64 ((a + (b - a) / 4 * 2 : Nat) : Int)) (iE (by omega)) ?_
  refine wl_q (r_assign (.int _ _) rfl) rfl rfl ?_
  refine wl_nil ?_
  refine thenN ?_
  refine W_seq ?_
  refine W_region ?_
  refine wl_q (r_move (.int _ _) rfl) rfl rfl ?_
  refine wl_q (r_move (.int _ _) rfl) rfl rfl ?_
  refine wl_q (r_quo rfl rfl (by decide)) rfl rfl ?_
  refine wl_re 28 (.int .i64 (((b - a) / 4 : Nat) : Int)) (iE (by rw [tquo4, w64 _ (by omega) (by omega)])) ?_
  refine wl_q (r_mul rfl rfl (by omega) (by omega)) rfl rfl ?_
  refine wl_re 29 (.int .i64 (((b - a) / 4 * 3 : Nat) : Int)) (iE (by omega)) ?_
  refine wl_q (r_add rfl rfl (by omega) (by omega)) rfl rfl ?_
  refine wl_re 30 (.int .i64 ((a + (b - a) / 4 * 3 : Nat) : Int)) (iE (by omega)) ?_
  refine wl_q (r_assign (.int _ _) rfl) rfl rfl ?_
  refine wl_nil ?_
  refine thenN ?_
  refine W_seq ?_
  refine W_seq ?_
  refine W_region ?_
  refine wl_q (r_move (.int _ _) rfl) rfl rfl ?_
  refine wl_q (r_bin (.bool (decide _)) rfl rfl rfl) rfl rfl ?_
  refine wl_re 32 (.bool true) (bT (by omega)).symm ?_
  refine wl_nil ?_
  refine thenN ?_
  refine W_condT rfl ?_
  refine W_seq ?_
  refine W_seq ?_
  refine W_region ?_
  refine wl_q (r_move (.int _ _) rfl) rfl rfl ?_
  refine wl_q (r_bin (.bool (decide _)) rfl rfl rfl) rfl rfl ?_
  refine wl_re 34 (.bool false) (bF (by omega)).symm ?_
  refine wl_nil ?_
  refine thenN ?_
  refine W_condF rfl ?_
  refine W_skip ?_
  refine thenN ?_
  refine W_region ?_
  refine wl_q (r_move (.slice _ _ _) rfl) rfl rfl ?_
  refine wl_q (r_move (.int _ _) rfl) rfl rfl ?_
  refine wl_q (r_move (.int _ _) rfl) rfl rfl ?_
  refine wl_q (r_move (.int _ _) rfl) rfl rfl ?_
  refine wl_cal cal80 rfl rfl rfl ?_
  refine (sort_med _ A n c d e hR b1 0 (by omega) (M1.ownSeg 0 2) (a + (b - a) / 4 * 1) (a + (b - a) / 4 * 2) (a + (b - a) / 4 * 3) (by omega) (by omega) (by omega) (by omega)).mono ?_
  rintro _ w2 ⟨v2, rfl, ⟨rfl, hM2⟩⟩
  refine ⟨_, rfl, ?_⟩
  have M2 : Mem _ _ [_, _] _ := M1.seg 0 2 hM2
  have hcp := choose_few (d := d) (a := a) (b := b) (p := (Go.Sort.median ltInt d (a + (b - a) / 4 * 1) (a + (b - a) / 4 * 2) (a + (b - a) / 4 * 3) 0).1) (s := (Go.Sort.median ltInt d (a + (b - a) / 4 * 1) (a + (b - a) / 4 * 2) (a + (b - a) / 4 * 3) 0).2) h50 (by omega) rfl
  refine wl_q (r_assign (.int _ _) rfl) rfl rfl ?_
  refine wl_nil ?_
  refine thenN ?_
  refine W_seq ?_
  refine W_region ?_
  refine wl_q (r_ld 1 (.int _ _) one3 M2 rfl rfl rfl) rfl rfl ?_
  refine wl_nil ?_
  refine thenN ?_
  refine W_block ?_
  refine W_seq ?_
  refine W_region ?_
  refine wl_q (r_bin (.bool (decide _)) rfl rfl rfl) rfl rfl ?_
  refine wl_q (r_assign (.bool (decide _)) rfl) rfl rfl ?_
  refine wl_nil ?_
  refine thenN ?_
  refine W_condD rfl (fun h51 => ?_) (fun h51 => ?_)
  · skip
    refine W_seq ?_
    refine W_region ?_
    refine wl_q (r_move (.int _ _) rfl) rfl rfl ?_
    refine wl_q (r_assign (.int _ _) rfl) rfl rfl ?_
    refine wl_q (r_assign (.int _ _) rfl) rfl rfl ?_
    refine wl_nil ?_
    refine thenN ?_
    refine W_ret ?_
    refine blkR ?_
    skip
    refine fin2 (.int _ _) (.int _ _) rfl rfl ?_
    exact ⟨by rw [hcp, if_pos (by omega)]; rfl, M2.keep [true, false]⟩
  · skip
    refine W_seq ?_
    refine W_region ?_
    refine wl_q (r_bin (.bool (decide _)) rfl rfl rfl) rfl rfl ?_
    refine wl_q (r_assign (.bool (decide _)) rfl) rfl rfl ?_
    refine wl_nil ?_
    refine thenN ?_
    refine W_condD rfl (fun h54 => ?_) (fun h54 => ?_)
    · skip
      refine W_seq ?_
      refine W_region ?_
      refine wl_q (r_move (.int _ _) rfl) rfl rfl ?_
      refine wl_q (r_assign (.int _ _) rfl) rfl rfl ?_
      refine wl_q (r_assign (.int _ _) rfl) rfl rfl ?_
      refine wl_nil ?_
      refine thenN ?_
      refine W_ret ?_
      refine blkR ?_
      skip
      refine fin2 (.int _ _) (.int _ _) rfl rfl ?_
      exact ⟨by rw [hcp, if_neg (by omega), if_pos (by omega)]; rfl, M2.keep [true, false]⟩
    · skip
      refine W_seq ?_
      refine W_region ?_
      refine wl_q (r_move (.int _ _) rfl) rfl rfl ?_
      refine wl_q (r_assign (.int _ _) rfl) rfl rfl ?_
      refine wl_q (r_assign (.int _ _) rfl) rfl rfl ?_
      refine wl_nil ?_
      refine thenN ?_
      refine W_ret ?_
      refine blkR ?_
      skip
      refine fin2 (.int _ _) (.int _ _) rfl rfl ?_
      exact ⟨by rw [hcp, if_neg (by omega), if_neg (by omega)]; rfl, M2.keep [true, false]⟩

set_option maxHeartbeats 4000000 in
theorem xor_next (w : World) (bx x : Nat) (hx : x < 18446744073709551616) (hO : Own [(some bx, bc [.int .u64 ((x : Nat) : Int)] 123)] w) :
    Calls Tryd.prog 78 #[.pointer (some ⟨bx, 0, none⟩)] w (fun ex w' => ∃ v, ex = .returned v ∧ (fun v w' => v = .int .u64 ((Go.Sort.xorNextN x : Nat) : Int) ∧ Mem w (blks [(some bx, bc [.int .u64 ((x : Nat) : Int)] 123)]) [(some bx, bc [.int .u64 ((Go.Sort.xorNextN x : Nat) : Int)] 123)] w') v w') := by
  obtain ⟨xa, hxa⟩ : ∃ z, z = x ^^^ (x * 8192 % 18446744073709551616) := ⟨_, rfl⟩
  have la : xa < 18446744073709551616 := by rw [hxa]; exact Nat.xor_lt_two_pow (n := 64) (by omega) (by omega)
  obtain ⟨xb, hxb⟩ : ∃ z, z = xa ^^^ (xa / 128) := ⟨_, rfl⟩
  have lb : xb < 18446744073709551616 := by rw [hxb]; exact Nat.xor_lt_two_pow (n := 64) (by omega) (by omega)
  obtain ⟨xc, hxc⟩ : ∃ z, z = xb ^^^ (xb * 131072 % 18446744073709551616) := ⟨_, rfl⟩
  have hv : Go.Sort.xorNextN x = xc := by unfold Go.Sort.xorNextN; simp only []; rw [← hxa, ← hxb, ← hxc]
  refine calls_of_W #[.tmp 2] 33 Tryd.func78 rfl Tryd.results78 Tryd.ntmps78 rfl ?_
  have M0 := hO.mem
  refine W_seq ?_
  refine W_region ?_
  refine wl_q (r_assign (.int _ _) rfl) rfl rfl ?_
  refine wl_nil ?_
  refine thenN ?_
  refine W_seq ?_
  refine W_draw [(0, 0), (1, 0), (2, 1), (3, 0), (4, 0), (5, 1), (6, 0), (7, 0), (8, 0), (9, 2)] mixed rfl (by kernel_rfl) (fun w1 hb1 hh1 => ?_)
  have M1 := M0.drew hb1 hh1
  refine D_p rfl rfl rfl (fun _ => r_move (.pointer _) rfl) ?_
  refine D_p rfl rfl rfl (fun _ => r_nilCheck rfl) ?_
  refine D_r rfl rfl rfl (r_ld 0 (.int _ _) one123 M1 rfl rfl rfl) ?_
  refine D_p rfl rfl rfl (fun _ => r_move (.pointer _) rfl) ?_
  refine D_p rfl rfl rfl (fun _ => r_nilCheck rfl) ?_
  refine D_r rfl rfl rfl (r_ld 0 (.int _ _) one123 M1 rfl rfl rfl) ?_
  refine D_p rfl rfl rfl (fun _ => r_shl rfl rfl (by decide)) ?_
  refine D_re 9 (.int .u64 ((x * 8192 % 18446744073709551616 : Nat) : Int)) (iE ((u_shl x 13 13 rfl (by omega)).trans (by rw [show (2 : Nat) ^ 13 = 8192 from rfl]))) ?_
  refine D_p rfl rfl rfl (fun _ => r_bin (.int _ _) rfl rfl rfl) ?_
  refine D_re 10 (.int .u64 ((xa : Nat) : Int)) (iE ((u_xor x _ hx (by omega)).trans (congrArg _ hxa.symm))) ?_
  refine D_p rfl rfl rfl (fun _ => r_nilCheck rfl) ?_
  refine D_e [true, true] rfl (by kernel_rfl) ?_
  refine wl_st 0 (.int _ _) one123 M1 rfl rfl rfl rfl rfl rfl (fun w2 M2 => ?_)
  refine wl_nil (thenN ⟨alN, ?_⟩)
  refine D_nil ?_
  refine thenN ?_
  refine W_seq ?_
  refine W_draw [(0, 0), (1, 0), (2, 1), (3, 0), (4, 0), (5, 1), (6, 0), (7, 0), (8, 0), (9, 2)] mixed rfl (by kernel_rfl) (fun w3 hb3 hh3 => ?_)
  have M3 := M2.drew hb3 hh3
  refine D_p rfl rfl rfl (fun _ => r_move (.pointer _) rfl) ?_
  refine D_p rfl rfl rfl (fun _ => r_nilCheck rfl) ?_
  refine D_r rfl rfl rfl (r_ld 0 (.int _ _) one123 M3 rfl rfl rfl) ?_
  refine D_p rfl rfl rfl (fun _ => r_move (.pointer _) rfl) ?_
  refine D_p rfl rfl rfl (fun _ => r_nilCheck rfl) ?_
  refine D_r rfl rfl rfl (r_ld 0 (.int _ _) one123 M3 rfl rfl rfl) ?_
  refine D_p rfl rfl rfl (fun _ => r_shr rfl rfl (by decide)) ?_
  refine D_re 18 (.int .u64 ((xa / 128 : Nat) : Int)) (iE ((u_shr xa 7 7 rfl (by omega)).trans (by rw [show (2 : Nat) ^ 7 = 128 from rfl]))) ?_
  refine D_p rfl rfl rfl (fun _ => r_bin (.int _ _) rfl rfl rfl) ?_
  refine D_re 19 (.int .u64 ((xb : Nat) : Int)) (iE ((u_xor xa _ la (by omega)).trans (congrArg _ hxb.symm))) ?_
  refine D_p rfl rfl rfl (fun _ => r_nilCheck rfl) ?_
  refine D_e [true, true] rfl (by kernel_rfl) ?_
  refine wl_st 0 (.int _ _) one123 M3 rfl rfl rfl rfl rfl rfl (fun w4 M4 => ?_)
  refine wl_nil (thenN ⟨alN, ?_⟩)
  refine D_nil ?_
  refine thenN ?_
  refine W_seq ?_
  refine W_draw [(0, 0), (1, 0), (2, 1), (3, 0), (4, 0), (5, 1), (6, 0), (7, 0), (8, 0), (9, 2)] mixed rfl (by kernel_rfl) (fun w5 hb5 hh5 => ?_)
  have M5 := M4.drew hb5 hh5
  refine D_p rfl rfl rfl (fun _ => r_move (.pointer _) rfl) ?_
  refine D_p rfl rfl rfl (fun _ => r_nilCheck rfl) ?_
  refine D_r rfl rfl rfl (r_ld 0 (.int _ _) one123 M5 rfl rfl rfl) ?_
  refine D_p rfl rfl rfl (fun _ => r_move (.pointer _) rfl) ?_
  refine D_p rfl rfl rfl (fun _ => r_nilCheck rfl) ?_
  refine D_r rfl rfl rfl (r_ld 0 (.int _ _) one123 M5 rfl rfl rfl) ?_
  refine D_p rfl rfl rfl (fun _ => r_shl rfl rfl (by decide)) ?_
  refine D_re 27 (.int .u64 ((xb * 131072 % 18446744073709551616 : Nat) : Int)) (iE ((u_shl xb 17 17 rfl (by omega)).trans (by rw [show (2 : Nat) ^ 17 = 131072 from rfl]))) ?_
  refine D_p rfl rfl rfl (fun _ => r_bin (.int _ _) rfl rfl rfl) ?_
  refine D_re 28 (.int .u64 ((xc : Nat) : Int)) (iE ((u_xor xb _ lb (by omega)).trans (congrArg _ hxc.symm))) ?_
  refine D_p rfl rfl rfl (fun _ => r_nilCheck rfl) ?_
  refine D_e [true, true] rfl (by kernel_rfl) ?_
  refine wl_st 0 (.int _ _) one123 M5 rfl rfl rfl rfl rfl rfl (fun w6 M6 => ?_)
  refine wl_nil (thenN ⟨alN, ?_⟩)
  refine D_nil ?_
  refine thenN ?_
  refine W_seq ?_
  refine W_region ?_
  refine wl_q (r_move (.pointer _) rfl) rfl rfl ?_
  refine wl_q (r_nilCheck rfl) rfl rfl ?_
  refine wl_q (r_ld 0 (.int _ _) one123 M6 rfl rfl rfl) rfl rfl ?_
  refine wl_q (r_assign (.int _ _) rfl) rfl rfl ?_
  refine wl_nil ?_
  refine thenN ?_
  refine W_ret ?_
  skip
  refine fin1 (.int _ _) rfl ?_
  exact ⟨by rw [hv], by rw [hv]; exact M6⟩

set_option maxHeartbeats 4000000 in
theorem next_pow (w : World) (y : Nat) (h0 : 0 < y) (hy : y < 64) :
    Calls Tryd.prog 77 #[.int .i64 (y : Int)] w (fun ex w' => ∃ v, ex = .returned v ∧ (fun v w' => v = .int .u64 ((1 <<< Go.Sort.bitsLen y : Nat) : Int) ∧ Below w.heap.size w w') v w') := by
  have hp := pow_len h0 hy
  have hp2 : 2 ^ Go.Sort.bitsLen y ≤ 2 ^ 6 := Nat.pow_le_pow_right (by omega) hp.2.2.2
  refine calls_of_W #[.tmp 2] 7 Tryd.func77 rfl Tryd.results77 Tryd.ntmps77 rfl ?_
  have M0 := Mem.refl w
  refine W_seq ?_
  refine W_region ?_
  refine wl_q (r_assign (.int _ _) rfl) rfl rfl ?_
  refine wl_nil ?_
  refine thenN ?_
  refine W_seq ?_
  refine W_region ?_
  refine wl_q (r_move (.int _ _) rfl) rfl rfl ?_
  refine wl_q (r_convK us3 Tryd.underlying92 rfl (wru64 _ (by omega) (by omega))) rfl rfl ?_
  refine wl_cal cal48 rfl rfl rfl ?_
  refine (bits_len _ y hy).mono ?_
  rintro _ w1 ⟨v1, rfl, ⟨rfl, hb1⟩⟩
  refine ⟨_, rfl, ?_⟩
  have M1 := M0.callB hb1
  refine wl_q (r_shl rfl rfl (by omega)) rfl rfl ?_
  refine wl_re 6 (.int .u64 ((1 <<< Go.Sort.bitsLen y : Nat) : Int)) (iE ((u_shlK 1 (Go.Sort.bitsLen y) _ rfl (by omega) (by omega)).trans (by rw [hp.1, Nat.one_mul]))) ?_
  refine wl_q (r_assign (.int _ _) rfl) rfl rfl ?_
  refine wl_nil ?_
  refine thenN ?_
  refine W_ret ?_
  skip
  refine fin1 (.int _ _) rfl ?_
  exact ⟨rfl, M1.below⟩

set_option maxHeartbeats 8000000 in
theorem sort_brk (w : World) (A : Option Addr) (n c : Nat) (d : AI) (e : Ent) (hR : RowIs 42 1 A n c ((d).toList.map keyCell) e) (hO : Own [e] w) (a b : Nat) (hab : a + 12 < b) (hb : b ≤ n) (h50 : b - a < 50) :
    Calls Tryd.prog 57 #[.slice A n c, .int .i64 (a : Int), .int .i64 (b : Int)] w (fun ex w' => ∃ v, ex = .returned v ∧ (fun v w' => v = .tuple #[] ∧ ∃ e', RowIs 42 1 A n c ((Go.Sort.breakPatterns d a b).toList.map keyCell) e' ∧ Mem w (blks [e]) [e'] w') v w') := by
  have hdn : d.size = n := by simpa using hR.1
  have hnb := hR.2.2.1
  obtain ⟨m, hm⟩ : ∃ m, m = 1 <<< Go.Sort.bitsLen (b - a) := ⟨_, rfl⟩
  have hpl := pow_len (n := b - a) (by omega) (by omega)
  rw [← hm] at hpl
  refine calls_of_W #[] 65 Tryd.func57 rfl Tryd.results57 Tryd.ntmps57 rfl ?_
  have M0 := hO.mem
  refine W_seq ?_
  refine W_region ?_
  refine wl_q (r_move (.int _ _) rfl) rfl rfl ?_
  refine wl_q (r_move (.int _ _) rfl) rfl rfl ?_
  refine wl_q (r_sub rfl rfl (by omega) (by omega)) rfl rfl ?_
  refine wl_re 13 (.int .i64 ((b - a : Nat) : Int)) (iE (by omega)) ?_
  refine wl_q (r_assign (.int _ _) rfl) rfl rfl ?_
  refine wl_nil ?_
  refine thenN ?_
  refine W_seq ?_
  refine W_region ?_
  refine wl_q (r_move (.int _ _) rfl) rfl rfl ?_
  refine wl_q (r_bin (.bool (decide _)) rfl rfl rfl) rfl rfl ?_
  refine wl_re 15 (.bool true) (bT (by omega)).symm ?_
  refine wl_nil ?_
  refine thenN ?_
  refine W_condT rfl ?_
  refine W_seq ?_
  refine W_region ?_
  refine wl_q (r_move (.int _ _) rfl) rfl rfl ?_
  refine wl_q (r_convK us3 Tryd.underlying123 rfl (wru64 _ (by omega) (by omega))) rfl rfl ?_
  refine wl_alloc zero123 M0 rfl rfl (fun b1 w1 M1 => ?_)
  refine wl_st 1 (.int _ _) one123 M1 rfl rfl rfl rfl rfl rfl (fun w2 M2 => ?_)
  refine wl_nil ?_
  refine thenN ?_
  refine W_seq ?_
  refine W_region ?_
  refine wl_q (r_move (.int _ _) rfl) rfl rfl ?_
  refine wl_cal cal77 rfl rfl rfl ?_
  refine (next_pow _ (b - a) (by omega) (by omega)).mono ?_
  rintro _ w3 ⟨v3, rfl, ⟨rfl, hb3⟩⟩
  refine ⟨_, rfl, ?_⟩
  have M3 := M2.callB hb3
  refine wl_re 19 (.int .u64 ((m : Nat) : Int)) (iE (by rw [hm])) ?_
  refine wl_q (r_assign (.int _ _) rfl) rfl rfl ?_
  refine wl_nil ?_
  refine thenN ?_
  refine W_seq ?_
  refine W_region ?_
  refine wl_q (r_move (.int _ _) rfl) rfl rfl ?_
  refine wl_q (r_move (.int _ _) rfl) rfl rfl ?_
  refine wl_q (r_quo rfl rfl (by decide)) rfl rfl ?_
  refine wl_re 22 (.int .i64 (((b - a) / 4 : Nat) : Int)) (iE (by rw [tquo4, w64 _ (by omega) (by omega)])) ?_
  refine wl_q (r_mul rfl rfl (by omega) (by omega)) rfl rfl ?_
  refine wl_re 23 (.int .i64 (((b - a) / 4 * 2 : Nat) : Int)) (iE (by omega)) ?_
  refine wl_q (r_add rfl rfl (by omega) (by omega)) rfl rfl ?_
  refine wl_re 24 (.int .i64 ((a + (b - a) / 4 * 2 : Nat) : Int)) (iE (by omega)) ?_
  refine wl_q (r_sub rfl rfl (by omega) (by omega)) rfl rfl ?_
  refine wl_re 25 (.int .i64 (((a + (b - a) / 4 * 2 - 1) : Nat) : Int)) (iE (by omega)) ?_
  refine wl_q (r_assign (.int _ _) rfl) rfl rfl ?_
  refine wl_nil ?_
  refine thenN ?_
  refine W_block ?_
  refine W_loop (σ := Nat × UInt64 × AI × Ent) [0, 1, 6, 7, 8] (fun (k, r, d1, e1) => [(9, .int .i64 (((a + (b - a) / 4 * 2 - 1) + k : Nat) : Int))]) (fun (k, r, d1, e1) w' => (k ≤ 3 ∧ brk a (b - a) m (a + (b - a) / 4 * 2 - 1) (UInt64.ofNat (b - a), d) k = (r, d1) ∧ RowIs 42 1 A n c ((d1).toList.map keyCell) e1) ∧ Mem w (blks [e]) [e1, (some b1, bc [.int .u64 ((r.toNat : Nat) : Int)] 123)] w') (fun (k, r, d1, e1) => 3 - k) (0, UInt64.ofNat (b - a), d, e) (agC (iE (by omega)) agN) (⟨⟨by omega, rfl, hR⟩, by rw [show (UInt64.ofNat (b - a)).toNat = b - a by rw [UInt64.toNat_ofNat']; omega]; exact M3⟩) ?_
  rintro ⟨k, r, d1, e1⟩ ρ4 w4 ⟨⟨hk, hT, hR1⟩, hM4⟩
  have hs1 : d1.size = n := by simpa using hR1.1
  have hrl := r.toNat_lt
  refine W_seq ?_
  refine W_seq ?_
  refine W_region ?_
  refine wl_q (r_move (.int _ _) rfl) rfl rfl ?_
  refine wl_q (r_move (.int _ _) rfl) rfl rfl ?_
  refine wl_q (r_move (.int _ _) rfl) rfl rfl ?_
  refine wl_q (r_quo rfl rfl (by decide)) rfl rfl ?_
  refine wl_re 29 (.int .i64 (((b - a) / 4 : Nat) : Int)) (iE (by rw [tquo4, w64 _ (by omega) (by omega)])) ?_
  refine wl_q (r_mul rfl rfl (by omega) (by omega)) rfl rfl ?_
  refine wl_re 30 (.int .i64 (((b - a) / 4 * 2 : Nat) : Int)) (iE (by omega)) ?_
  refine wl_q (r_add rfl rfl (by omega) (by omega)) rfl rfl ?_
  refine wl_re 31 (.int .i64 ((a + (b - a) / 4 * 2 : Nat) : Int)) (iE (by omega)) ?_
  refine wl_q (r_add rfl rfl (by omega) (by omega)) rfl rfl ?_
  refine wl_re 32 (.int .i64 ((a + (b - a) / 4 * 2 + 1 : Nat) : Int)) (iE (by omega)) ?_
  refine wl_q (r_bin (.bool (decide _)) rfl rfl rfl) rfl rfl ?_
  refine wl_nil ?_
  refine thenN ?_
  refine W_condD rfl (fun h33 => ?_) (fun h33 => ?_)
  · skip
    refine W_skip ?_
    refine thenN ?_
    refine W_seq ?_
    refine W_block ?_
    refine W_seq ?_
    refine W_region ?_
    refine wl_cal cal78 rfl rfl rfl ?_
    refine (xor_next _ b1 r.toNat (by omega) (hM4.ownSeg 1 1)).mono ?_
    rintro _ w5 ⟨v5, rfl, ⟨rfl, hM5⟩⟩
    refine ⟨_, rfl, ?_⟩
    have M5 : Mem _ _ [_, _] _ := hM4.seg 1 1 hM5
    have hxl := Go.Sort.xorNextN_lt r.toNat (by omega)
    obtain ⟨o, ho⟩ : ∃ o, Go.Sort.xorNextN r.toNat &&& (m - 1) = o := ⟨_, rfl⟩
    have hol : o ≤ m - 1 := by rw [← ho]; exact Nat.and_le_right
    refine wl_q (r_move (.int _ _) rfl) rfl rfl ?_
    refine wl_q (r_bin (.int _ _) rfl rfl rfl) rfl rfl ?_
    refine wl_re 38 (.int .u64 ((m - 1 : Nat) : Int)) (iE (by rw [wrU]; omega)) ?_
    refine wl_q (r_bin (.int _ _) rfl rfl rfl) rfl rfl ?_
    refine wl_re 39 (.int .u64 ((o : Nat) : Int)) (iE ((u_and _ _ hxl (by omega)).trans (congrArg _ ho))) ?_
    refine wl_q (r_convK us92 Tryd.underlying3 rfl (w64 _ (by omega) (by omega))) rfl rfl ?_
    refine wl_q (r_assign (.int _ _) rfl) rfl rfl ?_
    refine wl_nil ?_
    refine thenN ?_
    refine W_seq ?_
    refine W_seq ?_
    refine W_region ?_
    refine wl_q (r_move (.int _ _) rfl) rfl rfl ?_
    refine wl_q (r_move (.int _ _) rfl) rfl rfl ?_
    refine wl_q (r_bin (.bool (decide _)) rfl rfl rfl) rfl rfl ?_
    refine wl_nil ?_
    refine thenN ?_
    refine W_condD rfl (fun h43 => ?_) (fun h43 => ?_)
    · skip
      refine W_region ?_
      refine wl_q (r_move (.int _ _) rfl) rfl rfl ?_
      refine wl_q (r_move (.int _ _) rfl) rfl rfl ?_
      refine wl_q (r_sub rfl rfl (by omega) (by omega)) rfl rfl ?_
      refine wl_re 46 (.int .i64 ((o - (b - a) : Nat) : Int)) (iE (by omega)) ?_
      refine wl_q (r_assign (.int _ _) rfl) rfl rfl ?_
      refine wl_nil ?_
      refine thenN ?_
      refine W_draw [(0, 0), (1, 0), (2, 0), (3, 0), (4, 0), (5, 0), (6, 0), (7, 0), (8, 0), (9, 0), (10, 1), (11, 1), (12, 0), (13, 0), (14, 1), (15, 1), (16, 1), (17, 2), (18, 1), (19, 2)] mixed rfl (by kernel_rfl) (fun w6 hb6 hh6 => ?_)
      have M6 := M5.drew hb6 hh6
      refine D_p rfl rfl rfl (fun _ => r_move (.slice _ _ _) rfl) ?_
      refine D_p rfl rfl rfl (fun _ => r_move (.int _ _) rfl) ?_
      refine D_p rfl rfl rfl (fun _ => r_move (.slice _ _ _) rfl) ?_
      refine D_p rfl rfl rfl (fun _ => r_move (.int _ _) rfl) ?_
      refine D_p rfl rfl rfl (fun _ => r_move (.int _ _) rfl) ?_
      refine D_p rfl rfl rfl (fun _ => r_add rfl rfl (by omega) (by omega)) ?_
      refine D_re 52 (.int .i64 ((a + (o - (b - a)) : Nat) : Int)) (iE (by omega)) ?_
      refine D_p rfl rfl rfl (fun _ => r_move (.slice _ _ _) rfl) ?_
      refine D_p rfl rfl rfl (fun _ => r_move (.int _ _) rfl) ?_
      refine D_p rfl rfl rfl (fun _ => r_move (.int _ _) rfl) ?_
      refine D_p rfl rfl rfl (fun _ => r_add rfl rfl (by omega) (by omega)) ?_
      refine D_re 56 (.int .i64 ((a + (o - (b - a)) : Nat) : Int)) (iE (by omega)) ?_
      refine D_r rfl rfl rfl (r_idxR ((a + (o - (b - a)))) sl27 rfl rfl rfl ((hR1.rd M6 (nthMem (i := 0) rfl)).below_len (mapGet keyCell (dget (d := d1) (i := a + (o - (b - a))) (by omega)))) ((hR1.rd M6 (nthMem (i := 0) rfl)).someK (mapGet keyCell (dget (d := d1) (i := a + (o - (b - a))) (by omega))))) ?_
      refine D_r rfl rfl rfl (r_ldE0 (.int _ _) one42 (hR1.rd M6 (nthMem (i := 0) rfl)) (mapGet keyCell (dget (d := d1) (i := a + (o - (b - a))) (by omega))) rfl) ?_
      refine D_p rfl rfl rfl (fun _ => r_move (.slice _ _ _) rfl) ?_
      refine D_p rfl rfl rfl (fun _ => r_move (.int _ _) rfl) ?_
      refine D_r rfl rfl rfl (r_idxR (((a + (b - a) / 4 * 2 - 1) + k)) sl27 rfl rfl rfl ((hR1.rd M6 (nthMem (i := 0) rfl)).below_len (mapGet keyCell (dget (d := d1) (i := (a + (b - a) / 4 * 2 - 1) + k) (by omega)))) ((hR1.rd M6 (nthMem (i := 0) rfl)).someK (mapGet keyCell (dget (d := d1) (i := (a + (b - a) / 4 * 2 - 1) + k) (by omega))))) ?_
      refine D_r rfl rfl rfl (r_ldE0 (.int _ _) one42 (hR1.rd M6 (nthMem (i := 0) rfl)) (mapGet keyCell (dget (d := d1) (i := (a + (b - a) / 4 * 2 - 1) + k) (by omega))) rfl) ?_
      refine D_r rfl rfl rfl (r_idxR (((a + (b - a) / 4 * 2 - 1) + k)) sl27 rfl rfl rfl ((hR1.rd M6 (nthMem (i := 0) rfl)).below_len (mapGet keyCell (dget (d := d1) (i := (a + (b - a) / 4 * 2 - 1) + k) (by omega)))) ((hR1.rd M6 (nthMem (i := 0) rfl)).someK (mapGet keyCell (dget (d := d1) (i := (a + (b - a) / 4 * 2 - 1) + k) (by omega))))) ?_
      refine D_e [true, true, true, true, true] rfl (by kernel_rfl) ?_
      refine wl_stR0 0 (.int _ _) one42 M6 rfl hR1 (mapGet keyCell (dget (d := d1) (i := (a + (b - a) / 4 * 2 - 1) + k) (by omega))) rfl rfl rfl rfl (fun e7 w7 hR7 M7 => ?_)
      refine wl_nil (thenN ⟨alN, ?_⟩)
      refine D_r rfl rfl rfl (r_idxR ((a + (o - (b - a)))) sl27 rfl rfl rfl ((hR7.rd M7 (nthMem (i := 0) rfl)).below_len ((dset (j := a + (o - (b - a))) (by simp; omega)))) ((hR7.rd M7 (nthMem (i := 0) rfl)).someK ((dset (j := a + (o - (b - a))) (by simp; omega))))) ?_
      refine D_e [true] rfl (by kernel_rfl) ?_
      refine wl_stR0 0 (.int _ _) one42 M7 rfl hR7 ((dset (j := a + (o - (b - a))) (by simp; omega))) rfl rfl rfl rfl (fun e8 w8 hR8 M8 => ?_)
      have hQ8 := swp_row (d := d1) (i := (a + (b - a) / 4 * 2 - 1) + k) (j := a + (o - (b - a))) rfl rfl hR8
      refine wl_nil (thenN ⟨alN, ?_⟩)
      refine D_nil ?_
      refine blkN ?_
      refine thenN ?_
      refine W_region ?_
      refine wl_q (r_move (.int _ _) rfl) rfl rfl ?_
      refine wl_q (r_add rfl rfl (by omega) (by omega)) rfl rfl ?_
      refine wl_re 35 (.int .i64 (((a + (b - a) / 4 * 2 - 1) + (k + 1) : Nat) : Int)) (iE (by omega)) ?_
      refine wl_q (r_assign (.int _ _) rfl) rfl rfl ?_
      refine wl_nil ?_
      have hst := break_one (a := a) (len := b - a) (m := m) (x := r.toNat) (i := (a + (b - a) / 4 * 2 - 1) + k) (o := o - (b - a)) (d := d1) (r := r) rfl (by rw [← ho, if_pos (by omega)])
      refine roundN (k + 1, Go.Sort.xorNext r, swp d1 ((a + (b - a) / 4 * 2 - 1) + k) (a + (o - (b - a))), e8) (agC rfl agN) (akC rfl (akC rfl (akC rfl (akC rfl (akC rfl akN))))) ?_ ?_
      · exact ⟨⟨by omega, by show Go.Sort.breakStep a (b - a) m (brk a (b - a) m (a + (b - a) / 4 * 2 - 1) (UInt64.ofNat (b - a), d) k) _ = _; rw [hT]; exact hst, hQ8⟩, by rw [Go.Sort.xorNext_toNat]; exact M8⟩
      · (show 3 - (k + 1) < 3 - k; omega)
    · skip
      refine W_skip ?_
      refine thenN ?_
      refine W_draw [(0, 0), (1, 0), (2, 0), (3, 0), (4, 0), (5, 0), (6, 0), (7, 0), (8, 0), (9, 0), (10, 1), (11, 1), (12, 0), (13, 0), (14, 1), (15, 1), (16, 1), (17, 2), (18, 1), (19, 2)] mixed rfl (by kernel_rfl) (fun w9 hb9 hh9 => ?_)
      have M9 := M5.drew hb9 hh9
      refine D_p rfl rfl rfl (fun _ => r_move (.slice _ _ _) rfl) ?_
      refine D_p rfl rfl rfl (fun _ => r_move (.int _ _) rfl) ?_
      refine D_p rfl rfl rfl (fun _ => r_move (.slice _ _ _) rfl) ?_
      refine D_p rfl rfl rfl (fun _ => r_move (.int _ _) rfl) ?_
      refine D_p rfl rfl rfl (fun _ => r_move (.int _ _) rfl) ?_
      refine D_p rfl rfl rfl (fun _ => r_add rfl rfl (by omega) (by omega)) ?_
      refine D_re 52 (.int .i64 ((a + (o) : Nat) : Int)) (iE (by omega)) ?_
      refine D_p rfl rfl rfl (fun _ => r_move (.slice _ _ _) rfl) ?_
      refine D_p rfl rfl rfl (fun _ => r_move (.int _ _) rfl) ?_
      refine D_p rfl rfl rfl (fun _ => r_move (.int _ _) rfl) ?_
      refine D_p rfl rfl rfl (fun _ => r_add rfl rfl (by omega) (by omega)) ?_
      refine D_re 56 (.int .i64 ((a + (o) : Nat) : Int)) (iE (by omega)) ?_
      refine D_r rfl rfl rfl (r_idxR ((a + (o))) sl27 rfl rfl rfl ((hR1.rd M9 (nthMem (i := 0) rfl)).below_len (mapGet keyCell (dget (d := d1) (i := a + (o)) (by omega)))) ((hR1.rd M9 (nthMem (i := 0) rfl)).someK (mapGet keyCell (dget (d := d1) (i := a + (o)) (by omega))))) ?_
      refine D_r rfl rfl rfl (r_ldE0 (.int _ _) one42 (hR1.rd M9 (nthMem (i := 0) rfl)) (mapGet keyCell (dget (d := d1) (i := a + (o)) (by omega))) rfl) ?_
      refine D_p rfl rfl rfl (fun _ => r_move (.slice _ _ _) rfl) ?_
      refine D_p rfl rfl rfl (fun _ => r_move (.int _ _) rfl) ?_
      refine D_r rfl rfl rfl (r_idxR (((a + (b - a) / 4 * 2 - 1) + k)) sl27 rfl rfl rfl ((hR1.rd M9 (nthMem (i := 0) rfl)).below_len (mapGet keyCell (dget (d := d1) (i := (a + (b - a) / 4 * 2 - 1) + k) (by omega)))) ((hR1.rd M9 (nthMem (i := 0) rfl)).someK (mapGet keyCell (dget (d := d1) (i := (a + (b - a) / 4 * 2 - 1) + k) (by omega))))) ?_
      refine D_r rfl rfl rfl (r_ldE0 (.int _ _) one42 (hR1.rd M9 (nthMem (i := 0) rfl)) (mapGet keyCell (dget (d := d1) (i := (a + (b - a) / 4 * 2 - 1) + k) (by omega))) rfl) ?_
      refine D_r rfl rfl rfl (r_idxR (((a + (b - a) / 4 * 2 - 1) + k)) sl27 rfl rfl rfl ((hR1.rd M9 (nthMem (i := 0) rfl)).below_len (mapGet keyCell (dget (d := d1) (i := (a + (b - a) / 4 * 2 - 1) + k) (by omega)))) ((hR1.rd M9 (nthMem (i := 0) rfl)).someK (mapGet keyCell (dget (d := d1) (i := (a + (b - a) / 4 * 2 - 1) + k) (by omega))))) ?_
      refine D_e [true, true, true, true, true] rfl (by kernel_rfl) ?_
      refine wl_stR0 0 (.int _ _) one42 M9 rfl hR1 (mapGet keyCell (dget (d := d1) (i := (a + (b - a) / 4 * 2 - 1) + k) (by omega))) rfl rfl rfl rfl (fun e10 w10 hR10 M10 => ?_)
      refine wl_nil (thenN ⟨alN, ?_⟩)
      refine D_r rfl rfl rfl (r_idxR ((a + (o))) sl27 rfl rfl rfl ((hR10.rd M10 (nthMem (i := 0) rfl)).below_len ((dset (j := a + (o)) (by simp; omega)))) ((hR10.rd M10 (nthMem (i := 0) rfl)).someK ((dset (j := a + (o)) (by simp; omega))))) ?_
      refine D_e [true] rfl (by kernel_rfl) ?_
      refine wl_stR0 0 (.int _ _) one42 M10 rfl hR10 ((dset (j := a + (o)) (by simp; omega))) rfl rfl rfl rfl (fun e11 w11 hR11 M11 => ?_)
      have hQ11 := swp_row (d := d1) (i := (a + (b - a) / 4 * 2 - 1) + k) (j := a + (o)) rfl rfl hR11
      refine wl_nil (thenN ⟨alN, ?_⟩)
      refine D_nil ?_
      refine blkN ?_
      refine thenN ?_
      refine W_region ?_
      refine wl_q (r_move (.int _ _) rfl) rfl rfl ?_
      refine wl_q (r_add rfl rfl (by omega) (by omega)) rfl rfl ?_
      refine wl_re 35 (.int .i64 (((a + (b - a) / 4 * 2 - 1) + (k + 1) : Nat) : Int)) (iE (by omega)) ?_
      refine wl_q (r_assign (.int _ _) rfl) rfl rfl ?_
      refine wl_nil ?_
      have hst := break_one (a := a) (len := b - a) (m := m) (x := r.toNat) (i := (a + (b - a) / 4 * 2 - 1) + k) (o := o) (d := d1) (r := r) rfl (by rw [← ho, if_neg (by omega)])
      refine roundN (k + 1, Go.Sort.xorNext r, swp d1 ((a + (b - a) / 4 * 2 - 1) + k) (a + (o)), e11) (agC rfl agN) (akC rfl (akC rfl (akC rfl (akC rfl (akC rfl akN))))) ?_ ?_
      · exact ⟨⟨by omega, by show Go.Sort.breakStep a (b - a) m (brk a (b - a) m (a + (b - a) / 4 * 2 - 1) (UInt64.ofNat (b - a), d) k) _ = _; rw [hT]; exact hst, hQ11⟩, by rw [Go.Sort.xorNext_toNat]; exact M11⟩
      · (show 3 - (k + 1) < 3 - k; omega)
  · skip
    have hk3 : k = 3 := by omega
    subst hk3
    refine W_exit ?_
    refine thenX ?_
    refine roundX ?_
    refine blkH ?_
    refine fin0n ?_
    exact ⟨rfl, e1, by rw [break_brk (by omega), ← hm, hT]; exact hR1, hM4.keep [true, false]⟩

set_option maxHeartbeats 4000000 in
theorem sort_partial (w : World) (A : Option Addr) (n c : Nat) (d : AI) (e : Ent) (hR : RowIs 42 1 A n c ((d).toList.map keyCell) e) (hO : Own [e] w) (a b : Nat) (hab : a + 12 < b) (hb : b ≤ n) (h50 : b - a < 50) :
    Calls Tryd.prog 60 #[.slice A n c, .int .i64 (a : Int), .int .i64 (b : Int)] w (fun ex w' => ∃ v, ex = .returned v ∧ (fun v w' => v = .bool (decide (Go.Sort.scanSorted ltInt d b (a + 1) = b)) ∧ Mem w (blks [e]) [e] w') v w') := by
  have hdn : d.size = n := by simpa using hR.1
  have hnb := hR.2.2.1
  refine calls_of_W #[.tmp 6] 133 Tryd.func60 rfl Tryd.results60 Tryd.ntmps60 rfl ?_
  have M0 := hO.mem
  refine W_seq ?_
  refine W_region ?_
  refine wl_q (r_assign (.bool false) rfl) rfl rfl ?_
  refine wl_nil ?_
  refine thenN ?_
  refine W_seq ?_
  refine W_region ?_
  refine wl_q (r_move (.int _ _) rfl) rfl rfl ?_
  refine wl_q (r_add rfl rfl (by omega) (by omega)) rfl rfl ?_
  refine wl_re 12 (.int .i64 ((a + 1 : Nat) : Int)) (iE (by omega)) ?_
  refine wl_q (r_assign (.int _ _) rfl) rfl rfl ?_
  refine wl_nil ?_
  refine thenN ?_
  refine W_seq ?_
  refine W_seq ?_
  refine W_region ?_
  refine wl_q (r_assign (.int _ _) rfl) rfl rfl ?_
  refine wl_nil ?_
  refine thenN ?_
  refine W_block ?_
  refine W_rounds 2 (Wr_s ?_)
  refine W_seq ?_
  refine W_seq ?_
  refine W_region ?_
  refine wl_q (r_move (.int _ _) rfl) rfl rfl ?_
  refine wl_q (r_bin (.bool (decide _)) rfl rfl rfl) rfl rfl ?_
  refine wl_re 14 (.bool true) (bT (by first | decide | omega)).symm ?_
  refine wl_nil ?_
  refine thenN ?_
  refine W_condT rfl ?_
  refine W_skip ?_
  refine thenN ?_
  refine W_seq ?_
  refine W_block ?_
  refine W_meet (σ := Nat) [0, 1, 2, 6, 8] (fun i => [(7, .int .i64 (i : Int))]) (fun i w' => (a < i ∧ i ≤ b ∧ Go.Sort.scanSorted ltInt d b (a + 1) = i) ∧ Mem w (blks [e]) [e] w') ?_ ?_
  · skip
    refine W_block ?_
    refine W_loop (σ := Nat) [0, 1, 2, 6, 8] (fun i => [(7, .int .i64 (i : Int))]) (fun i w' => (a < i ∧ i ≤ b ∧ Go.Sort.scanSorted ltInt d b i = Go.Sort.scanSorted ltInt d b (a + 1)) ∧ Mem w (blks [e]) [e] w') (fun i => b - i) (a + 1) (agC rfl agN) (⟨⟨by omega, by omega, rfl⟩, M0⟩) ?_
    rintro i ρ2 w2 ⟨⟨hi, hi2, hT⟩, hM2⟩
    refine W_seq ?_
    refine W_seq ?_
    refine W_draw [(0, 0), (1, 0), (2, 0), (3, 0), (4, 0), (5, 0), (6, 1), (7, 1), (8, 0), (9, 0), (10, 0), (11, 1), (12, 1), (13, 2), (14, 0), (15, 0)] mixed rfl (by kernel_rfl) (fun w3 hb3 hh3 => ?_)
    have M3 := hM2.drew hb3 hh3
    refine D_p rfl rfl rfl (fun _ => r_move (.int _ _) rfl) ?_
    refine D_p rfl rfl rfl (fun _ => r_move (.int _ _) rfl) ?_
    refine D_p rfl rfl rfl (fun _ => r_bin (.bool (decide _)) rfl rfl rfl) ?_
    refine D_p rfl rfl rfl (fun _ => r_move (.bool (decide _)) rfl) ?_
    refine D_splitD 20 rfl (fun g20 => ?_) (fun g20 => ?_)
    · skip
      refine D_p rfl rfl rfl (fun _ => r_move (.slice _ _ _) rfl) ?_
      refine D_p rfl rfl rfl (fun _ => r_move (.int _ _) rfl) ?_
      refine D_r rfl rfl rfl (r_idxR ((i)) sl27 rfl rfl rfl ((hR.rd M3 (nthMem (i := 0) rfl)).below_len (mapGet keyCell (dget (d := d) (i := i) (by omega)))) ((hR.rd M3 (nthMem (i := 0) rfl)).someK (mapGet keyCell (dget (d := d) (i := i) (by omega))))) ?_
      refine D_r rfl rfl rfl (r_ldE0 (.int _ _) one42 (hR.rd M3 (nthMem (i := 0) rfl)) (mapGet keyCell (dget (d := d) (i := i) (by omega))) rfl) ?_
      refine D_p rfl rfl rfl (fun _ => r_move (.slice _ _ _) rfl) ?_
      refine D_p rfl rfl rfl (fun _ => r_move (.int _ _) rfl) ?_
      refine D_p rfl rfl rfl (fun _ => r_sub rfl rfl (by omega) (by omega)) ?_
      refine D_re 27 (.int .i64 ((i - 1 : Nat) : Int)) (iE (by omega)) ?_
      refine D_r rfl rfl rfl (r_idxR ((i - 1)) sl27 rfl rfl rfl ((hR.rd M3 (nthMem (i := 0) rfl)).below_len (mapGet keyCell (dget (d := d) (i := i - 1) (by omega)))) ((hR.rd M3 (nthMem (i := 0) rfl)).someK (mapGet keyCell (dget (d := d) (i := i - 1) (by omega))))) ?_
      refine D_r rfl rfl rfl (r_ldE0 (.int _ _) one42 (hR.rd M3 (nthMem (i := 0) rfl)) (mapGet keyCell (dget (d := d) (i := i - 1) (by omega))) rfl) ?_
      refine D_e [true, true, true, true] rfl (by kernel_rfl) ?_
      refine wl_cal cal61 rfl rfl rfl ?_
      refine (cmp_Less32 _ _ _).mono ?_
      rintro _ w4 ⟨v4, rfl, ⟨rfl, hb4⟩⟩
      refine ⟨_, rfl, ?_⟩
      have M4 := M3.callB hb4
      refine wl_nil (thenN ⟨alN, ?_⟩)
      refine D_p rfl rfl rfl (fun _ => r_not rfl) ?_
      refine D_p rfl rfl rfl (fun _ => r_pick true (.bool (decide _)) rfl rfl) ?_
      refine D_nil ?_
      refine thenN ?_
      refine W_condD rfl (fun h32 => ?_) (fun h32 => ?_)
      · skip
        refine W_skip ?_
        refine thenN ?_
        refine W_block ?_
        refine W_region ?_
        refine wl_q (r_move (.int _ _) rfl) rfl rfl ?_
        refine wl_q (r_add rfl rfl (by omega) (by omega)) rfl rfl ?_
        refine wl_q (r_assign (.int _ _) rfl) rfl rfl ?_
        refine wl_nil ?_
        refine blkN ?_
        refine roundN (i + 1) (agC rfl agN) (akC rfl (akC rfl (akC rfl (akC rfl (akC rfl akN))))) ?_ ?_
        · exact ⟨⟨by omega, by omega, (sorted_step (by omega) h32).symm.trans hT⟩, M4⟩
        · omega
      · skip
        refine W_exit ?_
        refine thenX ?_
        refine roundX ?_
        refine blkH ?_
        refine meetN i (agC rfl agN) (akC rfl (akC rfl (akC rfl (akC rfl (akC rfl akN))))) ?_
        exact ⟨⟨by omega, by omega, by rw [← hT]; exact sorted_stop (fun h => h32 h.2)⟩, M4⟩
    · skip
      refine D_s rfl rfl rfl ?_
      refine D_s rfl rfl rfl ?_
      refine D_s1 rfl rfl rfl ?_
      refine D_s1 rfl rfl rfl ?_
      refine D_s rfl rfl rfl ?_
      refine D_s rfl rfl rfl ?_
      refine D_s rfl rfl rfl ?_
      refine D_s1 rfl rfl rfl ?_
      refine D_s1 rfl rfl rfl ?_
      refine D_e [true, true, true, true] rfl (by kernel_rfl) ?_
      refine wl_skip rfl rfl ?_
      refine wl_nil (thenN ⟨alN, ?_⟩)
      refine D_s rfl rfl rfl ?_
      refine D_p rfl rfl rfl (fun _ => r_pick false (.bool false) rfl rfl) ?_
      refine D_nil ?_
      refine thenN ?_
      refine W_condF rfl ?_
      refine W_exit ?_
      refine thenX ?_
      refine roundX ?_
      refine blkH ?_
      refine meetN i (agC rfl agN) (akC rfl (akC rfl (akC rfl (akC rfl (akC rfl akN))))) ?_
      exact ⟨⟨by omega, by omega, by rw [← hT]; exact sorted_stop (fun h => by omega)⟩, M3⟩
  · skip
    rintro i ρ1 w1 ⟨⟨hi, hi2, hT⟩, hM1⟩
    refine W_seq ?_
    refine W_seq ?_
    refine W_region ?_
    refine wl_q (r_move (.int _ _) rfl) rfl rfl ?_
    refine wl_q (r_move (.int _ _) rfl) rfl rfl ?_
    refine wl_q (r_bin (.bool (decide _)) rfl rfl rfl) rfl rfl ?_
    refine wl_nil ?_
    refine thenN ?_
    refine W_condD rfl (fun h37 => ?_) (fun h37 => ?_)
    · skip
      refine W_seq ?_
      refine W_region ?_
      refine wl_q (r_assign (.bool true) rfl) rfl rfl ?_
      refine wl_nil ?_
      refine thenN ?_
      refine W_ret ?_
      refine thenR ?_
      refine blkR ?_
      refine thenR ?_
      refine thenR ?_
      refine blkR ?_
      refine thenR ?_
      skip
      refine fin1 (.bool true) rfl ?_
      exact ⟨by rw [hT]; exact (bT (by omega)), hM1⟩
    · skip
      refine W_skip ?_
      refine thenN ?_
      refine W_seq ?_
      refine W_seq ?_
      refine W_region ?_
      refine wl_q (r_move (.int _ _) rfl) rfl rfl ?_
      refine wl_q (r_move (.int _ _) rfl) rfl rfl ?_
      refine wl_q (r_sub rfl rfl (by omega) (by omega)) rfl rfl ?_
      refine wl_re 40 (.int .i64 ((b - a : Nat) : Int)) (iE (by omega)) ?_
      refine wl_q (r_bin (.bool (decide _)) rfl rfl rfl) rfl rfl ?_
      refine wl_re 41 (.bool true) (bT (by omega)).symm ?_
      refine wl_nil ?_
      refine thenN ?_
      refine W_condT rfl ?_
      refine W_seq ?_
      refine W_region ?_
      refine wl_q (r_assign (.bool false) rfl) rfl rfl ?_
      refine wl_nil ?_
      refine thenN ?_
      refine W_ret ?_
      refine thenR ?_
      refine blkR ?_
      refine thenR ?_
      refine thenR ?_
      refine blkR ?_
      refine thenR ?_
      skip
      refine fin1 (.bool false) rfl ?_
      exact ⟨by rw [hT]; exact (bF (by omega)), hM1⟩

end Go.Proofs.YtjbhobahebebkaaDoor
