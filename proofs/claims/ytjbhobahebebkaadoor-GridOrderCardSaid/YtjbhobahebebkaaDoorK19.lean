/- Part of the proof of the laws of this seat: S10, S10b. No conditions. -/
import Derived.Test.YtjbhobahebebkaaDoorK5
import Derived.Test.YtjbhobahebebkaaDoorK8
import Derived.Test.YtjbhobahebebkaaDoorK18
/- Walks of Go functions over the frame of this claim: what each computes, for every input of the stated types (S10). -/
set_option linter.unusedVariables false
set_option linter.unusedSimpArgs false
set_option linter.unnecessarySimpa false
namespace Go.Proofs.YtjbhobahebebkaaDoor
open Go.Bil
open Go.RowKit (Below)
open Go.Proofs

open Go.Sort (swp ltInt)

set_option maxHeartbeats 4000000 in
theorem cmp_Less32 (w : World) (x y : Int) :
    Calls Tryd.prog 61 #[.int .u32 x, .int .u32 y] w (fun ex w' => ∃ v, ex = .returned v ∧ (fun v w' => v = .bool (decide (x < y)) ∧ Below w.heap.size w w') v w') := by
  refine calls_of_W #[.tmp 4] 17 Tryd.func61 rfl Tryd.results61 Tryd.ntmps61 rfl ?_
  have M0 := Mem.refl w
  refine W_seq ?_
  refine W_region ?_
  refine wl_q (r_assign (.bool false) rfl) rfl rfl ?_
  refine wl_nil ?_
  refine thenN ?_
  refine W_seq ?_
  refine W_region ?_
  refine wl_q (r_move (.int _ _) rfl) rfl rfl ?_
  refine wl_cal cal54 rfl rfl rfl ?_
  refine (cmp_isNaN32 _ x).mono ?_
  rintro _ w1 ⟨v1, rfl, ⟨rfl, rfl⟩⟩
  refine ⟨_, rfl, ?_⟩
  have M1 : Mem _ _ [] _ := M0
  refine wl_q (r_move (.bool false) rfl) rfl rfl ?_
  refine wl_skip rfl rfl ?_
  refine wl_skip rfl rfl ?_
  refine wl_skip rfl rfl ?_
  refine wl_q (r_pick false (.bool false) rfl rfl) rfl rfl ?_
  refine wl_q (r_move (.bool false) rfl) rfl rfl ?_
  refine wl_q (r_move (.int _ _) rfl) rfl rfl ?_
  refine wl_q (r_move (.int _ _) rfl) rfl rfl ?_
  refine wl_q (r_bin (.bool (decide _)) rfl rfl rfl) rfl rfl ?_
  refine wl_q (r_pick false (.bool (decide _)) rfl rfl) rfl rfl ?_
  refine wl_q (r_assign (.bool (decide _)) rfl) rfl rfl ?_
  refine wl_nil ?_
  refine thenN ?_
  refine W_ret ?_
  skip
  refine fin1 (.bool (decide _)) rfl ?_
  exact ⟨rfl, M1.below⟩

set_option maxHeartbeats 4000000 in
theorem sort_ins (w : World) (A : Option Addr) (n c : Nat) (d : AI) (e : Ent) (hR : RowIs 42 1 A n c ((d).toList.map keyCell) e) (hO : Own [e] w) (a b : Nat) (ha : a ≤ n) (hb : b ≤ n) :
    Calls Tryd.prog 55 #[.slice A n c, .int .i64 (a : Int), .int .i64 (b : Int)] w (fun ex w' => ∃ v, ex = .returned v ∧ (fun v w' => v = .tuple #[] ∧ ∃ e', RowIs 42 1 A n c ((Go.Sort.insertionSort ltInt d a b).toList.map keyCell) e' ∧ Mem w (blks [e]) [e'] w') v w') := by
  have hdn : d.size = n := by simpa using hR.1
  have hnb := hR.2.2.1
  refine calls_of_W #[] 49 Tryd.func55 rfl Tryd.results55 Tryd.ntmps55 rfl ?_
  have M0 := hO.mem
  refine W_seq ?_
  refine W_region ?_
  refine wl_q (r_move (.int _ _) rfl) rfl rfl ?_
  refine wl_q (r_add rfl rfl (by omega) (by omega)) rfl rfl ?_
  refine wl_re 9 (.int .i64 ((a + 1 : Nat) : Int)) (iE (by omega)) ?_
  refine wl_q (r_assign (.int _ _) rfl) rfl rfl ?_
  refine wl_nil ?_
  refine thenN ?_
  refine W_block ?_
  refine W_loop (σ := Nat × AI × Ent) [0, 1, 2] (fun (i, d1, e1) => [(6, .int .i64 (i : Int))]) (fun (i, d1, e1) w' => (a < i ∧ i ≤ n + 1 ∧ Go.Sort.insOuter ltInt a b i d1 = Go.Sort.insertionSort ltInt d a b ∧ RowIs 42 1 A n c ((d1).toList.map keyCell) e1) ∧ Mem w (blks [e]) [e1] w') (fun (i, d1, e1) => b - i) (a + 1, d, e) (agC rfl agN) (⟨⟨by omega, by omega, rfl, hR⟩, M0⟩) ?_
  rintro ⟨i, d1, e1⟩ ρ1 w1 ⟨⟨hi1, hi2, hT, hR1⟩, hM1⟩
  have hs1 : d1.size = n := by simpa using hR1.1
  refine W_seq ?_
  refine W_seq ?_
  refine W_region ?_
  refine wl_q (r_move (.int _ _) rfl) rfl rfl ?_
  refine wl_q (r_move (.int _ _) rfl) rfl rfl ?_
  refine wl_q (r_bin (.bool (decide _)) rfl rfl rfl) rfl rfl ?_
  refine wl_nil ?_
  refine thenN ?_
  refine W_condD rfl (fun h12 => ?_) (fun h12 => ?_)
  · skip
    refine W_skip ?_
    refine thenN ?_
    refine W_seq ?_
    refine W_block ?_
    refine W_seq ?_
    refine W_region ?_
    refine wl_q (r_move (.int _ _) rfl) rfl rfl ?_
    refine wl_q (r_assign (.int _ _) rfl) rfl rfl ?_
    refine wl_nil ?_
    refine thenN ?_
    refine W_block ?_
    refine W_loop (σ := Nat × AI × Ent) [0, 1, 2, 6] (fun (j, d2, e2) => [(7, .int .i64 (j : Int))]) (fun (j, d2, e2) w' => (j ≤ i ∧ Go.Sort.insInner ltInt a j d2 = Go.Sort.insInner ltInt a i d1 ∧ RowIs 42 1 A n c ((d2).toList.map keyCell) e2) ∧ Mem w (blks [e]) [e2] w') (fun (j, d2, e2) => j) (i, d1, e1) (agC rfl agN) (⟨⟨by omega, rfl, hR1⟩, hM1⟩) ?_
    rintro ⟨j, d2, e2⟩ ρ2 w2 ⟨⟨hj, hT2, hR2⟩, hM2⟩
    have hs2 : d2.size = n := by simpa using hR2.1
    refine W_seq ?_
    refine W_seq ?_
    refine W_draw [(0, 0), (1, 0), (2, 0), (3, 0), (4, 0), (5, 0), (6, 1), (7, 1), (8, 0), (9, 0), (10, 0), (11, 1), (12, 1), (13, 2), (14, 0)] mixed rfl (by kernel_rfl) (fun w3 hb3 hh3 => ?_)
    have M3 := hM2.drew hb3 hh3
    refine D_p rfl rfl rfl (fun _ => r_move (.int _ _) rfl) ?_
    refine D_p rfl rfl rfl (fun _ => r_move (.int _ _) rfl) ?_
    refine D_p rfl rfl rfl (fun _ => r_bin (.bool (decide _)) rfl rfl rfl) ?_
    refine D_p rfl rfl rfl (fun _ => r_move (.bool (decide _)) rfl) ?_
    refine D_splitD 19 rfl (fun g19 => ?_) (fun g19 => ?_)
    · skip
      refine D_p rfl rfl rfl (fun _ => r_move (.slice _ _ _) rfl) ?_
      refine D_p rfl rfl rfl (fun _ => r_move (.int _ _) rfl) ?_
      refine D_r rfl rfl rfl (r_idxR ((j)) sl27 rfl rfl rfl ((hR2.rd M3 (nthMem (i := 0) rfl)).below_len (mapGet keyCell (dget (d := d2) (i := j) (by omega)))) ((hR2.rd M3 (nthMem (i := 0) rfl)).someK (mapGet keyCell (dget (d := d2) (i := j) (by omega))))) ?_
      refine D_r rfl rfl rfl (r_ldE0 (.int _ _) one42 (hR2.rd M3 (nthMem (i := 0) rfl)) (mapGet keyCell (dget (d := d2) (i := j) (by omega))) rfl) ?_
      refine D_p rfl rfl rfl (fun _ => r_move (.slice _ _ _) rfl) ?_
      refine D_p rfl rfl rfl (fun _ => r_move (.int _ _) rfl) ?_
      refine D_p rfl rfl rfl (fun _ => r_sub rfl rfl (by omega) (by omega)) ?_
      refine D_re 26 (.int .i64 ((j - 1 : Nat) : Int)) (iE (by omega)) ?_
      refine D_r rfl rfl rfl (r_idxR ((j - 1)) sl27 rfl rfl rfl ((hR2.rd M3 (nthMem (i := 0) rfl)).below_len (mapGet keyCell (dget (d := d2) (i := j - 1) (by omega)))) ((hR2.rd M3 (nthMem (i := 0) rfl)).someK (mapGet keyCell (dget (d := d2) (i := j - 1) (by omega))))) ?_
      refine D_r rfl rfl rfl (r_ldE0 (.int _ _) one42 (hR2.rd M3 (nthMem (i := 0) rfl)) (mapGet keyCell (dget (d := d2) (i := j - 1) (by omega))) rfl) ?_
      refine D_e [true, true, true, true] rfl (by kernel_rfl) ?_
      refine wl_cal cal61 rfl rfl rfl ?_
      refine (cmp_Less32 _ _ _).mono ?_
      rintro _ w4 ⟨v4, rfl, ⟨rfl, hb4⟩⟩
      refine ⟨_, rfl, ?_⟩
      have M4 := M3.callB hb4
      refine wl_nil (thenN ⟨alN, ?_⟩)
      refine D_p rfl rfl rfl (fun _ => r_pick true (.bool (decide _)) rfl rfl) ?_
      refine D_nil ?_
      refine thenN ?_
      refine W_condD rfl (fun h30 => ?_) (fun h30 => ?_)
      · skip
        refine W_skip ?_
        refine thenN ?_
        refine W_seq ?_
        refine W_block ?_
        refine W_draw [(0, 0), (1, 0), (2, 0), (3, 0), (4, 0), (5, 0), (6, 0), (7, 0), (8, 1), (9, 1), (10, 0), (11, 0), (12, 1), (13, 1), (14, 1), (15, 2), (16, 1), (17, 2)] mixed rfl (by kernel_rfl) (fun w5 hb5 hh5 => ?_)
        have M5 := M4.drew hb5 hh5
        refine D_p rfl rfl rfl (fun _ => r_move (.slice _ _ _) rfl) ?_
        refine D_p rfl rfl rfl (fun _ => r_move (.int _ _) rfl) ?_
        refine D_p rfl rfl rfl (fun _ => r_move (.slice _ _ _) rfl) ?_
        refine D_p rfl rfl rfl (fun _ => r_move (.int _ _) rfl) ?_
        refine D_p rfl rfl rfl (fun _ => r_sub rfl rfl (by omega) (by omega)) ?_
        refine D_re 37 (.int .i64 ((j - 1 : Nat) : Int)) (iE (by omega)) ?_
        refine D_p rfl rfl rfl (fun _ => r_move (.slice _ _ _) rfl) ?_
        refine D_p rfl rfl rfl (fun _ => r_move (.int _ _) rfl) ?_
        refine D_p rfl rfl rfl (fun _ => r_sub rfl rfl (by omega) (by omega)) ?_
        refine D_re 40 (.int .i64 ((j - 1 : Nat) : Int)) (iE (by omega)) ?_
        refine D_r rfl rfl rfl (r_idxR ((j - 1)) sl27 rfl rfl rfl ((hR2.rd M5 (nthMem (i := 0) rfl)).below_len (mapGet keyCell (dget (d := d2) (i := j - 1) (by omega)))) ((hR2.rd M5 (nthMem (i := 0) rfl)).someK (mapGet keyCell (dget (d := d2) (i := j - 1) (by omega))))) ?_
        refine D_r rfl rfl rfl (r_ldE0 (.int _ _) one42 (hR2.rd M5 (nthMem (i := 0) rfl)) (mapGet keyCell (dget (d := d2) (i := j - 1) (by omega))) rfl) ?_
        refine D_p rfl rfl rfl (fun _ => r_move (.slice _ _ _) rfl) ?_
        refine D_p rfl rfl rfl (fun _ => r_move (.int _ _) rfl) ?_
        refine D_r rfl rfl rfl (r_idxR ((j)) sl27 rfl rfl rfl ((hR2.rd M5 (nthMem (i := 0) rfl)).below_len (mapGet keyCell (dget (d := d2) (i := j) (by omega)))) ((hR2.rd M5 (nthMem (i := 0) rfl)).someK (mapGet keyCell (dget (d := d2) (i := j) (by omega))))) ?_
        refine D_r rfl rfl rfl (r_ldE0 (.int _ _) one42 (hR2.rd M5 (nthMem (i := 0) rfl)) (mapGet keyCell (dget (d := d2) (i := j) (by omega))) rfl) ?_
        refine D_r rfl rfl rfl (r_idxR ((j)) sl27 rfl rfl rfl ((hR2.rd M5 (nthMem (i := 0) rfl)).below_len (mapGet keyCell (dget (d := d2) (i := j) (by omega)))) ((hR2.rd M5 (nthMem (i := 0) rfl)).someK (mapGet keyCell (dget (d := d2) (i := j) (by omega))))) ?_
        refine D_e [true, true, true, true, true] rfl (by kernel_rfl) ?_
        refine wl_stR0 0 (.int _ _) one42 M5 rfl hR2 (mapGet keyCell (dget (d := d2) (i := j) (by omega))) rfl rfl rfl rfl (fun e6 w6 hR6 M6 => ?_)
        refine wl_nil (thenN ⟨alN, ?_⟩)
        refine D_r rfl rfl rfl (r_idxR ((j - 1)) sl27 rfl rfl rfl ((hR6.rd M6 (nthMem (i := 0) rfl)).below_len ((dset (j := j - 1) (by simp; omega)))) ((hR6.rd M6 (nthMem (i := 0) rfl)).someK ((dset (j := j - 1) (by simp; omega))))) ?_
        refine D_e [true] rfl (by kernel_rfl) ?_
        refine wl_stR0 0 (.int _ _) one42 M6 rfl hR6 ((dset (j := j - 1) (by simp; omega))) rfl rfl rfl rfl (fun e7 w7 hR7 M7 => ?_)
        have hQ7 := swp_row (d := d2) (i := j) (j := j - 1) rfl rfl hR7
        refine wl_nil (thenN ⟨alN, ?_⟩)
        refine D_nil ?_
        refine blkN ?_
        refine thenN ?_
        refine W_region ?_
        refine wl_q (r_move (.int _ _) rfl) rfl rfl ?_
        refine wl_q (r_sub rfl rfl (by omega) (by omega)) rfl rfl ?_
        refine wl_re 32 (.int .i64 ((j - 1 : Nat) : Int)) (iE (by omega)) ?_
        refine wl_q (r_assign (.int _ _) rfl) rfl rfl ?_
        refine wl_nil ?_
        refine roundN (j - 1, swp d2 j (j - 1), e7) (agC rfl agN) (akC rfl (akC rfl (akC rfl (akC rfl akN)))) ?_ ?_
        · exact ⟨⟨by omega, (insI_step (by omega) h30).symm.trans hT2, hQ7⟩, M7⟩
        · (show j - 1 < j; omega)
      · skip
        refine W_exit ?_
        refine thenX ?_
        refine roundX ?_
        refine blkH ?_
        refine blkN ?_
        refine thenN ?_
        refine W_region ?_
        refine wl_q (r_move (.int _ _) rfl) rfl rfl ?_
        refine wl_q (r_add rfl rfl (by omega) (by omega)) rfl rfl ?_
        refine wl_q (r_assign (.int _ _) rfl) rfl rfl ?_
        refine wl_nil ?_
        refine roundN (i + 1, d2, e2) (agC rfl agN) (akC rfl (akC rfl (akC rfl akN))) ?_ ?_
        · exact ⟨⟨by omega, by omega, by have h2 := insO_step (a := a) (b := b) (d := d1) (i := i) (by omega); rw [← hT2, insI_stop (fun h => h30 h.2)] at h2; exact h2.symm.trans hT, hR2⟩, M4⟩
        · (show b - (i + 1) < b - i; omega)
    · skip
      refine D_s rfl rfl rfl ?_
      refine D_s rfl rfl rfl ?_
      refine D_s1 rfl rfl rfl ?_
      refine D_s1 rfl rfl rfl ?_
      refine D_s rfl rfl rfl ?_
      refine D_s rfl rfl rfl ?_
      refine D_s rfl rfl rfl ?_
      refine D_s1 rfl rfl rfl ?_
      refine D_s1 rfl rfl rfl ?_
      refine D_e [true, true, true, true] rfl (by kernel_rfl) ?_
      refine wl_skip rfl rfl ?_
      refine wl_nil (thenN ⟨alN, ?_⟩)
      refine D_p rfl rfl rfl (fun _ => r_pick false (.bool false) rfl rfl) ?_
      refine D_nil ?_
      refine thenN ?_
      refine W_condF rfl ?_
      refine W_exit ?_
      refine thenX ?_
      refine roundX ?_
      refine blkH ?_
      refine blkN ?_
      refine thenN ?_
      refine W_region ?_
      refine wl_q (r_move (.int _ _) rfl) rfl rfl ?_
      refine wl_q (r_add rfl rfl (by omega) (by omega)) rfl rfl ?_
      refine wl_q (r_assign (.int _ _) rfl) rfl rfl ?_
      refine wl_nil ?_
      refine roundN (i + 1, d2, e2) (agC rfl agN) (akC rfl (akC rfl (akC rfl akN))) ?_ ?_
      · exact ⟨⟨by omega, by omega, by have h2 := insO_step (a := a) (b := b) (d := d1) (i := i) (by omega); rw [← hT2, insI_stop (fun h => by omega)] at h2; exact h2.symm.trans hT, hR2⟩, M3⟩
      · (show b - (i + 1) < b - i; omega)
  · skip
    refine W_exit ?_
    refine thenX ?_
    refine roundX ?_
    refine blkH ?_
    refine fin0n ?_
    exact ⟨rfl, e1, by rw [← hT, insO_stop (by omega)]; exact hR1, hM1⟩

set_option maxHeartbeats 4000000 in
theorem sort_sift (w : World) (A : Option Addr) (n c : Nat) (d : AI) (e : Ent) (hR : RowIs 42 1 A n c ((d).toList.map keyCell) e) (hO : Own [e] w) (lo hi f : Nat) (hlo : lo ≤ n) (hhi : f + hi ≤ n) :
    Calls Tryd.prog 76 #[.slice A n c, .int .i64 (lo : Int), .int .i64 (hi : Int), .int .i64 (f : Int)] w (fun ex w' => ∃ v, ex = .returned v ∧ (fun v w' => v = .tuple #[] ∧ ∃ e', RowIs 42 1 A n c ((Go.Sort.siftDown ltInt hi f lo d).toList.map keyCell) e' ∧ Mem w (blks [e]) [e'] w') v w') := by
  have hdn : d.size = n := by simpa using hR.1
  have hnb := hR.2.2.1
  refine calls_of_W #[] 76 Tryd.func76 rfl Tryd.results76 Tryd.ntmps76 rfl ?_
  have M0 := hO.mem
  refine W_seq ?_
  refine W_region ?_
  refine wl_q (r_move (.int _ _) rfl) rfl rfl ?_
  refine wl_q (r_assign (.int _ _) rfl) rfl rfl ?_
  refine wl_nil ?_
  refine thenN ?_
  refine W_block ?_
  refine W_loop (σ := Nat × AI × Ent) [0, 2, 3] (fun (r, d1, e1) => [(8, .int .i64 (r : Int))]) (fun (r, d1, e1) w' => (r ≤ n ∧ Go.Sort.siftDown ltInt hi f r d1 = Go.Sort.siftDown ltInt hi f lo d ∧ RowIs 42 1 A n c ((d1).toList.map keyCell) e1) ∧ Mem w (blks [e]) [e1] w') (fun (r, d1, e1) => hi - r) (lo, d, e) (agC rfl agN) (⟨⟨by omega, rfl, hR⟩, M0⟩) ?_
  rintro ⟨r, d1, e1⟩ ρ1 w1 ⟨⟨hr, hT, hR1⟩, hM1⟩
  have hs1 : d1.size = n := by simpa using hR1.1
  refine W_block ?_
  refine W_seq ?_
  refine W_region ?_
  refine wl_q (r_move (.int _ _) rfl) rfl rfl ?_
  refine wl_q (r_mul rfl rfl (by omega) (by omega)) rfl rfl ?_
  refine wl_q (r_add rfl rfl (by omega) (by omega)) rfl rfl ?_
  refine wl_re 13 (.int .i64 ((2 * r + 1 : Nat) : Int)) (iE (by omega)) ?_
  refine wl_q (r_assign (.int _ _) rfl) rfl rfl ?_
  refine wl_nil ?_
  refine thenN ?_
  refine W_seq ?_
  refine W_seq ?_
  refine W_region ?_
  refine wl_q (r_move (.int _ _) rfl) rfl rfl ?_
  refine wl_q (r_move (.int _ _) rfl) rfl rfl ?_
  refine wl_q (r_bin (.bool (decide _)) rfl rfl rfl) rfl rfl ?_
  refine wl_nil ?_
  refine thenN ?_
  refine W_condD rfl (fun h16 => ?_) (fun h16 => ?_)
  · skip
    refine W_exit ?_
    refine thenX ?_
    refine blkX rfl ?_
    refine roundX ?_
    refine blkH ?_
    refine fin0n ?_
    exact ⟨rfl, e1, by rw [← hT, sift_end (by omega)]; exact hR1, hM1⟩
  · skip
    refine W_skip ?_
    refine thenN ?_
    refine W_seq ?_
    refine W_seq ?_
    refine W_draw [(0, 0), (1, 0), (2, 0), (3, 0), (4, 0), (5, 0), (6, 0), (7, 0), (8, 0), (9, 1), (10, 1), (11, 0), (12, 0), (13, 0), (14, 0), (15, 0), (16, 1), (17, 1), (18, 2), (19, 0)] mixed rfl (by kernel_rfl) (fun w2 hb2 hh2 => ?_)
    have M2 := hM1.drew hb2 hh2
    refine D_p rfl rfl rfl (fun _ => r_move (.int _ _) rfl) ?_
    refine D_p rfl rfl rfl (fun _ => r_add rfl rfl (by omega) (by omega)) ?_
    refine D_re 18 (.int .i64 ((2 * r + 1 + 1 : Nat) : Int)) (iE (by omega)) ?_
    refine D_p rfl rfl rfl (fun _ => r_move (.int _ _) rfl) ?_
    refine D_p rfl rfl rfl (fun _ => r_bin (.bool (decide _)) rfl rfl rfl) ?_
    refine D_p rfl rfl rfl (fun _ => r_move (.bool (decide _)) rfl) ?_
    refine D_splitD 21 rfl (fun g21 => ?_) (fun g21 => ?_)
    · skip
      refine D_p rfl rfl rfl (fun _ => r_move (.slice _ _ _) rfl) ?_
      refine D_p rfl rfl rfl (fun _ => r_move (.int _ _) rfl) ?_
      refine D_p rfl rfl rfl (fun _ => r_move (.int _ _) rfl) ?_
      refine D_p rfl rfl rfl (fun _ => r_add rfl rfl (by omega) (by omega)) ?_
      refine D_re 25 (.int .i64 ((f + (2 * r + 1) : Nat) : Int)) (iE (by omega)) ?_
      refine D_r rfl rfl rfl (r_idxR ((f + (2 * r + 1))) sl27 rfl rfl rfl ((hR1.rd M2 (nthMem (i := 0) rfl)).below_len (mapGet keyCell (dget (d := d1) (i := f + (2 * r + 1)) (by omega)))) ((hR1.rd M2 (nthMem (i := 0) rfl)).someK (mapGet keyCell (dget (d := d1) (i := f + (2 * r + 1)) (by omega))))) ?_
      refine D_r rfl rfl rfl (r_ldE0 (.int _ _) one42 (hR1.rd M2 (nthMem (i := 0) rfl)) (mapGet keyCell (dget (d := d1) (i := f + (2 * r + 1)) (by omega))) rfl) ?_
      refine D_p rfl rfl rfl (fun _ => r_move (.slice _ _ _) rfl) ?_
      refine D_p rfl rfl rfl (fun _ => r_move (.int _ _) rfl) ?_
      refine D_p rfl rfl rfl (fun _ => r_move (.int _ _) rfl) ?_
      refine D_p rfl rfl rfl (fun _ => r_add rfl rfl (by omega) (by omega)) ?_
      refine D_re 31 (.int .i64 ((f + (2 * r + 1) : Nat) : Int)) (iE (by omega)) ?_
      refine D_p rfl rfl rfl (fun _ => r_add rfl rfl (by omega) (by omega)) ?_
      refine D_re 32 (.int .i64 ((f + (2 * r + 1) + 1 : Nat) : Int)) (iE (by omega)) ?_
      refine D_r rfl rfl rfl (r_idxR ((f + (2 * r + 1) + 1)) sl27 rfl rfl rfl ((hR1.rd M2 (nthMem (i := 0) rfl)).below_len (mapGet keyCell (dget (d := d1) (i := f + (2 * r + 1) + 1) (by omega)))) ((hR1.rd M2 (nthMem (i := 0) rfl)).someK (mapGet keyCell (dget (d := d1) (i := f + (2 * r + 1) + 1) (by omega))))) ?_
      refine D_r rfl rfl rfl (r_ldE0 (.int _ _) one42 (hR1.rd M2 (nthMem (i := 0) rfl)) (mapGet keyCell (dget (d := d1) (i := f + (2 * r + 1) + 1) (by omega))) rfl) ?_
      refine D_e [true, true, true, true] rfl (by kernel_rfl) ?_
      refine wl_cal cal61 rfl rfl rfl ?_
      refine (cmp_Less32 _ _ _).mono ?_
      rintro _ w3 ⟨v3, rfl, ⟨rfl, hb3⟩⟩
      refine ⟨_, rfl, ?_⟩
      have M3 := M2.callB hb3
      refine wl_nil (thenN ⟨alN, ?_⟩)
      refine D_p rfl rfl rfl (fun _ => r_pick true (.bool (decide _)) rfl rfl) ?_
      refine D_nil ?_
      refine thenN ?_
      refine W_condD rfl (fun h36 => ?_) (fun h36 => ?_)
      · skip
        refine W_region ?_
        refine wl_q (r_move (.int _ _) rfl) rfl rfl ?_
        refine wl_q (r_add rfl rfl (by omega) (by omega)) rfl rfl ?_
        refine wl_re 38 (.int .i64 ((2 * r + 2 : Nat) : Int)) (iE (by omega)) ?_
        refine wl_q (r_assign (.int _ _) rfl) rfl rfl ?_
        refine wl_nil ?_
        refine thenN ?_
        refine W_seq ?_
        refine W_seq ?_
        refine W_draw [(0, 0), (1, 0), (2, 0), (3, 0), (4, 1), (5, 1), (6, 0), (7, 0), (8, 0), (9, 0), (10, 1), (11, 1), (12, 2), (13, 0)] mixed rfl (by kernel_rfl) (fun w4 hb4 hh4 => ?_)
        have M4 := M3.drew hb4 hh4
        refine D_p rfl rfl rfl (fun _ => r_move (.slice _ _ _) rfl) ?_
        refine D_p rfl rfl rfl (fun _ => r_move (.int _ _) rfl) ?_
        refine D_p rfl rfl rfl (fun _ => r_move (.int _ _) rfl) ?_
        refine D_p rfl rfl rfl (fun _ => r_add rfl rfl (by omega) (by omega)) ?_
        refine D_re 42 (.int .i64 ((f + r : Nat) : Int)) (iE (by omega)) ?_
        refine D_r rfl rfl rfl (r_idxR ((f + r)) sl27 rfl rfl rfl ((hR1.rd M4 (nthMem (i := 0) rfl)).below_len (mapGet keyCell (dget (d := d1) (i := f + r) (by omega)))) ((hR1.rd M4 (nthMem (i := 0) rfl)).someK (mapGet keyCell (dget (d := d1) (i := f + r) (by omega))))) ?_
        refine D_r rfl rfl rfl (r_ldE0 (.int _ _) one42 (hR1.rd M4 (nthMem (i := 0) rfl)) (mapGet keyCell (dget (d := d1) (i := f + r) (by omega))) rfl) ?_
        refine D_p rfl rfl rfl (fun _ => r_move (.slice _ _ _) rfl) ?_
        refine D_p rfl rfl rfl (fun _ => r_move (.int _ _) rfl) ?_
        refine D_p rfl rfl rfl (fun _ => r_move (.int _ _) rfl) ?_
        refine D_p rfl rfl rfl (fun _ => r_add rfl rfl (by omega) (by omega)) ?_
        refine D_re 48 (.int .i64 ((f + (2 * r + 2) : Nat) : Int)) (iE (by omega)) ?_
        refine D_r rfl rfl rfl (r_idxR ((f + (2 * r + 2))) sl27 rfl rfl rfl ((hR1.rd M4 (nthMem (i := 0) rfl)).below_len (mapGet keyCell (dget (d := d1) (i := f + (2 * r + 2)) (by omega)))) ((hR1.rd M4 (nthMem (i := 0) rfl)).someK (mapGet keyCell (dget (d := d1) (i := f + (2 * r + 2)) (by omega))))) ?_
        refine D_r rfl rfl rfl (r_ldE0 (.int _ _) one42 (hR1.rd M4 (nthMem (i := 0) rfl)) (mapGet keyCell (dget (d := d1) (i := f + (2 * r + 2)) (by omega))) rfl) ?_
        refine D_e [true, true, true, true] rfl (by kernel_rfl) ?_
        refine wl_cal cal61 rfl rfl rfl ?_
        refine (cmp_Less32 _ _ _).mono ?_
        rintro _ w5 ⟨v5, rfl, ⟨rfl, hb5⟩⟩
        refine ⟨_, rfl, ?_⟩
        have M5 := M4.callB hb5
        refine wl_nil (thenN ⟨alN, ?_⟩)
        refine D_p rfl rfl rfl (fun _ => r_not rfl) ?_
        refine D_nil ?_
        refine thenN ?_
        refine W_condD rfl (fun h52 => ?_) (fun h52 => ?_)
        · skip
          refine W_ret ?_
          refine thenR ?_
          refine blkR ?_
          refine roundR ?_
          refine blkR ?_
          skip
          refine fin0 ?_
          exact ⟨rfl, e1, by rw [← hT, sift_r0 (by omega) h36 h52]; exact hR1, M5⟩
        · skip
          refine W_skip ?_
          refine thenN ?_
          refine W_seq ?_
          refine W_draw [(0, 0), (1, 0), (2, 0), (3, 0), (4, 0), (5, 0), (6, 0), (7, 0), (8, 0), (9, 0), (10, 0), (11, 0), (12, 1), (13, 1), (14, 0), (15, 0), (16, 0), (17, 0), (18, 1), (19, 1), (20, 1), (21, 2), (22, 1), (23, 2)] mixed rfl (by kernel_rfl) (fun w6 hb6 hh6 => ?_)
          have M6 := M5.drew hb6 hh6
          refine D_p rfl rfl rfl (fun _ => r_move (.slice _ _ _) rfl) ?_
          refine D_p rfl rfl rfl (fun _ => r_move (.int _ _) rfl) ?_
          refine D_p rfl rfl rfl (fun _ => r_move (.int _ _) rfl) ?_
          refine D_p rfl rfl rfl (fun _ => r_add rfl rfl (by omega) (by omega)) ?_
          refine D_re 56 (.int .i64 ((f + r : Nat) : Int)) (iE (by omega)) ?_
          refine D_p rfl rfl rfl (fun _ => r_move (.slice _ _ _) rfl) ?_
          refine D_p rfl rfl rfl (fun _ => r_move (.int _ _) rfl) ?_
          refine D_p rfl rfl rfl (fun _ => r_move (.int _ _) rfl) ?_
          refine D_p rfl rfl rfl (fun _ => r_add rfl rfl (by omega) (by omega)) ?_
          refine D_re 60 (.int .i64 ((f + (2 * r + 2) : Nat) : Int)) (iE (by omega)) ?_
          refine D_p rfl rfl rfl (fun _ => r_move (.slice _ _ _) rfl) ?_
          refine D_p rfl rfl rfl (fun _ => r_move (.int _ _) rfl) ?_
          refine D_p rfl rfl rfl (fun _ => r_move (.int _ _) rfl) ?_
          refine D_p rfl rfl rfl (fun _ => r_add rfl rfl (by omega) (by omega)) ?_
          refine D_re 64 (.int .i64 ((f + (2 * r + 2) : Nat) : Int)) (iE (by omega)) ?_
          refine D_r rfl rfl rfl (r_idxR ((f + (2 * r + 2))) sl27 rfl rfl rfl ((hR1.rd M6 (nthMem (i := 0) rfl)).below_len (mapGet keyCell (dget (d := d1) (i := f + (2 * r + 2)) (by omega)))) ((hR1.rd M6 (nthMem (i := 0) rfl)).someK (mapGet keyCell (dget (d := d1) (i := f + (2 * r + 2)) (by omega))))) ?_
          refine D_r rfl rfl rfl (r_ldE0 (.int _ _) one42 (hR1.rd M6 (nthMem (i := 0) rfl)) (mapGet keyCell (dget (d := d1) (i := f + (2 * r + 2)) (by omega))) rfl) ?_
          refine D_p rfl rfl rfl (fun _ => r_move (.slice _ _ _) rfl) ?_
          refine D_p rfl rfl rfl (fun _ => r_move (.int _ _) rfl) ?_
          refine D_p rfl rfl rfl (fun _ => r_move (.int _ _) rfl) ?_
          refine D_p rfl rfl rfl (fun _ => r_add rfl rfl (by omega) (by omega)) ?_
          refine D_re 70 (.int .i64 ((f + r : Nat) : Int)) (iE (by omega)) ?_
          refine D_r rfl rfl rfl (r_idxR ((f + r)) sl27 rfl rfl rfl ((hR1.rd M6 (nthMem (i := 0) rfl)).below_len (mapGet keyCell (dget (d := d1) (i := f + r) (by omega)))) ((hR1.rd M6 (nthMem (i := 0) rfl)).someK (mapGet keyCell (dget (d := d1) (i := f + r) (by omega))))) ?_
          refine D_r rfl rfl rfl (r_ldE0 (.int _ _) one42 (hR1.rd M6 (nthMem (i := 0) rfl)) (mapGet keyCell (dget (d := d1) (i := f + r) (by omega))) rfl) ?_
          refine D_r rfl rfl rfl (r_idxR ((f + r)) sl27 rfl rfl rfl ((hR1.rd M6 (nthMem (i := 0) rfl)).below_len (mapGet keyCell (dget (d := d1) (i := f + r) (by omega)))) ((hR1.rd M6 (nthMem (i := 0) rfl)).someK (mapGet keyCell (dget (d := d1) (i := f + r) (by omega))))) ?_
          refine D_e [true, true, true, true, true] rfl (by kernel_rfl) ?_
          refine wl_stR0 0 (.int _ _) one42 M6 rfl hR1 (mapGet keyCell (dget (d := d1) (i := f + r) (by omega))) rfl rfl rfl rfl (fun e7 w7 hR7 M7 => ?_)
          refine wl_nil (thenN ⟨alN, ?_⟩)
          refine D_r rfl rfl rfl (r_idxR ((f + (2 * r + 2))) sl27 rfl rfl rfl ((hR7.rd M7 (nthMem (i := 0) rfl)).below_len ((dset (j := f + (2 * r + 2)) (by simp; omega)))) ((hR7.rd M7 (nthMem (i := 0) rfl)).someK ((dset (j := f + (2 * r + 2)) (by simp; omega))))) ?_
          refine D_e [true] rfl (by kernel_rfl) ?_
          refine wl_stR0 0 (.int _ _) one42 M7 rfl hR7 ((dset (j := f + (2 * r + 2)) (by simp; omega))) rfl rfl rfl rfl (fun e8 w8 hR8 M8 => ?_)
          have hQ8 := swp_row (d := d1) (i := f + r) (j := f + (2 * r + 2)) rfl rfl hR8
          refine wl_nil (thenN ⟨alN, ?_⟩)
          refine D_nil ?_
          refine thenN ?_
          refine W_region ?_
          refine wl_q (r_move (.int _ _) rfl) rfl rfl ?_
          refine wl_q (r_assign (.int _ _) rfl) rfl rfl ?_
          refine wl_nil ?_
          refine blkN ?_
          refine roundN (2 * r + 2, swp d1 (f + r) (f + (2 * r + 2)), e8) (agC rfl agN) (akC rfl (akC rfl (akC rfl akN))) ?_ ?_
          · exact ⟨⟨by omega, (sift_r1 (by omega) h36 (Decidable.not_not.1 h52)).symm.trans hT, hQ8⟩, M8⟩
          · (show hi - (2 * r + 2) < hi - r; omega)
      · skip
        refine W_skip ?_
        refine thenN ?_
        refine W_seq ?_
        refine W_seq ?_
        refine W_draw [(0, 0), (1, 0), (2, 0), (3, 0), (4, 1), (5, 1), (6, 0), (7, 0), (8, 0), (9, 0), (10, 1), (11, 1), (12, 2), (13, 0)] mixed rfl (by kernel_rfl) (fun w9 hb9 hh9 => ?_)
        have M9 := M3.drew hb9 hh9
        refine D_p rfl rfl rfl (fun _ => r_move (.slice _ _ _) rfl) ?_
        refine D_p rfl rfl rfl (fun _ => r_move (.int _ _) rfl) ?_
        refine D_p rfl rfl rfl (fun _ => r_move (.int _ _) rfl) ?_
        refine D_p rfl rfl rfl (fun _ => r_add rfl rfl (by omega) (by omega)) ?_
        refine D_re 42 (.int .i64 ((f + r : Nat) : Int)) (iE (by omega)) ?_
        refine D_r rfl rfl rfl (r_idxR ((f + r)) sl27 rfl rfl rfl ((hR1.rd M9 (nthMem (i := 0) rfl)).below_len (mapGet keyCell (dget (d := d1) (i := f + r) (by omega)))) ((hR1.rd M9 (nthMem (i := 0) rfl)).someK (mapGet keyCell (dget (d := d1) (i := f + r) (by omega))))) ?_
        refine D_r rfl rfl rfl (r_ldE0 (.int _ _) one42 (hR1.rd M9 (nthMem (i := 0) rfl)) (mapGet keyCell (dget (d := d1) (i := f + r) (by omega))) rfl) ?_
        refine D_p rfl rfl rfl (fun _ => r_move (.slice _ _ _) rfl) ?_
        refine D_p rfl rfl rfl (fun _ => r_move (.int _ _) rfl) ?_
        refine D_p rfl rfl rfl (fun _ => r_move (.int _ _) rfl) ?_
        refine D_p rfl rfl rfl (fun _ => r_add rfl rfl (by omega) (by omega)) ?_
        refine D_re 48 (.int .i64 ((f + (2 * r + 1) : Nat) : Int)) (iE (by omega)) ?_
        refine D_r rfl rfl rfl (r_idxR ((f + (2 * r + 1))) sl27 rfl rfl rfl ((hR1.rd M9 (nthMem (i := 0) rfl)).below_len (mapGet keyCell (dget (d := d1) (i := f + (2 * r + 1)) (by omega)))) ((hR1.rd M9 (nthMem (i := 0) rfl)).someK (mapGet keyCell (dget (d := d1) (i := f + (2 * r + 1)) (by omega))))) ?_
        refine D_r rfl rfl rfl (r_ldE0 (.int _ _) one42 (hR1.rd M9 (nthMem (i := 0) rfl)) (mapGet keyCell (dget (d := d1) (i := f + (2 * r + 1)) (by omega))) rfl) ?_
        refine D_e [true, true, true, true] rfl (by kernel_rfl) ?_
        refine wl_cal cal61 rfl rfl rfl ?_
        refine (cmp_Less32 _ _ _).mono ?_
        rintro _ w10 ⟨v10, rfl, ⟨rfl, hb10⟩⟩
        refine ⟨_, rfl, ?_⟩
        have M10 := M9.callB hb10
        refine wl_nil (thenN ⟨alN, ?_⟩)
        refine D_p rfl rfl rfl (fun _ => r_not rfl) ?_
        refine D_nil ?_
        refine thenN ?_
        refine W_condD rfl (fun h52 => ?_) (fun h52 => ?_)
        · skip
          refine W_ret ?_
          refine thenR ?_
          refine blkR ?_
          refine roundR ?_
          refine blkR ?_
          skip
          refine fin0 ?_
          exact ⟨rfl, e1, by rw [← hT, sift_l0 (by omega) (fun h => h36 h.2) h52]; exact hR1, M10⟩
        · skip
          refine W_skip ?_
          refine thenN ?_
          refine W_seq ?_
          refine W_draw [(0, 0), (1, 0), (2, 0), (3, 0), (4, 0), (5, 0), (6, 0), (7, 0), (8, 0), (9, 0), (10, 0), (11, 0), (12, 1), (13, 1), (14, 0), (15, 0), (16, 0), (17, 0), (18, 1), (19, 1), (20, 1), (21, 2), (22, 1), (23, 2)] mixed rfl (by kernel_rfl) (fun w11 hb11 hh11 => ?_)
          have M11 := M10.drew hb11 hh11
          refine D_p rfl rfl rfl (fun _ => r_move (.slice _ _ _) rfl) ?_
          refine D_p rfl rfl rfl (fun _ => r_move (.int _ _) rfl) ?_
          refine D_p rfl rfl rfl (fun _ => r_move (.int _ _) rfl) ?_
          refine D_p rfl rfl rfl (fun _ => r_add rfl rfl (by omega) (by omega)) ?_
          refine D_re 56 (.int .i64 ((f + r : Nat) : Int)) (iE (by omega)) ?_
          refine D_p rfl rfl rfl (fun _ => r_move (.slice _ _ _) rfl) ?_
          refine D_p rfl rfl rfl (fun _ => r_move (.int _ _) rfl) ?_
          refine D_p rfl rfl rfl (fun _ => r_move (.int _ _) rfl) ?_
          refine D_p rfl rfl rfl (fun _ => r_add rfl rfl (by omega) (by omega)) ?_
          refine D_re 60 (.int .i64 ((f + (2 * r + 1) : Nat) : Int)) (iE (by omega)) ?_
          refine D_p rfl rfl rfl (fun _ => r_move (.slice _ _ _) rfl) ?_
          refine D_p rfl rfl rfl (fun _ => r_move (.int _ _) rfl) ?_
          refine D_p rfl rfl rfl (fun _ => r_move (.int _ _) rfl) ?_
          refine D_p rfl rfl rfl (fun _ => r_add rfl rfl (by omega) (by omega)) ?_
          refine D_re 64 (.int .i64 ((f + (2 * r + 1) : Nat) : Int)) (iE (by omega)) ?_
          refine D_r rfl rfl rfl (r_idxR ((f + (2 * r + 1))) sl27 rfl rfl rfl ((hR1.rd M11 (nthMem (i := 0) rfl)).below_len (mapGet keyCell (dget (d := d1) (i := f + (2 * r + 1)) (by omega)))) ((hR1.rd M11 (nthMem (i := 0) rfl)).someK (mapGet keyCell (dget (d := d1) (i := f + (2 * r + 1)) (by omega))))) ?_
          refine D_r rfl rfl rfl (r_ldE0 (.int _ _) one42 (hR1.rd M11 (nthMem (i := 0) rfl)) (mapGet keyCell (dget (d := d1) (i := f + (2 * r + 1)) (by omega))) rfl) ?_
          refine D_p rfl rfl rfl (fun _ => r_move (.slice _ _ _) rfl) ?_
          refine D_p rfl rfl rfl (fun _ => r_move (.int _ _) rfl) ?_
          refine D_p rfl rfl rfl (fun _ => r_move (.int _ _) rfl) ?_
          refine D_p rfl rfl rfl (fun _ => r_add rfl rfl (by omega) (by omega)) ?_
          refine D_re 70 (.int .i64 ((f + r : Nat) : Int)) (iE (by omega)) ?_
          refine D_r rfl rfl rfl (r_idxR ((f + r)) sl27 rfl rfl rfl ((hR1.rd M11 (nthMem (i := 0) rfl)).below_len (mapGet keyCell (dget (d := d1) (i := f + r) (by omega)))) ((hR1.rd M11 (nthMem (i := 0) rfl)).someK (mapGet keyCell (dget (d := d1) (i := f + r) (by omega))))) ?_
          refine D_r rfl rfl rfl (r_ldE0 (.int _ _) one42 (hR1.rd M11 (nthMem (i := 0) rfl)) (mapGet keyCell (dget (d := d1) (i := f + r) (by omega))) rfl) ?_
          refine D_r rfl rfl rfl (r_idxR ((f + r)) sl27 rfl rfl rfl ((hR1.rd M11 (nthMem (i := 0) rfl)).below_len (mapGet keyCell (dget (d := d1) (i := f + r) (by omega)))) ((hR1.rd M11 (nthMem (i := 0) rfl)).someK (mapGet keyCell (dget (d := d1) (i := f + r) (by omega))))) ?_
          refine D_e [true, true, true, true, true] rfl (by kernel_rfl) ?_
          refine wl_stR0 0 (.int _ _) one42 M11 rfl hR1 (mapGet keyCell (dget (d := d1) (i := f + r) (by omega))) rfl rfl rfl rfl (fun e12 w12 hR12 M12 => ?_)
          refine wl_nil (thenN ⟨alN, ?_⟩)
          refine D_r rfl rfl rfl (r_idxR ((f + (2 * r + 1))) sl27 rfl rfl rfl ((hR12.rd M12 (nthMem (i := 0) rfl)).below_len ((dset (j := f + (2 * r + 1)) (by simp; omega)))) ((hR12.rd M12 (nthMem (i := 0) rfl)).someK ((dset (j := f + (2 * r + 1)) (by simp; omega))))) ?_
          refine D_e [true] rfl (by kernel_rfl) ?_
          refine wl_stR0 0 (.int _ _) one42 M12 rfl hR12 ((dset (j := f + (2 * r + 1)) (by simp; omega))) rfl rfl rfl rfl (fun e13 w13 hR13 M13 => ?_)
          have hQ13 := swp_row (d := d1) (i := f + r) (j := f + (2 * r + 1)) rfl rfl hR13
          refine wl_nil (thenN ⟨alN, ?_⟩)
          refine D_nil ?_
          refine thenN ?_
          refine W_region ?_
          refine wl_q (r_move (.int _ _) rfl) rfl rfl ?_
          refine wl_q (r_assign (.int _ _) rfl) rfl rfl ?_
          refine wl_nil ?_
          refine blkN ?_
          refine roundN (2 * r + 1, swp d1 (f + r) (f + (2 * r + 1)), e13) (agC rfl agN) (akC rfl (akC rfl (akC rfl akN))) ?_ ?_
          · exact ⟨⟨by omega, (sift_l1 (by omega) (fun h => h36 h.2) (Decidable.not_not.1 h52)).symm.trans hT, hQ13⟩, M13⟩
          · (show hi - (2 * r + 1) < hi - r; omega)
    · skip
      refine D_s rfl rfl rfl ?_
      refine D_s rfl rfl rfl ?_
      refine D_s rfl rfl rfl ?_
      refine D_s rfl rfl rfl ?_
      refine D_s1 rfl rfl rfl ?_
      refine D_s1 rfl rfl rfl ?_
      refine D_s rfl rfl rfl ?_
      refine D_s rfl rfl rfl ?_
      refine D_s rfl rfl rfl ?_
      refine D_s rfl rfl rfl ?_
      refine D_s rfl rfl rfl ?_
      refine D_s1 rfl rfl rfl ?_
      refine D_s1 rfl rfl rfl ?_
      refine D_e [true, true, true, true] rfl (by kernel_rfl) ?_
      refine wl_skip rfl rfl ?_
      refine wl_nil (thenN ⟨alN, ?_⟩)
      refine D_p rfl rfl rfl (fun _ => r_pick false (.bool false) rfl rfl) ?_
      refine D_nil ?_
      refine thenN ?_
      refine W_condF rfl ?_
      refine W_skip ?_
      refine thenN ?_
      refine W_seq ?_
      refine W_seq ?_
      refine W_draw [(0, 0), (1, 0), (2, 0), (3, 0), (4, 1), (5, 1), (6, 0), (7, 0), (8, 0), (9, 0), (10, 1), (11, 1), (12, 2), (13, 0)] mixed rfl (by kernel_rfl) (fun w14 hb14 hh14 => ?_)
      have M14 := M2.drew hb14 hh14
      refine D_p rfl rfl rfl (fun _ => r_move (.slice _ _ _) rfl) ?_
      refine D_p rfl rfl rfl (fun _ => r_move (.int _ _) rfl) ?_
      refine D_p rfl rfl rfl (fun _ => r_move (.int _ _) rfl) ?_
      refine D_p rfl rfl rfl (fun _ => r_add rfl rfl (by omega) (by omega)) ?_
      refine D_re 42 (.int .i64 ((f + r : Nat) : Int)) (iE (by omega)) ?_
      refine D_r rfl rfl rfl (r_idxR ((f + r)) sl27 rfl rfl rfl ((hR1.rd M14 (nthMem (i := 0) rfl)).below_len (mapGet keyCell (dget (d := d1) (i := f + r) (by omega)))) ((hR1.rd M14 (nthMem (i := 0) rfl)).someK (mapGet keyCell (dget (d := d1) (i := f + r) (by omega))))) ?_
      refine D_r rfl rfl rfl (r_ldE0 (.int _ _) one42 (hR1.rd M14 (nthMem (i := 0) rfl)) (mapGet keyCell (dget (d := d1) (i := f + r) (by omega))) rfl) ?_
      refine D_p rfl rfl rfl (fun _ => r_move (.slice _ _ _) rfl) ?_
      refine D_p rfl rfl rfl (fun _ => r_move (.int _ _) rfl) ?_
      refine D_p rfl rfl rfl (fun _ => r_move (.int _ _) rfl) ?_
      refine D_p rfl rfl rfl (fun _ => r_add rfl rfl (by omega) (by omega)) ?_
      refine D_re 48 (.int .i64 ((f + (2 * r + 1) : Nat) : Int)) (iE (by omega)) ?_
      refine D_r rfl rfl rfl (r_idxR ((f + (2 * r + 1))) sl27 rfl rfl rfl ((hR1.rd M14 (nthMem (i := 0) rfl)).below_len (mapGet keyCell (dget (d := d1) (i := f + (2 * r + 1)) (by omega)))) ((hR1.rd M14 (nthMem (i := 0) rfl)).someK (mapGet keyCell (dget (d := d1) (i := f + (2 * r + 1)) (by omega))))) ?_
      refine D_r rfl rfl rfl (r_ldE0 (.int _ _) one42 (hR1.rd M14 (nthMem (i := 0) rfl)) (mapGet keyCell (dget (d := d1) (i := f + (2 * r + 1)) (by omega))) rfl) ?_
      refine D_e [true, true, true, true] rfl (by kernel_rfl) ?_
      refine wl_cal cal61 rfl rfl rfl ?_
      refine (cmp_Less32 _ _ _).mono ?_
      rintro _ w15 ⟨v15, rfl, ⟨rfl, hb15⟩⟩
      refine ⟨_, rfl, ?_⟩
      have M15 := M14.callB hb15
      refine wl_nil (thenN ⟨alN, ?_⟩)
      refine D_p rfl rfl rfl (fun _ => r_not rfl) ?_
      refine D_nil ?_
      refine thenN ?_
      refine W_condD rfl (fun h52 => ?_) (fun h52 => ?_)
      · skip
        refine W_ret ?_
        refine thenR ?_
        refine blkR ?_
        refine roundR ?_
        refine blkR ?_
        skip
        refine fin0 ?_
        exact ⟨rfl, e1, by rw [← hT, sift_l0 (by omega) (fun h => by omega) h52]; exact hR1, M15⟩
      · skip
        refine W_skip ?_
        refine thenN ?_
        refine W_seq ?_
        refine W_draw [(0, 0), (1, 0), (2, 0), (3, 0), (4, 0), (5, 0), (6, 0), (7, 0), (8, 0), (9, 0), (10, 0), (11, 0), (12, 1), (13, 1), (14, 0), (15, 0), (16, 0), (17, 0), (18, 1), (19, 1), (20, 1), (21, 2), (22, 1), (23, 2)] mixed rfl (by kernel_rfl) (fun w16 hb16 hh16 => ?_)
        have M16 := M15.drew hb16 hh16
        refine D_p rfl rfl rfl (fun _ => r_move (.slice _ _ _) rfl) ?_
        refine D_p rfl rfl rfl (fun _ => r_move (.int _ _) rfl) ?_
        refine D_p rfl rfl rfl (fun _ => r_move (.int _ _) rfl) ?_
        refine D_p rfl rfl rfl (fun _ => r_add rfl rfl (by omega) (by omega)) ?_
        refine D_re 56 (.int .i64 ((f + r : Nat) : Int)) (iE (by omega)) ?_
        refine D_p rfl rfl rfl (fun _ => r_move (.slice _ _ _) rfl) ?_
        refine D_p rfl rfl rfl (fun _ => r_move (.int _ _) rfl) ?_
        refine D_p rfl rfl rfl (fun _ => r_move (.int _ _) rfl) ?_
        refine D_p rfl rfl rfl (fun _ => r_add rfl rfl (by omega) (by omega)) ?_
        refine D_re 60 (.int .i64 ((f + (2 * r + 1) : Nat) : Int)) (iE (by omega)) ?_
        refine D_p rfl rfl rfl (fun _ => r_move (.slice _ _ _) rfl) ?_
        refine D_p rfl rfl rfl (fun _ => r_move (.int _ _) rfl) ?_
        refine D_p rfl rfl rfl (fun _ => r_move (.int _ _) rfl) ?_
        refine D_p rfl rfl rfl (fun _ => r_add rfl rfl (by omega) (by omega)) ?_
        refine D_re 64 (.int .i64 ((f + (2 * r + 1) : Nat) : Int)) (iE (by omega)) ?_
        refine D_r rfl rfl rfl (r_idxR ((f + (2 * r + 1))) sl27 rfl rfl rfl ((hR1.rd M16 (nthMem (i := 0) rfl)).below_len (mapGet keyCell (dget (d := d1) (i := f + (2 * r + 1)) (by omega)))) ((hR1.rd M16 (nthMem (i := 0) rfl)).someK (mapGet keyCell (dget (d := d1) (i := f + (2 * r + 1)) (by omega))))) ?_
        refine D_r rfl rfl rfl (r_ldE0 (.int _ _) one42 (hR1.rd M16 (nthMem (i := 0) rfl)) (mapGet keyCell (dget (d := d1) (i := f + (2 * r + 1)) (by omega))) rfl) ?_
        refine D_p rfl rfl rfl (fun _ => r_move (.slice _ _ _) rfl) ?_
        refine D_p rfl rfl rfl (fun _ => r_move (.int _ _) rfl) ?_
        refine D_p rfl rfl rfl (fun _ => r_move (.int _ _) rfl) ?_
        refine D_p rfl rfl rfl (fun _ => r_add rfl rfl (by omega) (by omega)) ?_
        refine D_re 70 (.int .i64 ((f + r : Nat) : Int)) (iE (by omega)) ?_
        refine D_r rfl rfl rfl (r_idxR ((f + r)) sl27 rfl rfl rfl ((hR1.rd M16 (nthMem (i := 0) rfl)).below_len (mapGet keyCell (dget (d := d1) (i := f + r) (by omega)))) ((hR1.rd M16 (nthMem (i := 0) rfl)).someK (mapGet keyCell (dget (d := d1) (i := f + r) (by omega))))) ?_
        refine D_r rfl rfl rfl (r_ldE0 (.int _ _) one42 (hR1.rd M16 (nthMem (i := 0) rfl)) (mapGet keyCell (dget (d := d1) (i := f + r) (by omega))) rfl) ?_
        refine D_r rfl rfl rfl (r_idxR ((f + r)) sl27 rfl rfl rfl ((hR1.rd M16 (nthMem (i := 0) rfl)).below_len (mapGet keyCell (dget (d := d1) (i := f + r) (by omega)))) ((hR1.rd M16 (nthMem (i := 0) rfl)).someK (mapGet keyCell (dget (d := d1) (i := f + r) (by omega))))) ?_
        refine D_e [true, true, true, true, true] rfl (by kernel_rfl) ?_
        refine wl_stR0 0 (.int _ _) one42 M16 rfl hR1 (mapGet keyCell (dget (d := d1) (i := f + r) (by omega))) rfl rfl rfl rfl (fun e17 w17 hR17 M17 => ?_)
        refine wl_nil (thenN ⟨alN, ?_⟩)
        refine D_r rfl rfl rfl (r_idxR ((f + (2 * r + 1))) sl27 rfl rfl rfl ((hR17.rd M17 (nthMem (i := 0) rfl)).below_len ((dset (j := f + (2 * r + 1)) (by simp; omega)))) ((hR17.rd M17 (nthMem (i := 0) rfl)).someK ((dset (j := f + (2 * r + 1)) (by simp; omega))))) ?_
        refine D_e [true] rfl (by kernel_rfl) ?_
        refine wl_stR0 0 (.int _ _) one42 M17 rfl hR17 ((dset (j := f + (2 * r + 1)) (by simp; omega))) rfl rfl rfl rfl (fun e18 w18 hR18 M18 => ?_)
        have hQ18 := swp_row (d := d1) (i := f + r) (j := f + (2 * r + 1)) rfl rfl hR18
        refine wl_nil (thenN ⟨alN, ?_⟩)
        refine D_nil ?_
        refine thenN ?_
        refine W_region ?_
        refine wl_q (r_move (.int _ _) rfl) rfl rfl ?_
        refine wl_q (r_assign (.int _ _) rfl) rfl rfl ?_
        refine wl_nil ?_
        refine blkN ?_
        refine roundN (2 * r + 1, swp d1 (f + r) (f + (2 * r + 1)), e18) (agC rfl agN) (akC rfl (akC rfl (akC rfl akN))) ?_ ?_
        · exact ⟨⟨by omega, (sift_l1 (by omega) (fun h => by omega) (Decidable.not_not.1 h52)).symm.trans hT, hQ18⟩, M18⟩
        · (show hi - (2 * r + 1) < hi - r; omega)

set_option maxHeartbeats 4000000 in
theorem sort_heap (w : World) (A : Option Addr) (n c : Nat) (d : AI) (e : Ent) (hR : RowIs 42 1 A n c ((d).toList.map keyCell) e) (hO : Own [e] w) (a b : Nat) (hab : a + 12 < b) (hb : b ≤ n) :
    Calls Tryd.prog 56 #[.slice A n c, .int .i64 (a : Int), .int .i64 (b : Int)] w (fun ex w' => ∃ v, ex = .returned v ∧ (fun v w' => v = .tuple #[] ∧ ∃ e', RowIs 42 1 A n c ((Go.Sort.heapSort ltInt d a b).toList.map keyCell) e' ∧ Mem w (blks [e]) [e'] w') v w') := by
  have hdn : d.size = n := by simpa using hR.1
  have hnb := hR.2.2.1
  refine calls_of_W #[] 56 Tryd.func56 rfl Tryd.results56 Tryd.ntmps56 rfl ?_
  have M0 := hO.mem
  refine W_seq ?_
  refine W_region ?_
  refine wl_q (r_move (.int _ _) rfl) rfl rfl ?_
  refine wl_q (r_assign (.int _ _) rfl) rfl rfl ?_
  refine wl_nil ?_
  refine thenN ?_
  refine W_seq ?_
  refine W_region ?_
  refine wl_q (r_assign (.int _ _) rfl) rfl rfl ?_
  refine wl_nil ?_
  refine thenN ?_
  refine W_seq ?_
  refine W_region ?_
  refine wl_q (r_move (.int _ _) rfl) rfl rfl ?_
  refine wl_q (r_move (.int _ _) rfl) rfl rfl ?_
  refine wl_q (r_sub rfl rfl (by omega) (by omega)) rfl rfl ?_
  refine wl_re 14 (.int .i64 ((b - a : Nat) : Int)) (iE (by omega)) ?_
  refine wl_q (r_assign (.int _ _) rfl) rfl rfl ?_
  refine wl_nil ?_
  refine thenN ?_
  refine W_seq ?_
  refine W_seq ?_
  refine W_region ?_
  refine wl_q (r_move (.int _ _) rfl) rfl rfl ?_
  refine wl_q (r_sub rfl rfl (by omega) (by omega)) rfl rfl ?_
  refine wl_re 16 (.int .i64 ((b - a - 1 : Nat) : Int)) (iE (by omega)) ?_
  refine wl_q (r_quo rfl rfl (by decide)) rfl rfl ?_
  refine wl_re 17 (.int .i64 ((((b - a - 1) / 2 + 1 : Nat) : Int) - 1)) (iE (by rw [tquo2, w64 _ (by omega) (by omega)]; omega)) ?_
  refine wl_q (r_assign (.int _ _) rfl) rfl rfl ?_
  refine wl_nil ?_
  refine thenN ?_
  refine W_block ?_
  refine W_loop (σ := Nat × AI × Ent) [0, 6, 7, 8] (fun (k, d1, e1) => [(9, .int .i64 ((k : Int) - 1))]) (fun (k, d1, e1) w' => (k ≤ b - a ∧ Go.Sort.heapBuild ltInt (b - a) a k d1 = Go.Sort.heapBuild ltInt (b - a) a ((b - a - 1) / 2 + 1) d ∧ RowIs 42 1 A n c ((d1).toList.map keyCell) e1) ∧ Mem w (blks [e]) [e1] w') (fun (k, d1, e1) => k) ((b - a - 1) / 2 + 1, d, e) (agC rfl agN) (⟨⟨by omega, rfl, hR⟩, M0⟩) ?_
  rintro ⟨k, d1, e1⟩ ρ1 w1 ⟨⟨hk, hT, hR1⟩, hM1⟩
  have hs1 : d1.size = n := by simpa using hR1.1
  refine W_seq ?_
  refine W_seq ?_
  refine W_region ?_
  refine wl_q (r_move (.int _ _) rfl) rfl rfl ?_
  refine wl_q (r_bin (.bool (decide _)) rfl rfl rfl) rfl rfl ?_
  refine wl_nil ?_
  refine thenN ?_
  refine W_condD rfl (fun h19 => ?_) (fun h19 => ?_)
  · skip
    refine W_skip ?_
    refine thenN ?_
    refine W_seq ?_
    refine W_block ?_
    refine W_region ?_
    refine wl_q (r_move (.slice _ _ _) rfl) rfl rfl ?_
    refine wl_q (r_move (.int _ _) rfl) rfl rfl ?_
    refine wl_re 23 (.int .i64 ((k - 1 : Nat) : Int)) (iE (by omega)) ?_
    refine wl_q (r_move (.int _ _) rfl) rfl rfl ?_
    refine wl_q (r_move (.int _ _) rfl) rfl rfl ?_
    refine wl_cal cal76 rfl rfl rfl ?_
    refine (sort_sift _ A n c d1 e1 hR1 (hM1.ownAt (i := 0) rfl) (k - 1) (b - a) a (by omega) (by omega)).mono ?_
    rintro _ w2 ⟨v2, rfl, ⟨rfl, e2, hR2, hM2⟩⟩
    refine ⟨_, rfl, ?_⟩
    have M2 : Mem _ _ [_] _ := hM1.seg 0 1 hM2
    refine wl_nil ?_
    refine blkN ?_
    refine thenN ?_
    refine W_region ?_
    refine wl_q (r_move (.int _ _) rfl) rfl rfl ?_
    refine wl_q (r_sub rfl rfl (by omega) (by omega)) rfl rfl ?_
    refine wl_q (r_assign (.int _ _) rfl) rfl rfl ?_
    refine wl_nil ?_
    refine roundN (k - 1, Go.Sort.siftDown ltInt (b - a) a (k - 1) d1, e2) (agC (iE (by omega)) agN) (akC rfl (akC rfl (akC rfl (akC rfl akN)))) ?_ ?_
    · exact ⟨⟨by omega, (heapB_step (by omega)).symm.trans hT, hR2⟩, M2⟩
    · (show k - 1 < k; omega)
  · skip
    have hk0 : k = 0 := by omega
    subst hk0
    obtain ⟨dB, hdB⟩ : ∃ z, z = Go.Sort.heapBuild ltInt (b - a) a ((b - a - 1) / 2 + 1) d := ⟨_, rfl⟩
    have hT0 : d1 = dB := by rw [hdB, ← hT]; rfl
    refine W_exit ?_
    refine thenX ?_
    refine roundX ?_
    refine blkH ?_
    refine thenN ?_
    refine W_seq ?_
    refine W_region ?_
    refine wl_q (r_move (.int _ _) rfl) rfl rfl ?_
    refine wl_q (r_sub rfl rfl (by omega) (by omega)) rfl rfl ?_
    refine wl_re 28 (.int .i64 (((b - a : Nat) : Int) - 1)) (iE rfl) ?_
    refine wl_q (r_assign (.int _ _) rfl) rfl rfl ?_
    refine wl_nil ?_
    refine thenN ?_
    refine W_block ?_
    refine W_loop (σ := Nat × AI × Ent) [0, 6, 7] (fun (m, d2, e2) => [(10, .int .i64 ((m : Int) - 1))]) (fun (m, d2, e2) w' => (m ≤ b - a ∧ Go.Sort.heapPop ltInt a m d2 = Go.Sort.heapPop ltInt a (b - a) dB ∧ RowIs 42 1 A n c ((d2).toList.map keyCell) e2) ∧ Mem w (blks [e]) [e2] w') (fun (m, d2, e2) => m) (b - a, d1, e1) (agC rfl agN) (⟨⟨by omega, by rw [hT0], hR1⟩, hM1⟩) ?_
    rintro ⟨m, d2, e2⟩ ρ3 w3 ⟨⟨hm, hT2, hR2⟩, hM3⟩
    have hs2 : d2.size = n := by simpa using hR2.1
    refine W_seq ?_
    refine W_seq ?_
    refine W_region ?_
    refine wl_q (r_move (.int _ _) rfl) rfl rfl ?_
    refine wl_q (r_bin (.bool (decide _)) rfl rfl rfl) rfl rfl ?_
    refine wl_nil ?_
    refine thenN ?_
    refine W_condD rfl (fun h30 => ?_) (fun h30 => ?_)
    · skip
      refine W_skip ?_
      refine thenN ?_
      refine W_seq ?_
      refine W_block ?_
      refine W_seq ?_
      refine W_draw [(0, 0), (1, 0), (2, 0), (3, 0), (4, 0), (5, 0), (6, 0), (7, 0), (8, 0), (9, 0), (10, 1), (11, 1), (12, 0), (13, 0), (14, 1), (15, 1), (16, 1), (17, 2), (18, 1), (19, 2)] mixed rfl (by kernel_rfl) (fun w4 hb4 hh4 => ?_)
      have M4 := hM3.drew hb4 hh4
      refine D_p rfl rfl rfl (fun _ => r_move (.slice _ _ _) rfl) ?_
      refine D_p rfl rfl rfl (fun _ => r_move (.int _ _) rfl) ?_
      refine D_p rfl rfl rfl (fun _ => r_move (.slice _ _ _) rfl) ?_
      refine D_p rfl rfl rfl (fun _ => r_move (.int _ _) rfl) ?_
      refine D_p rfl rfl rfl (fun _ => r_move (.int _ _) rfl) ?_
      refine D_p rfl rfl rfl (fun _ => r_add rfl rfl (by omega) (by omega)) ?_
      refine D_re 38 (.int .i64 ((a + (m - 1) : Nat) : Int)) (iE (by omega)) ?_
      refine D_p rfl rfl rfl (fun _ => r_move (.slice _ _ _) rfl) ?_
      refine D_p rfl rfl rfl (fun _ => r_move (.int _ _) rfl) ?_
      refine D_p rfl rfl rfl (fun _ => r_move (.int _ _) rfl) ?_
      refine D_p rfl rfl rfl (fun _ => r_add rfl rfl (by omega) (by omega)) ?_
      refine D_re 42 (.int .i64 ((a + (m - 1) : Nat) : Int)) (iE (by omega)) ?_
      refine D_r rfl rfl rfl (r_idxR ((a + (m - 1))) sl27 rfl rfl rfl ((hR2.rd M4 (nthMem (i := 0) rfl)).below_len (mapGet keyCell (dget (d := d2) (i := a + (m - 1)) (by omega)))) ((hR2.rd M4 (nthMem (i := 0) rfl)).someK (mapGet keyCell (dget (d := d2) (i := a + (m - 1)) (by omega))))) ?_
      refine D_r rfl rfl rfl (r_ldE0 (.int _ _) one42 (hR2.rd M4 (nthMem (i := 0) rfl)) (mapGet keyCell (dget (d := d2) (i := a + (m - 1)) (by omega))) rfl) ?_
      refine D_p rfl rfl rfl (fun _ => r_move (.slice _ _ _) rfl) ?_
      refine D_p rfl rfl rfl (fun _ => r_move (.int _ _) rfl) ?_
      refine D_r rfl rfl rfl (r_idxR ((a)) sl27 rfl rfl rfl ((hR2.rd M4 (nthMem (i := 0) rfl)).below_len (mapGet keyCell (dget (d := d2) (i := a) (by omega)))) ((hR2.rd M4 (nthMem (i := 0) rfl)).someK (mapGet keyCell (dget (d := d2) (i := a) (by omega))))) ?_
      refine D_r rfl rfl rfl (r_ldE0 (.int _ _) one42 (hR2.rd M4 (nthMem (i := 0) rfl)) (mapGet keyCell (dget (d := d2) (i := a) (by omega))) rfl) ?_
      refine D_r rfl rfl rfl (r_idxR ((a)) sl27 rfl rfl rfl ((hR2.rd M4 (nthMem (i := 0) rfl)).below_len (mapGet keyCell (dget (d := d2) (i := a) (by omega)))) ((hR2.rd M4 (nthMem (i := 0) rfl)).someK (mapGet keyCell (dget (d := d2) (i := a) (by omega))))) ?_
      refine D_e [true, true, true, true, true] rfl (by kernel_rfl) ?_
      refine wl_stR0 0 (.int _ _) one42 M4 rfl hR2 (mapGet keyCell (dget (d := d2) (i := a) (by omega))) rfl rfl rfl rfl (fun e5 w5 hR5 M5 => ?_)
      refine wl_nil (thenN ⟨alN, ?_⟩)
      refine D_r rfl rfl rfl (r_idxR ((a + (m - 1))) sl27 rfl rfl rfl ((hR5.rd M5 (nthMem (i := 0) rfl)).below_len ((dset (j := a + (m - 1)) (by simp; omega)))) ((hR5.rd M5 (nthMem (i := 0) rfl)).someK ((dset (j := a + (m - 1)) (by simp; omega))))) ?_
      refine D_e [true] rfl (by kernel_rfl) ?_
      refine wl_stR0 0 (.int _ _) one42 M5 rfl hR5 ((dset (j := a + (m - 1)) (by simp; omega))) rfl rfl rfl rfl (fun e6 w6 hR6 M6 => ?_)
      have hQ6 := swp_row (d := d2) (i := a) (j := a + (m - 1)) rfl rfl hR6
      refine wl_nil (thenN ⟨alN, ?_⟩)
      refine D_nil ?_
      refine thenN ?_
      refine W_region ?_
      refine wl_q (r_move (.slice _ _ _) rfl) rfl rfl ?_
      refine wl_q (r_move (.int _ _) rfl) rfl rfl ?_
      refine wl_re 52 (.int .i64 ((0 : Nat) : Int)) (iE rfl) ?_
      refine wl_q (r_move (.int _ _) rfl) rfl rfl ?_
      refine wl_re 53 (.int .i64 ((m - 1 : Nat) : Int)) (iE (by omega)) ?_
      refine wl_q (r_move (.int _ _) rfl) rfl rfl ?_
      refine wl_cal cal76 rfl rfl rfl ?_
      refine (sort_sift _ A n c (swp d2 a (a + (m - 1))) _ hQ6 (M6.ownAt (i := 0) rfl) 0 (m - 1) a (by omega) (by omega)).mono ?_
      rintro _ w7 ⟨v7, rfl, ⟨rfl, e7, hR7, hM7⟩⟩
      refine ⟨_, rfl, ?_⟩
      have M7 : Mem _ _ [_] _ := M6.seg 0 1 hM7
      refine wl_nil ?_
      refine blkN ?_
      refine thenN ?_
      refine W_region ?_
      refine wl_q (r_move (.int _ _) rfl) rfl rfl ?_
      refine wl_q (r_sub rfl rfl (by omega) (by omega)) rfl rfl ?_
      refine wl_q (r_assign (.int _ _) rfl) rfl rfl ?_
      refine wl_nil ?_
      refine roundN (m - 1, Go.Sort.siftDown ltInt (m - 1) a 0 (swp d2 a (a + (m - 1))), e7) (agC (iE (by omega)) agN) (akC rfl (akC rfl (akC rfl akN))) ?_ ?_
      · exact ⟨⟨by omega, (heapP_step (by omega)).symm.trans hT2, hR7⟩, M7⟩
      · (show m - 1 < m; omega)
    · skip
      have hm0 : m = 0 := by omega
      subst hm0
      refine W_exit ?_
      refine thenX ?_
      refine roundX ?_
      refine blkH ?_
      refine fin0n ?_
      exact ⟨rfl, e2, by rw [heap_unfold, ← hdB, ← hT2]; exact hR2, hM3⟩

set_option maxHeartbeats 4000000 in
theorem sort_rev (w : World) (A : Option Addr) (n c : Nat) (d : AI) (e : Ent) (hR : RowIs 42 1 A n c ((d).toList.map keyCell) e) (hO : Own [e] w) (a b : Nat) (hab : a < b) (hb : b ≤ n) :
    Calls Tryd.prog 59 #[.slice A n c, .int .i64 (a : Int), .int .i64 (b : Int)] w (fun ex w' => ∃ v, ex = .returned v ∧ (fun v w' => v = .tuple #[] ∧ ∃ e', RowIs 42 1 A n c ((Go.Sort.reverseRange d a b).toList.map keyCell) e' ∧ Mem w (blks [e]) [e'] w') v w') := by
  have hdn : d.size = n := by simpa using hR.1
  have hnb := hR.2.2.1
  refine calls_of_W #[] 32 Tryd.func59 rfl Tryd.results59 Tryd.ntmps59 rfl ?_
  have M0 := hO.mem
  refine W_seq ?_
  refine W_region ?_
  refine wl_q (r_move (.int _ _) rfl) rfl rfl ?_
  refine wl_q (r_assign (.int _ _) rfl) rfl rfl ?_
  refine wl_nil ?_
  refine thenN ?_
  refine W_seq ?_
  refine W_region ?_
  refine wl_q (r_move (.int _ _) rfl) rfl rfl ?_
  refine wl_q (r_sub rfl rfl (by omega) (by omega)) rfl rfl ?_
  refine wl_re 10 (.int .i64 ((b - 1 : Nat) : Int)) (iE (by omega)) ?_
  refine wl_q (r_assign (.int _ _) rfl) rfl rfl ?_
  refine wl_nil ?_
  refine thenN ?_
  refine W_block ?_
  refine W_loop (σ := Nat × Nat × AI × Ent) [0] (fun (i, j, d1, e1) => [(6, .int .i64 (i : Int)), (7, .int .i64 (j : Int))]) (fun (i, j, d1, e1) w' => (i ≤ b ∧ j < b ∧ Go.Sort.reverseLoop i j d1 = Go.Sort.reverseRange d a b ∧ RowIs 42 1 A n c ((d1).toList.map keyCell) e1) ∧ Mem w (blks [e]) [e1] w') (fun (i, j, d1, e1) => j - i) (a, b - 1, d, e) (agC rfl (agC rfl agN)) (⟨⟨by omega, by omega, rfl, hR⟩, M0⟩) ?_
  rintro ⟨i, j, d1, e1⟩ ρ1 w1 ⟨⟨hi, hj, hT, hR1⟩, hM1⟩
  have hs1 : d1.size = n := by simpa using hR1.1
  refine W_seq ?_
  refine W_seq ?_
  refine W_region ?_
  refine wl_q (r_move (.int _ _) rfl) rfl rfl ?_
  refine wl_q (r_move (.int _ _) rfl) rfl rfl ?_
  refine wl_q (r_bin (.bool (decide _)) rfl rfl rfl) rfl rfl ?_
  refine wl_nil ?_
  refine thenN ?_
  refine W_condD rfl (fun h13 => ?_) (fun h13 => ?_)
  · skip
    refine W_skip ?_
    refine thenN ?_
    refine W_block ?_
    refine W_seq ?_
    refine W_draw [(0, 0), (1, 0), (2, 0), (3, 0), (4, 0), (5, 0), (6, 1), (7, 1), (8, 0), (9, 0), (10, 1), (11, 1), (12, 1), (13, 2), (14, 1), (15, 2)] mixed rfl (by kernel_rfl) (fun w2 hb2 hh2 => ?_)
    have M2 := hM1.drew hb2 hh2
    refine D_p rfl rfl rfl (fun _ => r_move (.slice _ _ _) rfl) ?_
    refine D_p rfl rfl rfl (fun _ => r_move (.int _ _) rfl) ?_
    refine D_p rfl rfl rfl (fun _ => r_move (.slice _ _ _) rfl) ?_
    refine D_p rfl rfl rfl (fun _ => r_move (.int _ _) rfl) ?_
    refine D_p rfl rfl rfl (fun _ => r_move (.slice _ _ _) rfl) ?_
    refine D_p rfl rfl rfl (fun _ => r_move (.int _ _) rfl) ?_
    refine D_r rfl rfl rfl (r_idxR ((j)) sl27 rfl rfl rfl ((hR1.rd M2 (nthMem (i := 0) rfl)).below_len (mapGet keyCell (dget (d := d1) (i := j) (by omega)))) ((hR1.rd M2 (nthMem (i := 0) rfl)).someK (mapGet keyCell (dget (d := d1) (i := j) (by omega))))) ?_
    refine D_r rfl rfl rfl (r_ldE0 (.int _ _) one42 (hR1.rd M2 (nthMem (i := 0) rfl)) (mapGet keyCell (dget (d := d1) (i := j) (by omega))) rfl) ?_
    refine D_p rfl rfl rfl (fun _ => r_move (.slice _ _ _) rfl) ?_
    refine D_p rfl rfl rfl (fun _ => r_move (.int _ _) rfl) ?_
    refine D_r rfl rfl rfl (r_idxR ((i)) sl27 rfl rfl rfl ((hR1.rd M2 (nthMem (i := 0) rfl)).below_len (mapGet keyCell (dget (d := d1) (i := i) (by omega)))) ((hR1.rd M2 (nthMem (i := 0) rfl)).someK (mapGet keyCell (dget (d := d1) (i := i) (by omega))))) ?_
    refine D_r rfl rfl rfl (r_ldE0 (.int _ _) one42 (hR1.rd M2 (nthMem (i := 0) rfl)) (mapGet keyCell (dget (d := d1) (i := i) (by omega))) rfl) ?_
    refine D_r rfl rfl rfl (r_idxR ((i)) sl27 rfl rfl rfl ((hR1.rd M2 (nthMem (i := 0) rfl)).below_len (mapGet keyCell (dget (d := d1) (i := i) (by omega)))) ((hR1.rd M2 (nthMem (i := 0) rfl)).someK (mapGet keyCell (dget (d := d1) (i := i) (by omega))))) ?_
    refine D_e [true, true, true, true, true] rfl (by kernel_rfl) ?_
    refine wl_stR0 0 (.int _ _) one42 M2 rfl hR1 (mapGet keyCell (dget (d := d1) (i := i) (by omega))) rfl rfl rfl rfl (fun e3 w3 hR3 M3 => ?_)
    refine wl_nil (thenN ⟨alN, ?_⟩)
    refine D_r rfl rfl rfl (r_idxR ((j)) sl27 rfl rfl rfl ((hR3.rd M3 (nthMem (i := 0) rfl)).below_len ((dset (j := j) (by simp; omega)))) ((hR3.rd M3 (nthMem (i := 0) rfl)).someK ((dset (j := j) (by simp; omega))))) ?_
    refine D_e [true] rfl (by kernel_rfl) ?_
    refine wl_stR0 0 (.int _ _) one42 M3 rfl hR3 ((dset (j := j) (by simp; omega))) rfl rfl rfl rfl (fun e4 w4 hR4 M4 => ?_)
    have hQ4 := swp_row (d := d1) (i := i) (j := j) rfl rfl hR4
    refine wl_nil (thenN ⟨alN, ?_⟩)
    refine D_nil ?_
    refine thenN ?_
    refine W_seq ?_
    refine W_region ?_
    refine wl_q (r_move (.int _ _) rfl) rfl rfl ?_
    refine wl_q (r_add rfl rfl (by omega) (by omega)) rfl rfl ?_
    refine wl_q (r_assign (.int _ _) rfl) rfl rfl ?_
    refine wl_nil ?_
    refine thenN ?_
    refine W_region ?_
    refine wl_q (r_move (.int _ _) rfl) rfl rfl ?_
    refine wl_q (r_sub rfl rfl (by omega) (by omega)) rfl rfl ?_
    refine wl_re 31 (.int .i64 ((j - 1 : Nat) : Int)) (iE (by omega)) ?_
    refine wl_q (r_assign (.int _ _) rfl) rfl rfl ?_
    refine wl_nil ?_
    refine blkN ?_
    refine roundN (i + 1, j - 1, swp d1 i j, e4) (agC rfl (agC rfl agN)) (akC rfl akN) ?_ ?_
    · exact ⟨⟨by omega, by omega, (rev_step (by omega)).symm.trans hT, hQ4⟩, M4⟩
    · (show j - 1 - (i + 1) < j - i; omega)
  · skip
    refine W_exit ?_
    refine thenX ?_
    refine roundX ?_
    refine blkH ?_
    refine fin0n ?_
    exact ⟨rfl, e1, by rw [← hT, rev_stop (by omega)]; exact hR1, hM1⟩

end Go.Proofs.YtjbhobahebebkaaDoor

/- Walks of Go functions over the frame of this claim: what each computes, for every input of the stated types (S10b). -/
set_option linter.unusedVariables false
set_option linter.unusedSimpArgs false
set_option linter.unnecessarySimpa false
namespace Go.Proofs.YtjbhobahebebkaaDoor
open Go.Bil
open Go.RowKit (Below)
open Go.Proofs

open Go.Sort (swp ltInt)

set_option maxHeartbeats 16000000 in
theorem sort_part (w : World) (A : Option Addr) (n c : Nat) (d : AI) (e : Ent) (hR : RowIs 42 1 A n c ((d).toList.map keyCell) e) (hO : Own [e] w) (a b p0 : Nat) (hab : a < b) (hb : b ≤ n) (hp : a ≤ p0) (hp' : p0 < b) :
    Calls Tryd.prog 63 #[.slice A n c, .int .i64 (a : Int), .int .i64 (b : Int), .int .i64 (p0 : Int)] w (fun ex w' => ∃ v, ex = .returned v ∧ (fun v w' => ∃ e', v = .tuple #[.int .i64 ((Go.Sort.partition ltInt d a b p0).1 : Int), .bool (Go.Sort.partition ltInt d a b p0).2.1] ∧ (a ≤ (Go.Sort.partition ltInt d a b p0).1 ∧ (Go.Sort.partition ltInt d a b p0).1 < b) ∧ RowIs 42 1 A n c (((Go.Sort.partition ltInt d a b p0).2.2).toList.map keyCell) e' ∧ Mem w (blks [e]) [e'] w') v w') := by
  have hdn : d.size = n := by simpa using hR.1
  have hnb := hR.2.2.1
  refine calls_of_W #[.tmp 8, .tmp 9] 168 Tryd.func63 rfl Tryd.results63 Tryd.ntmps63 rfl ?_
  have M0 := hO.mem
  refine W_seq ?_
  refine W_region ?_
  refine wl_q (r_assign (.int _ _) rfl) rfl rfl ?_
  refine wl_q (r_assign (.bool false) rfl) rfl rfl ?_
  refine wl_nil ?_
  refine thenN ?_
  refine W_seq ?_
  refine W_draw [(0, 0), (1, 0), (2, 0), (3, 0), (4, 0), (5, 0), (6, 1), (7, 1), (8, 0), (9, 0), (10, 1), (11, 1), (12, 1), (13, 2), (14, 1), (15, 2)] mixed rfl (by kernel_rfl) (fun w1 hb1 hh1 => ?_)
  have M1 := M0.drew hb1 hh1
  refine D_p rfl rfl rfl (fun _ => r_move (.slice _ _ _) rfl) ?_
  refine D_p rfl rfl rfl (fun _ => r_move (.int _ _) rfl) ?_
  refine D_p rfl rfl rfl (fun _ => r_move (.slice _ _ _) rfl) ?_
  refine D_p rfl rfl rfl (fun _ => r_move (.int _ _) rfl) ?_
  refine D_p rfl rfl rfl (fun _ => r_move (.slice _ _ _) rfl) ?_
  refine D_p rfl rfl rfl (fun _ => r_move (.int _ _) rfl) ?_
  refine D_r rfl rfl rfl (r_idxR ((p0)) sl27 rfl rfl rfl ((hR.rd M1 (nthMem (i := 0) rfl)).below_len (mapGet keyCell (dget (d := d) (i := p0) (by omega)))) ((hR.rd M1 (nthMem (i := 0) rfl)).someK (mapGet keyCell (dget (d := d) (i := p0) (by omega))))) ?_
  refine D_r rfl rfl rfl (r_ldE0 (.int _ _) one42 (hR.rd M1 (nthMem (i := 0) rfl)) (mapGet keyCell (dget (d := d) (i := p0) (by omega))) rfl) ?_
  refine D_p rfl rfl rfl (fun _ => r_move (.slice _ _ _) rfl) ?_
  refine D_p rfl rfl rfl (fun _ => r_move (.int _ _) rfl) ?_
  refine D_r rfl rfl rfl (r_idxR ((a)) sl27 rfl rfl rfl ((hR.rd M1 (nthMem (i := 0) rfl)).below_len (mapGet keyCell (dget (d := d) (i := a) (by omega)))) ((hR.rd M1 (nthMem (i := 0) rfl)).someK (mapGet keyCell (dget (d := d) (i := a) (by omega))))) ?_
  refine D_r rfl rfl rfl (r_ldE0 (.int _ _) one42 (hR.rd M1 (nthMem (i := 0) rfl)) (mapGet keyCell (dget (d := d) (i := a) (by omega))) rfl) ?_
  refine D_r rfl rfl rfl (r_idxR ((a)) sl27 rfl rfl rfl ((hR.rd M1 (nthMem (i := 0) rfl)).below_len (mapGet keyCell (dget (d := d) (i := a) (by omega)))) ((hR.rd M1 (nthMem (i := 0) rfl)).someK (mapGet keyCell (dget (d := d) (i := a) (by omega))))) ?_
  refine D_e [true, true, true, true, true] rfl (by kernel_rfl) ?_
  refine wl_stR0 0 (.int _ _) one42 M1 rfl hR (mapGet keyCell (dget (d := d) (i := a) (by omega))) rfl rfl rfl rfl (fun e2 w2 hR2 M2 => ?_)
  refine wl_nil (thenN ⟨alN, ?_⟩)
  refine D_r rfl rfl rfl (r_idxR ((p0)) sl27 rfl rfl rfl ((hR2.rd M2 (nthMem (i := 0) rfl)).below_len ((dset (j := p0) (by simp; omega)))) ((hR2.rd M2 (nthMem (i := 0) rfl)).someK ((dset (j := p0) (by simp; omega))))) ?_
  refine D_e [true] rfl (by kernel_rfl) ?_
  refine wl_stR0 0 (.int _ _) one42 M2 rfl hR2 ((dset (j := p0) (by simp; omega))) rfl rfl rfl rfl (fun e3 w3 hR3 M3 => ?_)
  have hQ3 := swp_row (d := d) (i := a) (j := p0) rfl rfl hR3
  obtain ⟨d0, hd0⟩ : ∃ z, z = swp d a p0 := ⟨_, rfl⟩
  rw [← hd0] at hQ3
  have hsd0 : d0.size = n := by rw [hd0, swp_n]; omega
  refine wl_nil (thenN ⟨alN, ?_⟩)
  refine D_nil ?_
  refine thenN ?_
  refine W_seq ?_
  refine W_region ?_
  refine wl_q (r_move (.int _ _) rfl) rfl rfl ?_
  refine wl_q (r_add rfl rfl (by omega) (by omega)) rfl rfl ?_
  refine wl_re 27 (.int .i64 ((a + 1 : Nat) : Int)) (iE (by omega)) ?_
  refine wl_q (r_move (.int _ _) rfl) rfl rfl ?_
  refine wl_q (r_sub rfl rfl (by omega) (by omega)) rfl rfl ?_
  refine wl_re 29 (.int .i64 ((b - 1 : Nat) : Int)) (iE (by omega)) ?_
  refine wl_q (r_assign (.int _ _) rfl) rfl rfl ?_
  refine wl_q (r_assign (.int _ _) rfl) rfl rfl ?_
  refine wl_nil ?_
  refine thenN ?_
  refine W_meet (σ := Nat) [0, 1, 8, 9, 11] (fun i => [(10, .int .i64 (i : Int))]) (fun i w' => (a + 1 ≤ i ∧ (i ≤ b ∧ i ≤ b - 1 + 2) ∧ Go.Sort.scanUp (pLt d0[a]!) d0 (b - 1) (a + 1) = i) ∧ Mem w (blks [e]) [e3] w') ?_ ?_
  · skip
    refine W_block ?_
    refine W_loop (σ := Nat) [0, 1, 8, 9, 11] (fun i => [(10, .int .i64 (i : Int))]) (fun i w' => (a + 1 ≤ i ∧ (i ≤ b ∧ i ≤ b - 1 + 2) ∧ Go.Sort.scanUp (pLt d0[a]!) d0 (b - 1) (i) = Go.Sort.scanUp (pLt d0[a]!) d0 (b - 1) (a + 1)) ∧ Mem w (blks [e]) [e3] w') (fun i => b + 1 - i) (a + 1) (agC rfl agN) (⟨⟨by omega, ⟨by omega, by omega⟩, rfl⟩, M3⟩) ?_
    rintro i ρ5 w5 ⟨⟨hli, ⟨hui, hzi⟩, hT⟩, hM5⟩
    refine W_seq ?_
    refine W_seq ?_
    refine W_draw [(0, 0), (1, 0), (2, 0), (3, 0), (4, 0), (5, 0), (6, 1), (7, 1), (8, 0), (9, 0), (10, 1), (11, 1), (12, 2), (13, 0)] mixed rfl (by kernel_rfl) (fun w6 hb6 hh6 => ?_)
    have M6 := hM5.drew hb6 hh6
    refine D_p rfl rfl rfl (fun _ => r_move (.int _ _) rfl) ?_
    refine D_p rfl rfl rfl (fun _ => r_move (.int _ _) rfl) ?_
    refine D_p rfl rfl rfl (fun _ => r_bin (.bool (decide _)) rfl rfl rfl) ?_
    refine D_p rfl rfl rfl (fun _ => r_move (.bool (decide _)) rfl) ?_
    refine D_splitD 33 rfl (fun g33 => ?_) (fun g33 => ?_)
    · skip
      refine D_p rfl rfl rfl (fun _ => r_move (.slice _ _ _) rfl) ?_
      refine D_p rfl rfl rfl (fun _ => r_move (.int _ _) rfl) ?_
      refine D_r rfl rfl rfl (r_idxR ((i)) sl27 rfl rfl rfl ((hQ3.rd M6 (nthMem (i := 0) rfl)).below_len (mapGet keyCell (dget (d := d0) (i := i) (by omega)))) ((hQ3.rd M6 (nthMem (i := 0) rfl)).someK (mapGet keyCell (dget (d := d0) (i := i) (by omega))))) ?_
      refine D_r rfl rfl rfl (r_ldE0 (.int _ _) one42 (hQ3.rd M6 (nthMem (i := 0) rfl)) (mapGet keyCell (dget (d := d0) (i := i) (by omega))) rfl) ?_
      refine D_p rfl rfl rfl (fun _ => r_move (.slice _ _ _) rfl) ?_
      refine D_p rfl rfl rfl (fun _ => r_move (.int _ _) rfl) ?_
      refine D_r rfl rfl rfl (r_idxR ((a)) sl27 rfl rfl rfl ((hQ3.rd M6 (nthMem (i := 0) rfl)).below_len (mapGet keyCell (dget (d := d0) (i := a) (by omega)))) ((hQ3.rd M6 (nthMem (i := 0) rfl)).someK (mapGet keyCell (dget (d := d0) (i := a) (by omega))))) ?_
      refine D_r rfl rfl rfl (r_ldE0 (.int _ _) one42 (hQ3.rd M6 (nthMem (i := 0) rfl)) (mapGet keyCell (dget (d := d0) (i := a) (by omega))) rfl) ?_
      refine D_e [true, true, true, true] rfl (by kernel_rfl) ?_
      refine wl_cal cal61 rfl rfl rfl ?_
      refine (cmp_Less32 _ _ _).mono ?_
      rintro _ w7 ⟨v7, rfl, ⟨rfl, hb7⟩⟩
      refine ⟨_, rfl, ?_⟩
      have M7 := M6.callB hb7
      refine wl_nil (thenN ⟨alN, ?_⟩)
      refine D_p rfl rfl rfl (fun _ => r_pick true (.bool (decide _)) rfl rfl) ?_
      refine D_nil ?_
      refine thenN ?_
      refine W_condD rfl (fun h43 => ?_) (fun h43 => ?_)
      · skip
        refine W_skip ?_
        refine thenN ?_
        refine W_block ?_
        refine W_region ?_
        refine wl_q (r_move (.int _ _) rfl) rfl rfl ?_
        refine wl_q (r_add rfl rfl (by omega) (by omega)) rfl rfl ?_
        refine wl_q (r_assign (.int _ _) rfl) rfl rfl ?_
        refine wl_nil ?_
        refine blkN ?_
        refine roundN (i + 1) (agC rfl agN) (akC rfl (akC rfl (akC rfl (akC rfl (akC rfl akN))))) ?_ ?_
        · exact ⟨⟨by omega, ⟨by omega, by omega⟩, (up_step (by omega) (Eq.mpr pLt_t h43)).symm.trans hT⟩, M7⟩
        · omega
      · skip
        refine W_exit ?_
        refine thenX ?_
        refine roundX ?_
        refine blkH ?_
        refine meetN i (agC rfl agN) (akC rfl (akC rfl (akC rfl (akC rfl (akC rfl akN))))) ?_
        exact ⟨⟨by omega, ⟨by omega, by omega⟩, by rw [← hT]; exact up_stop (fun h => h43 (Eq.mp pLt_t h.2))⟩, M7⟩
    · skip
      refine D_s rfl rfl rfl ?_
      refine D_s rfl rfl rfl ?_
      refine D_s1 rfl rfl rfl ?_
      refine D_s1 rfl rfl rfl ?_
      refine D_s rfl rfl rfl ?_
      refine D_s rfl rfl rfl ?_
      refine D_s1 rfl rfl rfl ?_
      refine D_s1 rfl rfl rfl ?_
      refine D_e [true, true, true, true] rfl (by kernel_rfl) ?_
      refine wl_skip rfl rfl ?_
      refine wl_nil (thenN ⟨alN, ?_⟩)
      refine D_p rfl rfl rfl (fun _ => r_pick false (.bool false) rfl rfl) ?_
      refine D_nil ?_
      refine thenN ?_
      refine W_condF rfl ?_
      refine W_exit ?_
      refine thenX ?_
      refine roundX ?_
      refine blkH ?_
      refine meetN i (agC rfl agN) (akC rfl (akC rfl (akC rfl (akC rfl (akC rfl akN))))) ?_
      exact ⟨⟨by omega, ⟨by omega, by omega⟩, by rw [← hT]; exact up_stop (fun h => by omega)⟩, M6⟩
  · skip
    rintro i ρ4 w4 ⟨⟨hli, ⟨hui, hzi⟩, hT⟩, hM4⟩
    refine W_meet (σ := Nat) [0, 1, 8, 9, 10] (fun j => [(11, .int .i64 (j : Int))]) (fun j w' => (a ≤ j ∧ j ≤ b - 1 ∧ i ≤ j + 2 ∧ Go.Sort.scanDown (pGe d0[a]!) d0 (i) (b - 1) = j) ∧ Mem w (blks [e]) [e3] w') ?_ ?_
    · skip
      refine W_block ?_
      refine W_loop (σ := Nat) [0, 1, 8, 9, 10] (fun j => [(11, .int .i64 (j : Int))]) (fun j w' => (a ≤ j ∧ j ≤ b - 1 ∧ i ≤ j + 2 ∧ Go.Sort.scanDown (pGe d0[a]!) d0 (i) (j) = Go.Sort.scanDown (pGe d0[a]!) d0 (i) (b - 1)) ∧ Mem w (blks [e]) [e3] w') (fun j => j) (b - 1) (agC rfl agN) (⟨⟨by omega, by omega, by omega, rfl⟩, hM4⟩) ?_
      rintro j ρ9 w9 ⟨⟨hlj, huj, hwj, hU⟩, hM9⟩
      refine W_seq ?_
      refine W_seq ?_
      refine W_draw [(0, 0), (1, 0), (2, 0), (3, 0), (4, 0), (5, 0), (6, 1), (7, 1), (8, 0), (9, 0), (10, 1), (11, 1), (12, 2), (13, 0), (14, 0)] mixed rfl (by kernel_rfl) (fun w10 hb10 hh10 => ?_)
      have M10 := hM9.drew hb10 hh10
      refine D_p rfl rfl rfl (fun _ => r_move (.int _ _) rfl) ?_
      refine D_p rfl rfl rfl (fun _ => r_move (.int _ _) rfl) ?_
      refine D_p rfl rfl rfl (fun _ => r_bin (.bool (decide _)) rfl rfl rfl) ?_
      refine D_p rfl rfl rfl (fun _ => r_move (.bool (decide _)) rfl) ?_
      refine D_splitD 49 rfl (fun g49 => ?_) (fun g49 => ?_)
      · skip
        refine D_p rfl rfl rfl (fun _ => r_move (.slice _ _ _) rfl) ?_
        refine D_p rfl rfl rfl (fun _ => r_move (.int _ _) rfl) ?_
        refine D_r rfl rfl rfl (r_idxR ((j)) sl27 rfl rfl rfl ((hQ3.rd M10 (nthMem (i := 0) rfl)).below_len (mapGet keyCell (dget (d := d0) (i := j) (by omega)))) ((hQ3.rd M10 (nthMem (i := 0) rfl)).someK (mapGet keyCell (dget (d := d0) (i := j) (by omega))))) ?_
        refine D_r rfl rfl rfl (r_ldE0 (.int _ _) one42 (hQ3.rd M10 (nthMem (i := 0) rfl)) (mapGet keyCell (dget (d := d0) (i := j) (by omega))) rfl) ?_
        refine D_p rfl rfl rfl (fun _ => r_move (.slice _ _ _) rfl) ?_
        refine D_p rfl rfl rfl (fun _ => r_move (.int _ _) rfl) ?_
        refine D_r rfl rfl rfl (r_idxR ((a)) sl27 rfl rfl rfl ((hQ3.rd M10 (nthMem (i := 0) rfl)).below_len (mapGet keyCell (dget (d := d0) (i := a) (by omega)))) ((hQ3.rd M10 (nthMem (i := 0) rfl)).someK (mapGet keyCell (dget (d := d0) (i := a) (by omega))))) ?_
        refine D_r rfl rfl rfl (r_ldE0 (.int _ _) one42 (hQ3.rd M10 (nthMem (i := 0) rfl)) (mapGet keyCell (dget (d := d0) (i := a) (by omega))) rfl) ?_
        refine D_e [true, true, true, true] rfl (by kernel_rfl) ?_
        refine wl_cal cal61 rfl rfl rfl ?_
        refine (cmp_Less32 _ _ _).mono ?_
        rintro _ w11 ⟨v11, rfl, ⟨rfl, hb11⟩⟩
        refine ⟨_, rfl, ?_⟩
        have M11 := M10.callB hb11
        refine wl_nil (thenN ⟨alN, ?_⟩)
        refine D_p rfl rfl rfl (fun _ => r_not rfl) ?_
        refine D_p rfl rfl rfl (fun _ => r_pick true (.bool (decide _)) rfl rfl) ?_
        refine D_nil ?_
        refine thenN ?_
        refine W_condD rfl (fun h60 => ?_) (fun h60 => ?_)
        · skip
          refine W_skip ?_
          refine thenN ?_
          refine W_block ?_
          refine W_region ?_
          refine wl_q (r_move (.int _ _) rfl) rfl rfl ?_
          refine wl_q (r_sub rfl rfl (by omega) (by omega)) rfl rfl ?_
          refine wl_re 62 (.int .i64 ((j - 1 : Nat) : Int)) (iE (by omega)) ?_
          refine wl_q (r_assign (.int _ _) rfl) rfl rfl ?_
          refine wl_nil ?_
          refine blkN ?_
          refine roundN (j - 1) (agC rfl agN) (akC rfl (akC rfl (akC rfl (akC rfl (akC rfl akN))))) ?_ ?_
          · exact ⟨⟨by omega, by omega, by omega, (down_step (by omega) (by omega) (Eq.mpr pGe_t h60)).symm.trans hU⟩, M11⟩
          · (show j - 1 < j; omega)
        · skip
          refine W_exit ?_
          refine thenX ?_
          refine roundX ?_
          refine blkH ?_
          refine meetN j (agC rfl agN) (akC rfl (akC rfl (akC rfl (akC rfl (akC rfl akN))))) ?_
          exact ⟨⟨by omega, by omega, by omega, by rw [← hU]; exact down_stop (fun h => h60 (Eq.mp pGe_t h.2))⟩, M11⟩
      · skip
        refine D_s rfl rfl rfl ?_
        refine D_s rfl rfl rfl ?_
        refine D_s1 rfl rfl rfl ?_
        refine D_s1 rfl rfl rfl ?_
        refine D_s rfl rfl rfl ?_
        refine D_s rfl rfl rfl ?_
        refine D_s1 rfl rfl rfl ?_
        refine D_s1 rfl rfl rfl ?_
        refine D_e [true, true, true, true] rfl (by kernel_rfl) ?_
        refine wl_skip rfl rfl ?_
        refine wl_nil (thenN ⟨alN, ?_⟩)
        refine D_s rfl rfl rfl ?_
        refine D_p rfl rfl rfl (fun _ => r_pick false (.bool false) rfl rfl) ?_
        refine D_nil ?_
        refine thenN ?_
        refine W_condF rfl ?_
        refine W_exit ?_
        refine thenX ?_
        refine roundX ?_
        refine blkH ?_
        refine meetN j (agC rfl agN) (akC rfl (akC rfl (akC rfl (akC rfl (akC rfl akN))))) ?_
        exact ⟨⟨by omega, by omega, by omega, by rw [← hU]; exact down_stop (fun h => by omega)⟩, M10⟩
    · skip
      rintro j ρ8 w8 ⟨⟨hlj, huj, hwj, hU⟩, hM8⟩
      refine W_seq ?_
      refine W_seq ?_
      refine W_region ?_
      refine wl_q (r_move (.int _ _) rfl) rfl rfl ?_
      refine wl_q (r_move (.int _ _) rfl) rfl rfl ?_
      refine wl_q (r_bin (.bool (decide _)) rfl rfl rfl) rfl rfl ?_
      refine wl_nil ?_
      refine thenN ?_
      refine W_condD rfl (fun h65 => ?_) (fun h65 => ?_)
      · skip
        refine W_seq ?_
        refine W_draw [(0, 0), (1, 0), (2, 0), (3, 0), (4, 0), (5, 0), (6, 1), (7, 1), (8, 0), (9, 0), (10, 1), (11, 1), (12, 1), (13, 2), (14, 1), (15, 2)] mixed rfl (by kernel_rfl) (fun w12 hb12 hh12 => ?_)
        have M12 := hM8.drew hb12 hh12
        refine D_p rfl rfl rfl (fun _ => r_move (.slice _ _ _) rfl) ?_
        refine D_p rfl rfl rfl (fun _ => r_move (.int _ _) rfl) ?_
        refine D_p rfl rfl rfl (fun _ => r_move (.slice _ _ _) rfl) ?_
        refine D_p rfl rfl rfl (fun _ => r_move (.int _ _) rfl) ?_
        refine D_p rfl rfl rfl (fun _ => r_move (.slice _ _ _) rfl) ?_
        refine D_p rfl rfl rfl (fun _ => r_move (.int _ _) rfl) ?_
        refine D_r rfl rfl rfl (r_idxR ((a)) sl27 rfl rfl rfl ((hQ3.rd M12 (nthMem (i := 0) rfl)).below_len (mapGet keyCell (dget (d := d0) (i := a) (by omega)))) ((hQ3.rd M12 (nthMem (i := 0) rfl)).someK (mapGet keyCell (dget (d := d0) (i := a) (by omega))))) ?_
        refine D_r rfl rfl rfl (r_ldE0 (.int _ _) one42 (hQ3.rd M12 (nthMem (i := 0) rfl)) (mapGet keyCell (dget (d := d0) (i := a) (by omega))) rfl) ?_
        refine D_p rfl rfl rfl (fun _ => r_move (.slice _ _ _) rfl) ?_
        refine D_p rfl rfl rfl (fun _ => r_move (.int _ _) rfl) ?_
        refine D_r rfl rfl rfl (r_idxR ((j)) sl27 rfl rfl rfl ((hQ3.rd M12 (nthMem (i := 0) rfl)).below_len (mapGet keyCell (dget (d := d0) (i := j) (by omega)))) ((hQ3.rd M12 (nthMem (i := 0) rfl)).someK (mapGet keyCell (dget (d := d0) (i := j) (by omega))))) ?_
        refine D_r rfl rfl rfl (r_ldE0 (.int _ _) one42 (hQ3.rd M12 (nthMem (i := 0) rfl)) (mapGet keyCell (dget (d := d0) (i := j) (by omega))) rfl) ?_
        refine D_r rfl rfl rfl (r_idxR ((j)) sl27 rfl rfl rfl ((hQ3.rd M12 (nthMem (i := 0) rfl)).below_len (mapGet keyCell (dget (d := d0) (i := j) (by omega)))) ((hQ3.rd M12 (nthMem (i := 0) rfl)).someK (mapGet keyCell (dget (d := d0) (i := j) (by omega))))) ?_
        refine D_e [true, true, true, true, true] rfl (by kernel_rfl) ?_
        refine wl_stR0 0 (.int _ _) one42 M12 rfl hQ3 (mapGet keyCell (dget (d := d0) (i := j) (by omega))) rfl rfl rfl rfl (fun e13 w13 hR13 M13 => ?_)
        refine wl_nil (thenN ⟨alN, ?_⟩)
        refine D_r rfl rfl rfl (r_idxR ((a)) sl27 rfl rfl rfl ((hR13.rd M13 (nthMem (i := 0) rfl)).below_len ((dset (j := a) (by simp; omega)))) ((hR13.rd M13 (nthMem (i := 0) rfl)).someK ((dset (j := a) (by simp; omega))))) ?_
        refine D_e [true] rfl (by kernel_rfl) ?_
        refine wl_stR0 0 (.int _ _) one42 M13 rfl hR13 ((dset (j := a) (by simp; omega))) rfl rfl rfl rfl (fun e14 w14 hR14 M14 => ?_)
        have hQ14 := swp_row (d := d0) (i := j) (j := a) rfl rfl hR14
        refine wl_nil (thenN ⟨alN, ?_⟩)
        refine D_nil ?_
        refine thenN ?_
        refine W_seq ?_
        refine W_region ?_
        refine wl_q (r_move (.int _ _) rfl) rfl rfl ?_
        refine wl_q (r_assign (.int _ _) rfl) rfl rfl ?_
        refine wl_q (r_assign (.bool true) rfl) rfl rfl ?_
        refine wl_nil ?_
        refine thenN ?_
        refine W_ret ?_
        refine thenR ?_
        skip
        refine fin2 (.int _ _) (.bool true) rfl rfl ?_
        have hP := true
        have hfin := partition_end (a := a) (b := b) (p := p0) hd0 hT hU (by omega)
        exact ⟨e14, by rw [hfin], by rw [hfin]; exact ⟨by omega, by omega⟩, by rw [hfin]; exact hQ14, M14⟩
      · skip
        refine W_skip ?_
        refine thenN ?_
        refine W_seq ?_
        refine W_draw [(0, 0), (1, 0), (2, 0), (3, 0), (4, 0), (5, 0), (6, 1), (7, 1), (8, 0), (9, 0), (10, 1), (11, 1), (12, 1), (13, 2), (14, 1), (15, 2)] mixed rfl (by kernel_rfl) (fun w15 hb15 hh15 => ?_)
        have M15 := hM8.drew hb15 hh15
        refine D_p rfl rfl rfl (fun _ => r_move (.slice _ _ _) rfl) ?_
        refine D_p rfl rfl rfl (fun _ => r_move (.int _ _) rfl) ?_
        refine D_p rfl rfl rfl (fun _ => r_move (.slice _ _ _) rfl) ?_
        refine D_p rfl rfl rfl (fun _ => r_move (.int _ _) rfl) ?_
        refine D_p rfl rfl rfl (fun _ => r_move (.slice _ _ _) rfl) ?_
        refine D_p rfl rfl rfl (fun _ => r_move (.int _ _) rfl) ?_
        refine D_r rfl rfl rfl (r_idxR ((j)) sl27 rfl rfl rfl ((hQ3.rd M15 (nthMem (i := 0) rfl)).below_len (mapGet keyCell (dget (d := d0) (i := j) (by omega)))) ((hQ3.rd M15 (nthMem (i := 0) rfl)).someK (mapGet keyCell (dget (d := d0) (i := j) (by omega))))) ?_
        refine D_r rfl rfl rfl (r_ldE0 (.int _ _) one42 (hQ3.rd M15 (nthMem (i := 0) rfl)) (mapGet keyCell (dget (d := d0) (i := j) (by omega))) rfl) ?_
        refine D_p rfl rfl rfl (fun _ => r_move (.slice _ _ _) rfl) ?_
        refine D_p rfl rfl rfl (fun _ => r_move (.int _ _) rfl) ?_
        refine D_r rfl rfl rfl (r_idxR ((i)) sl27 rfl rfl rfl ((hQ3.rd M15 (nthMem (i := 0) rfl)).below_len (mapGet keyCell (dget (d := d0) (i := i) (by omega)))) ((hQ3.rd M15 (nthMem (i := 0) rfl)).someK (mapGet keyCell (dget (d := d0) (i := i) (by omega))))) ?_
        refine D_r rfl rfl rfl (r_ldE0 (.int _ _) one42 (hQ3.rd M15 (nthMem (i := 0) rfl)) (mapGet keyCell (dget (d := d0) (i := i) (by omega))) rfl) ?_
        refine D_r rfl rfl rfl (r_idxR ((i)) sl27 rfl rfl rfl ((hQ3.rd M15 (nthMem (i := 0) rfl)).below_len (mapGet keyCell (dget (d := d0) (i := i) (by omega)))) ((hQ3.rd M15 (nthMem (i := 0) rfl)).someK (mapGet keyCell (dget (d := d0) (i := i) (by omega))))) ?_
        refine D_e [true, true, true, true, true] rfl (by kernel_rfl) ?_
        refine wl_stR0 0 (.int _ _) one42 M15 rfl hQ3 (mapGet keyCell (dget (d := d0) (i := i) (by omega))) rfl rfl rfl rfl (fun e16 w16 hR16 M16 => ?_)
        refine wl_nil (thenN ⟨alN, ?_⟩)
        refine D_r rfl rfl rfl (r_idxR ((j)) sl27 rfl rfl rfl ((hR16.rd M16 (nthMem (i := 0) rfl)).below_len ((dset (j := j) (by simp; omega)))) ((hR16.rd M16 (nthMem (i := 0) rfl)).someK ((dset (j := j) (by simp; omega))))) ?_
        refine D_e [true] rfl (by kernel_rfl) ?_
        refine wl_stR0 0 (.int _ _) one42 M16 rfl hR16 ((dset (j := j) (by simp; omega))) rfl rfl rfl rfl (fun e17 w17 hR17 M17 => ?_)
        have hQ17 := swp_row (d := d0) (i := i) (j := j) rfl rfl hR17
        obtain ⟨d1, hd1⟩ : ∃ z, z = swp d0 i j := ⟨_, rfl⟩
        rw [← hd1] at hQ17
        have hsd1 : d1.size = n := by rw [hd1, swp_n]; omega
        refine wl_nil (thenN ⟨alN, ?_⟩)
        refine D_nil ?_
        refine thenN ?_
        refine W_seq ?_
        refine W_region ?_
        refine wl_q (r_move (.int _ _) rfl) rfl rfl ?_
        refine wl_q (r_add rfl rfl (by omega) (by omega)) rfl rfl ?_
        refine wl_q (r_assign (.int _ _) rfl) rfl rfl ?_
        refine wl_nil ?_
        refine thenN ?_
        refine W_seq ?_
        refine W_region ?_
        refine wl_q (r_move (.int _ _) rfl) rfl rfl ?_
        refine wl_q (r_sub rfl rfl (by omega) (by omega)) rfl rfl ?_
        refine wl_re 98 (.int .i64 ((j - 1 : Nat) : Int)) (iE (by omega)) ?_
        refine wl_q (r_assign (.int _ _) rfl) rfl rfl ?_
        refine wl_nil ?_
        refine thenN ?_
        refine W_seq ?_
        refine W_block ?_
        refine W_loop (σ := Nat × Nat × AI × Ent) [0, 1, 8, 9] (fun (p, q, d2, e2) => [(10, .int .i64 (p : Int)), (11, .int .i64 (q : Int))]) (fun (p, q, d2, e2) w' => (a < p ∧ p ≤ b ∧ q < b ∧ a ≤ q ∧ p ≤ q + 2 ∧ Go.Sort.partLoop ltInt a p q d2 = Go.Sort.partLoop ltInt a (i + 1) (j - 1) d1 ∧ RowIs 42 1 A n c ((d2).toList.map keyCell) e2) ∧ Mem w (blks [e]) [e2] w') (fun (p, q, d2, e2) => q + 3 - p) (i + 1, j - 1, d1, e17) (agC rfl (agC rfl agN)) (⟨⟨by omega, by omega, by omega, by omega, by omega, rfl, hQ17⟩, M17⟩) ?_
        rintro ⟨p, q, d2, e2⟩ ρ18 w18 ⟨⟨hp1, hp2, hq1, hq2, hpq, hL, hR2⟩, hM18⟩
        have hs2 : d2.size = n := by simpa using hR2.1
        refine W_block ?_
        refine W_meet (σ := Nat) [0, 1, 8, 9, 11] (fun x => [(10, .int .i64 (x : Int))]) (fun x w' => (p ≤ x ∧ (x ≤ b ∧ x ≤ q + 2) ∧ Go.Sort.scanUp (pLt d2[a]!) d2 (q) (p) = x) ∧ Mem w (blks [e]) [e2] w') ?_ ?_
        · skip
          refine W_block ?_
          refine W_loop (σ := Nat) [0, 1, 8, 9, 11] (fun x => [(10, .int .i64 (x : Int))]) (fun x w' => (p ≤ x ∧ (x ≤ b ∧ x ≤ q + 2) ∧ Go.Sort.scanUp (pLt d2[a]!) d2 (q) (x) = Go.Sort.scanUp (pLt d2[a]!) d2 (q) (p)) ∧ Mem w (blks [e]) [e2] w') (fun x => b + 1 - x) (p) (agC rfl agN) (⟨⟨by omega, ⟨by omega, by omega⟩, rfl⟩, hM18⟩) ?_
          rintro x ρ20 w20 ⟨⟨hlx, ⟨hux, hzx⟩, hV⟩, hM20⟩
          refine W_seq ?_
          refine W_seq ?_
          refine W_draw [(0, 0), (1, 0), (2, 0), (3, 0), (4, 0), (5, 0), (6, 1), (7, 1), (8, 0), (9, 0), (10, 1), (11, 1), (12, 2), (13, 0)] mixed rfl (by kernel_rfl) (fun w21 hb21 hh21 => ?_)
          have M21 := hM20.drew hb21 hh21
          refine D_p rfl rfl rfl (fun _ => r_move (.int _ _) rfl) ?_
          refine D_p rfl rfl rfl (fun _ => r_move (.int _ _) rfl) ?_
          refine D_p rfl rfl rfl (fun _ => r_bin (.bool (decide _)) rfl rfl rfl) ?_
          refine D_p rfl rfl rfl (fun _ => r_move (.bool (decide _)) rfl) ?_
          refine D_splitD 102 rfl (fun g102 => ?_) (fun g102 => ?_)
          · skip
            refine D_p rfl rfl rfl (fun _ => r_move (.slice _ _ _) rfl) ?_
            refine D_p rfl rfl rfl (fun _ => r_move (.int _ _) rfl) ?_
            refine D_r rfl rfl rfl (r_idxR ((x)) sl27 rfl rfl rfl ((hR2.rd M21 (nthMem (i := 0) rfl)).below_len (mapGet keyCell (dget (d := d2) (i := x) (by omega)))) ((hR2.rd M21 (nthMem (i := 0) rfl)).someK (mapGet keyCell (dget (d := d2) (i := x) (by omega))))) ?_
            refine D_r rfl rfl rfl (r_ldE0 (.int _ _) one42 (hR2.rd M21 (nthMem (i := 0) rfl)) (mapGet keyCell (dget (d := d2) (i := x) (by omega))) rfl) ?_
            refine D_p rfl rfl rfl (fun _ => r_move (.slice _ _ _) rfl) ?_
            refine D_p rfl rfl rfl (fun _ => r_move (.int _ _) rfl) ?_
            refine D_r rfl rfl rfl (r_idxR ((a)) sl27 rfl rfl rfl ((hR2.rd M21 (nthMem (i := 0) rfl)).below_len (mapGet keyCell (dget (d := d2) (i := a) (by omega)))) ((hR2.rd M21 (nthMem (i := 0) rfl)).someK (mapGet keyCell (dget (d := d2) (i := a) (by omega))))) ?_
            refine D_r rfl rfl rfl (r_ldE0 (.int _ _) one42 (hR2.rd M21 (nthMem (i := 0) rfl)) (mapGet keyCell (dget (d := d2) (i := a) (by omega))) rfl) ?_
            refine D_e [true, true, true, true] rfl (by kernel_rfl) ?_
            refine wl_cal cal61 rfl rfl rfl ?_
            refine (cmp_Less32 _ _ _).mono ?_
            rintro _ w22 ⟨v22, rfl, ⟨rfl, hb22⟩⟩
            refine ⟨_, rfl, ?_⟩
            have M22 := M21.callB hb22
            refine wl_nil (thenN ⟨alN, ?_⟩)
            refine D_p rfl rfl rfl (fun _ => r_pick true (.bool (decide _)) rfl rfl) ?_
            refine D_nil ?_
            refine thenN ?_
            refine W_condD rfl (fun h112 => ?_) (fun h112 => ?_)
            · skip
              refine W_skip ?_
              refine thenN ?_
              refine W_block ?_
              refine W_region ?_
              refine wl_q (r_move (.int _ _) rfl) rfl rfl ?_
              refine wl_q (r_add rfl rfl (by omega) (by omega)) rfl rfl ?_
              refine wl_q (r_assign (.int _ _) rfl) rfl rfl ?_
              refine wl_nil ?_
              refine blkN ?_
              refine roundN (x + 1) (agC rfl agN) (akC rfl (akC rfl (akC rfl (akC rfl (akC rfl akN))))) ?_ ?_
              · exact ⟨⟨by omega, ⟨by omega, by omega⟩, (up_step (by omega) (Eq.mpr pLt_t h112)).symm.trans hV⟩, M22⟩
              · omega
            · skip
              refine W_exit ?_
              refine thenX ?_
              refine roundX ?_
              refine blkH ?_
              refine meetN x (agC rfl agN) (akC rfl (akC rfl (akC rfl (akC rfl (akC rfl akN))))) ?_
              exact ⟨⟨by omega, ⟨by omega, by omega⟩, by rw [← hV]; exact up_stop (fun h => h112 (Eq.mp pLt_t h.2))⟩, M22⟩
          · skip
            refine D_s rfl rfl rfl ?_
            refine D_s rfl rfl rfl ?_
            refine D_s1 rfl rfl rfl ?_
            refine D_s1 rfl rfl rfl ?_
            refine D_s rfl rfl rfl ?_
            refine D_s rfl rfl rfl ?_
            refine D_s1 rfl rfl rfl ?_
            refine D_s1 rfl rfl rfl ?_
            refine D_e [true, true, true, true] rfl (by kernel_rfl) ?_
            refine wl_skip rfl rfl ?_
            refine wl_nil (thenN ⟨alN, ?_⟩)
            refine D_p rfl rfl rfl (fun _ => r_pick false (.bool false) rfl rfl) ?_
            refine D_nil ?_
            refine thenN ?_
            refine W_condF rfl ?_
            refine W_exit ?_
            refine thenX ?_
            refine roundX ?_
            refine blkH ?_
            refine meetN x (agC rfl agN) (akC rfl (akC rfl (akC rfl (akC rfl (akC rfl akN))))) ?_
            exact ⟨⟨by omega, ⟨by omega, by omega⟩, by rw [← hV]; exact up_stop (fun h => by omega)⟩, M21⟩
        · skip
          rintro x ρ19 w19 ⟨⟨hlx, ⟨hux, hzx⟩, hV⟩, hM19⟩
          refine W_meet (σ := Nat) [0, 1, 8, 9, 10] (fun y => [(11, .int .i64 (y : Int))]) (fun y w' => (a ≤ y ∧ y ≤ q ∧ x ≤ y + 2 ∧ Go.Sort.scanDown (pGe d2[a]!) d2 (x) (q) = y) ∧ Mem w (blks [e]) [e2] w') ?_ ?_
          · skip
            refine W_block ?_
            refine W_loop (σ := Nat) [0, 1, 8, 9, 10] (fun y => [(11, .int .i64 (y : Int))]) (fun y w' => (a ≤ y ∧ y ≤ q ∧ x ≤ y + 2 ∧ Go.Sort.scanDown (pGe d2[a]!) d2 (x) (y) = Go.Sort.scanDown (pGe d2[a]!) d2 (x) (q)) ∧ Mem w (blks [e]) [e2] w') (fun y => y) (q) (agC rfl agN) (⟨⟨by omega, by omega, by omega, rfl⟩, hM19⟩) ?_
            rintro y ρ24 w24 ⟨⟨hly, huy, hwy, hW⟩, hM24⟩
            refine W_seq ?_
            refine W_seq ?_
            refine W_draw [(0, 0), (1, 0), (2, 0), (3, 0), (4, 0), (5, 0), (6, 1), (7, 1), (8, 0), (9, 0), (10, 1), (11, 1), (12, 2), (13, 0), (14, 0)] mixed rfl (by kernel_rfl) (fun w25 hb25 hh25 => ?_)
            have M25 := hM24.drew hb25 hh25
            refine D_p rfl rfl rfl (fun _ => r_move (.int _ _) rfl) ?_
            refine D_p rfl rfl rfl (fun _ => r_move (.int _ _) rfl) ?_
            refine D_p rfl rfl rfl (fun _ => r_bin (.bool (decide _)) rfl rfl rfl) ?_
            refine D_p rfl rfl rfl (fun _ => r_move (.bool (decide _)) rfl) ?_
            refine D_splitD 118 rfl (fun g118 => ?_) (fun g118 => ?_)
            · skip
              refine D_p rfl rfl rfl (fun _ => r_move (.slice _ _ _) rfl) ?_
              refine D_p rfl rfl rfl (fun _ => r_move (.int _ _) rfl) ?_
              refine D_r rfl rfl rfl (r_idxR ((y)) sl27 rfl rfl rfl ((hR2.rd M25 (nthMem (i := 0) rfl)).below_len (mapGet keyCell (dget (d := d2) (i := y) (by omega)))) ((hR2.rd M25 (nthMem (i := 0) rfl)).someK (mapGet keyCell (dget (d := d2) (i := y) (by omega))))) ?_
              refine D_r rfl rfl rfl (r_ldE0 (.int _ _) one42 (hR2.rd M25 (nthMem (i := 0) rfl)) (mapGet keyCell (dget (d := d2) (i := y) (by omega))) rfl) ?_
              refine D_p rfl rfl rfl (fun _ => r_move (.slice _ _ _) rfl) ?_
              refine D_p rfl rfl rfl (fun _ => r_move (.int _ _) rfl) ?_
              refine D_r rfl rfl rfl (r_idxR ((a)) sl27 rfl rfl rfl ((hR2.rd M25 (nthMem (i := 0) rfl)).below_len (mapGet keyCell (dget (d := d2) (i := a) (by omega)))) ((hR2.rd M25 (nthMem (i := 0) rfl)).someK (mapGet keyCell (dget (d := d2) (i := a) (by omega))))) ?_
              refine D_r rfl rfl rfl (r_ldE0 (.int _ _) one42 (hR2.rd M25 (nthMem (i := 0) rfl)) (mapGet keyCell (dget (d := d2) (i := a) (by omega))) rfl) ?_
              refine D_e [true, true, true, true] rfl (by kernel_rfl) ?_
              refine wl_cal cal61 rfl rfl rfl ?_
              refine (cmp_Less32 _ _ _).mono ?_
              rintro _ w26 ⟨v26, rfl, ⟨rfl, hb26⟩⟩
              refine ⟨_, rfl, ?_⟩
              have M26 := M25.callB hb26
              refine wl_nil (thenN ⟨alN, ?_⟩)
              refine D_p rfl rfl rfl (fun _ => r_not rfl) ?_
              refine D_p rfl rfl rfl (fun _ => r_pick true (.bool (decide _)) rfl rfl) ?_
              refine D_nil ?_
              refine thenN ?_
              refine W_condD rfl (fun h129 => ?_) (fun h129 => ?_)
              · skip
                refine W_skip ?_
                refine thenN ?_
                refine W_block ?_
                refine W_region ?_
                refine wl_q (r_move (.int _ _) rfl) rfl rfl ?_
                refine wl_q (r_sub rfl rfl (by omega) (by omega)) rfl rfl ?_
                refine wl_re 131 (.int .i64 ((y - 1 : Nat) : Int)) (iE (by omega)) ?_
                refine wl_q (r_assign (.int _ _) rfl) rfl rfl ?_
                refine wl_nil ?_
                refine blkN ?_
                refine roundN (y - 1) (agC rfl agN) (akC rfl (akC rfl (akC rfl (akC rfl (akC rfl akN))))) ?_ ?_
                · exact ⟨⟨by omega, by omega, by omega, (down_step (by omega) (by omega) (Eq.mpr pGe_t h129)).symm.trans hW⟩, M26⟩
                · (show y - 1 < y; omega)
              · skip
                refine W_exit ?_
                refine thenX ?_
                refine roundX ?_
                refine blkH ?_
                refine meetN y (agC rfl agN) (akC rfl (akC rfl (akC rfl (akC rfl (akC rfl akN))))) ?_
                exact ⟨⟨by omega, by omega, by omega, by rw [← hW]; exact down_stop (fun h => h129 (Eq.mp pGe_t h.2))⟩, M26⟩
            · skip
              refine D_s rfl rfl rfl ?_
              refine D_s rfl rfl rfl ?_
              refine D_s1 rfl rfl rfl ?_
              refine D_s1 rfl rfl rfl ?_
              refine D_s rfl rfl rfl ?_
              refine D_s rfl rfl rfl ?_
              refine D_s1 rfl rfl rfl ?_
              refine D_s1 rfl rfl rfl ?_
              refine D_e [true, true, true, true] rfl (by kernel_rfl) ?_
              refine wl_skip rfl rfl ?_
              refine wl_nil (thenN ⟨alN, ?_⟩)
              refine D_s rfl rfl rfl ?_
              refine D_p rfl rfl rfl (fun _ => r_pick false (.bool false) rfl rfl) ?_
              refine D_nil ?_
              refine thenN ?_
              refine W_condF rfl ?_
              refine W_exit ?_
              refine thenX ?_
              refine roundX ?_
              refine blkH ?_
              refine meetN y (agC rfl agN) (akC rfl (akC rfl (akC rfl (akC rfl (akC rfl akN))))) ?_
              exact ⟨⟨by omega, by omega, by omega, by rw [← hW]; exact down_stop (fun h => by omega)⟩, M25⟩
          · skip
            rintro y ρ23 w23 ⟨⟨hly, huy, hwy, hW⟩, hM23⟩
            refine W_seq ?_
            refine W_seq ?_
            refine W_region ?_
            refine wl_q (r_move (.int _ _) rfl) rfl rfl ?_
            refine wl_q (r_move (.int _ _) rfl) rfl rfl ?_
            refine wl_q (r_bin (.bool (decide _)) rfl rfl rfl) rfl rfl ?_
            refine wl_nil ?_
            refine thenN ?_
            refine W_condD rfl (fun h134 => ?_) (fun h134 => ?_)
            · skip
              refine W_exit ?_
              refine thenX ?_
              refine blkX rfl ?_
              refine roundX ?_
              refine blkH ?_
              refine thenN ?_
              refine W_seq ?_
              refine W_draw [(0, 0), (1, 0), (2, 0), (3, 0), (4, 0), (5, 0), (6, 1), (7, 1), (8, 0), (9, 0), (10, 1), (11, 1), (12, 1), (13, 2), (14, 1), (15, 2)] mixed rfl (by kernel_rfl) (fun w27 hb27 hh27 => ?_)
              have M27 := hM23.drew hb27 hh27
              refine D_p rfl rfl rfl (fun _ => r_move (.slice _ _ _) rfl) ?_
              refine D_p rfl rfl rfl (fun _ => r_move (.int _ _) rfl) ?_
              refine D_p rfl rfl rfl (fun _ => r_move (.slice _ _ _) rfl) ?_
              refine D_p rfl rfl rfl (fun _ => r_move (.int _ _) rfl) ?_
              refine D_p rfl rfl rfl (fun _ => r_move (.slice _ _ _) rfl) ?_
              refine D_p rfl rfl rfl (fun _ => r_move (.int _ _) rfl) ?_
              refine D_r rfl rfl rfl (r_idxR ((a)) sl27 rfl rfl rfl ((hR2.rd M27 (nthMem (i := 0) rfl)).below_len (mapGet keyCell (dget (d := d2) (i := a) (by omega)))) ((hR2.rd M27 (nthMem (i := 0) rfl)).someK (mapGet keyCell (dget (d := d2) (i := a) (by omega))))) ?_
              refine D_r rfl rfl rfl (r_ldE0 (.int _ _) one42 (hR2.rd M27 (nthMem (i := 0) rfl)) (mapGet keyCell (dget (d := d2) (i := a) (by omega))) rfl) ?_
              refine D_p rfl rfl rfl (fun _ => r_move (.slice _ _ _) rfl) ?_
              refine D_p rfl rfl rfl (fun _ => r_move (.int _ _) rfl) ?_
              refine D_r rfl rfl rfl (r_idxR ((y)) sl27 rfl rfl rfl ((hR2.rd M27 (nthMem (i := 0) rfl)).below_len (mapGet keyCell (dget (d := d2) (i := y) (by omega)))) ((hR2.rd M27 (nthMem (i := 0) rfl)).someK (mapGet keyCell (dget (d := d2) (i := y) (by omega))))) ?_
              refine D_r rfl rfl rfl (r_ldE0 (.int _ _) one42 (hR2.rd M27 (nthMem (i := 0) rfl)) (mapGet keyCell (dget (d := d2) (i := y) (by omega))) rfl) ?_
              refine D_r rfl rfl rfl (r_idxR ((y)) sl27 rfl rfl rfl ((hR2.rd M27 (nthMem (i := 0) rfl)).below_len (mapGet keyCell (dget (d := d2) (i := y) (by omega)))) ((hR2.rd M27 (nthMem (i := 0) rfl)).someK (mapGet keyCell (dget (d := d2) (i := y) (by omega))))) ?_
              refine D_e [true, true, true, true, true] rfl (by kernel_rfl) ?_
              refine wl_stR0 0 (.int _ _) one42 M27 rfl hR2 (mapGet keyCell (dget (d := d2) (i := y) (by omega))) rfl rfl rfl rfl (fun e28 w28 hR28 M28 => ?_)
              refine wl_nil (thenN ⟨alN, ?_⟩)
              refine D_r rfl rfl rfl (r_idxR ((a)) sl27 rfl rfl rfl ((hR28.rd M28 (nthMem (i := 0) rfl)).below_len ((dset (j := a) (by simp; omega)))) ((hR28.rd M28 (nthMem (i := 0) rfl)).someK ((dset (j := a) (by simp; omega))))) ?_
              refine D_e [true] rfl (by kernel_rfl) ?_
              refine wl_stR0 0 (.int _ _) one42 M28 rfl hR28 ((dset (j := a) (by simp; omega))) rfl rfl rfl rfl (fun e29 w29 hR29 M29 => ?_)
              have hQ29 := swp_row (d := d2) (i := y) (j := a) rfl rfl hR29
              refine wl_nil (thenN ⟨alN, ?_⟩)
              refine D_nil ?_
              refine thenN ?_
              refine W_seq ?_
              refine W_region ?_
              refine wl_q (r_move (.int _ _) rfl) rfl rfl ?_
              refine wl_q (r_assign (.int _ _) rfl) rfl rfl ?_
              refine wl_q (r_assign (.bool false) rfl) rfl rfl ?_
              refine wl_nil ?_
              refine thenN ?_
              refine W_ret ?_
              skip
              refine fin2 (.int _ _) (.bool false) rfl rfl ?_
              have hP : Go.Sort.partLoop ltInt a (i + 1) (j - 1) d1 = (y, d2) := by rw [← hL]; exact Go.Bil.part_end hV hW (by omega)
              have hfin := partition_go (b := b) (p := p0) (jr := y) (dr := d2) hd0 hT hU (by omega) (by rw [← hd1]; exact hP)
              exact ⟨e29, by rw [hfin], by rw [hfin]; exact ⟨by omega, by omega⟩, by rw [hfin]; exact hQ29, M29⟩
            · skip
              refine W_skip ?_
              refine thenN ?_
              refine W_seq ?_
              refine W_draw [(0, 0), (1, 0), (2, 0), (3, 0), (4, 0), (5, 0), (6, 1), (7, 1), (8, 0), (9, 0), (10, 1), (11, 1), (12, 1), (13, 2), (14, 1), (15, 2)] mixed rfl (by kernel_rfl) (fun w30 hb30 hh30 => ?_)
              have M30 := hM23.drew hb30 hh30
              refine D_p rfl rfl rfl (fun _ => r_move (.slice _ _ _) rfl) ?_
              refine D_p rfl rfl rfl (fun _ => r_move (.int _ _) rfl) ?_
              refine D_p rfl rfl rfl (fun _ => r_move (.slice _ _ _) rfl) ?_
              refine D_p rfl rfl rfl (fun _ => r_move (.int _ _) rfl) ?_
              refine D_p rfl rfl rfl (fun _ => r_move (.slice _ _ _) rfl) ?_
              refine D_p rfl rfl rfl (fun _ => r_move (.int _ _) rfl) ?_
              refine D_r rfl rfl rfl (r_idxR ((y)) sl27 rfl rfl rfl ((hR2.rd M30 (nthMem (i := 0) rfl)).below_len (mapGet keyCell (dget (d := d2) (i := y) (by omega)))) ((hR2.rd M30 (nthMem (i := 0) rfl)).someK (mapGet keyCell (dget (d := d2) (i := y) (by omega))))) ?_
              refine D_r rfl rfl rfl (r_ldE0 (.int _ _) one42 (hR2.rd M30 (nthMem (i := 0) rfl)) (mapGet keyCell (dget (d := d2) (i := y) (by omega))) rfl) ?_
              refine D_p rfl rfl rfl (fun _ => r_move (.slice _ _ _) rfl) ?_
              refine D_p rfl rfl rfl (fun _ => r_move (.int _ _) rfl) ?_
              refine D_r rfl rfl rfl (r_idxR ((x)) sl27 rfl rfl rfl ((hR2.rd M30 (nthMem (i := 0) rfl)).below_len (mapGet keyCell (dget (d := d2) (i := x) (by omega)))) ((hR2.rd M30 (nthMem (i := 0) rfl)).someK (mapGet keyCell (dget (d := d2) (i := x) (by omega))))) ?_
              refine D_r rfl rfl rfl (r_ldE0 (.int _ _) one42 (hR2.rd M30 (nthMem (i := 0) rfl)) (mapGet keyCell (dget (d := d2) (i := x) (by omega))) rfl) ?_
              refine D_r rfl rfl rfl (r_idxR ((x)) sl27 rfl rfl rfl ((hR2.rd M30 (nthMem (i := 0) rfl)).below_len (mapGet keyCell (dget (d := d2) (i := x) (by omega)))) ((hR2.rd M30 (nthMem (i := 0) rfl)).someK (mapGet keyCell (dget (d := d2) (i := x) (by omega))))) ?_
              refine D_e [true, true, true, true, true] rfl (by kernel_rfl) ?_
              refine wl_stR0 0 (.int _ _) one42 M30 rfl hR2 (mapGet keyCell (dget (d := d2) (i := x) (by omega))) rfl rfl rfl rfl (fun e31 w31 hR31 M31 => ?_)
              refine wl_nil (thenN ⟨alN, ?_⟩)
              refine D_r rfl rfl rfl (r_idxR ((y)) sl27 rfl rfl rfl ((hR31.rd M31 (nthMem (i := 0) rfl)).below_len ((dset (j := y) (by simp; omega)))) ((hR31.rd M31 (nthMem (i := 0) rfl)).someK ((dset (j := y) (by simp; omega))))) ?_
              refine D_e [true] rfl (by kernel_rfl) ?_
              refine wl_stR0 0 (.int _ _) one42 M31 rfl hR31 ((dset (j := y) (by simp; omega))) rfl rfl rfl rfl (fun e32 w32 hR32 M32 => ?_)
              have hQ32 := swp_row (d := d2) (i := x) (j := y) rfl rfl hR32
              refine wl_nil (thenN ⟨alN, ?_⟩)
              refine D_nil ?_
              refine thenN ?_
              refine W_seq ?_
              refine W_region ?_
              refine wl_q (r_move (.int _ _) rfl) rfl rfl ?_
              refine wl_q (r_add rfl rfl (by omega) (by omega)) rfl rfl ?_
              refine wl_q (r_assign (.int _ _) rfl) rfl rfl ?_
              refine wl_nil ?_
              refine thenN ?_
              refine W_region ?_
              refine wl_q (r_move (.int _ _) rfl) rfl rfl ?_
              refine wl_q (r_sub rfl rfl (by omega) (by omega)) rfl rfl ?_
              refine wl_re 152 (.int .i64 ((y - 1 : Nat) : Int)) (iE (by omega)) ?_
              refine wl_q (r_assign (.int _ _) rfl) rfl rfl ?_
              refine wl_nil ?_
              refine blkN ?_
              refine roundN (x + 1, y - 1, swp d2 x y, e32) (agC rfl (agC rfl agN)) (akC rfl (akC rfl (akC rfl (akC rfl akN)))) ?_ ?_
              · exact ⟨⟨by omega, by omega, by omega, by omega, by omega, (Go.Bil.part_go hV hW (by omega) (by omega) (by omega) (by omega)).symm.trans hL, hQ32⟩, M32⟩
              · (show y - 1 + 3 - (x + 1) < q + 3 - p; omega)

set_option maxHeartbeats 16000000 in
theorem sort_parteq (w : World) (A : Option Addr) (n c : Nat) (d : AI) (e : Ent) (hR : RowIs 42 1 A n c ((d).toList.map keyCell) e) (hO : Own [e] w) (a b p0 : Nat) (hab : a < b) (hb : b ≤ n) (hp : a ≤ p0) (hp' : p0 < b) :
    Calls Tryd.prog 62 #[.slice A n c, .int .i64 (a : Int), .int .i64 (b : Int), .int .i64 (p0 : Int)] w (fun ex w' => ∃ v, ex = .returned v ∧ (fun v w' => ∃ e', v = .int .i64 ((Go.Sort.partitionEqual ltInt d a b p0).1 : Int) ∧ (a < (Go.Sort.partitionEqual ltInt d a b p0).1 ∧ (Go.Sort.partitionEqual ltInt d a b p0).1 ≤ b) ∧ RowIs 42 1 A n c (((Go.Sort.partitionEqual ltInt d a b p0).2).toList.map keyCell) e' ∧ Mem w (blks [e]) [e'] w') v w') := by
  have hdn : d.size = n := by simpa using hR.1
  have hnb := hR.2.2.1
  refine calls_of_W #[.tmp 8] 84 Tryd.func62 rfl Tryd.results62 Tryd.ntmps62 rfl ?_
  have M0 := hO.mem
  refine W_seq ?_
  refine W_region ?_
  refine wl_q (r_assign (.int _ _) rfl) rfl rfl ?_
  refine wl_nil ?_
  refine thenN ?_
  refine W_seq ?_
  refine W_draw [(0, 0), (1, 0), (2, 0), (3, 0), (4, 0), (5, 0), (6, 1), (7, 1), (8, 0), (9, 0), (10, 1), (11, 1), (12, 1), (13, 2), (14, 1), (15, 2)] mixed rfl (by kernel_rfl) (fun w1 hb1 hh1 => ?_)
  have M1 := M0.drew hb1 hh1
  refine D_p rfl rfl rfl (fun _ => r_move (.slice _ _ _) rfl) ?_
  refine D_p rfl rfl rfl (fun _ => r_move (.int _ _) rfl) ?_
  refine D_p rfl rfl rfl (fun _ => r_move (.slice _ _ _) rfl) ?_
  refine D_p rfl rfl rfl (fun _ => r_move (.int _ _) rfl) ?_
  refine D_p rfl rfl rfl (fun _ => r_move (.slice _ _ _) rfl) ?_
  refine D_p rfl rfl rfl (fun _ => r_move (.int _ _) rfl) ?_
  refine D_r rfl rfl rfl (r_idxR ((p0)) sl27 rfl rfl rfl ((hR.rd M1 (nthMem (i := 0) rfl)).below_len (mapGet keyCell (dget (d := d) (i := p0) (by omega)))) ((hR.rd M1 (nthMem (i := 0) rfl)).someK (mapGet keyCell (dget (d := d) (i := p0) (by omega))))) ?_
  refine D_r rfl rfl rfl (r_ldE0 (.int _ _) one42 (hR.rd M1 (nthMem (i := 0) rfl)) (mapGet keyCell (dget (d := d) (i := p0) (by omega))) rfl) ?_
  refine D_p rfl rfl rfl (fun _ => r_move (.slice _ _ _) rfl) ?_
  refine D_p rfl rfl rfl (fun _ => r_move (.int _ _) rfl) ?_
  refine D_r rfl rfl rfl (r_idxR ((a)) sl27 rfl rfl rfl ((hR.rd M1 (nthMem (i := 0) rfl)).below_len (mapGet keyCell (dget (d := d) (i := a) (by omega)))) ((hR.rd M1 (nthMem (i := 0) rfl)).someK (mapGet keyCell (dget (d := d) (i := a) (by omega))))) ?_
  refine D_r rfl rfl rfl (r_ldE0 (.int _ _) one42 (hR.rd M1 (nthMem (i := 0) rfl)) (mapGet keyCell (dget (d := d) (i := a) (by omega))) rfl) ?_
  refine D_r rfl rfl rfl (r_idxR ((a)) sl27 rfl rfl rfl ((hR.rd M1 (nthMem (i := 0) rfl)).below_len (mapGet keyCell (dget (d := d) (i := a) (by omega)))) ((hR.rd M1 (nthMem (i := 0) rfl)).someK (mapGet keyCell (dget (d := d) (i := a) (by omega))))) ?_
  refine D_e [true, true, true, true, true] rfl (by kernel_rfl) ?_
  refine wl_stR0 0 (.int _ _) one42 M1 rfl hR (mapGet keyCell (dget (d := d) (i := a) (by omega))) rfl rfl rfl rfl (fun e2 w2 hR2 M2 => ?_)
  refine wl_nil (thenN ⟨alN, ?_⟩)
  refine D_r rfl rfl rfl (r_idxR ((p0)) sl27 rfl rfl rfl ((hR2.rd M2 (nthMem (i := 0) rfl)).below_len ((dset (j := p0) (by simp; omega)))) ((hR2.rd M2 (nthMem (i := 0) rfl)).someK ((dset (j := p0) (by simp; omega))))) ?_
  refine D_e [true] rfl (by kernel_rfl) ?_
  refine wl_stR0 0 (.int _ _) one42 M2 rfl hR2 ((dset (j := p0) (by simp; omega))) rfl rfl rfl rfl (fun e3 w3 hR3 M3 => ?_)
  have hQ3 := swp_row (d := d) (i := a) (j := p0) rfl rfl hR3
  obtain ⟨d0, hd0⟩ : ∃ z, z = swp d a p0 := ⟨_, rfl⟩
  rw [← hd0] at hQ3
  have hsd0 : d0.size = n := by rw [hd0, swp_n]; omega
  refine wl_nil (thenN ⟨alN, ?_⟩)
  refine D_nil ?_
  refine thenN ?_
  refine W_seq ?_
  refine W_region ?_
  refine wl_q (r_move (.int _ _) rfl) rfl rfl ?_
  refine wl_q (r_add rfl rfl (by omega) (by omega)) rfl rfl ?_
  refine wl_re 26 (.int .i64 ((a + 1 : Nat) : Int)) (iE (by omega)) ?_
  refine wl_q (r_move (.int _ _) rfl) rfl rfl ?_
  refine wl_q (r_sub rfl rfl (by omega) (by omega)) rfl rfl ?_
  refine wl_re 28 (.int .i64 ((b - 1 : Nat) : Int)) (iE (by omega)) ?_
  refine wl_q (r_assign (.int _ _) rfl) rfl rfl ?_
  refine wl_q (r_assign (.int _ _) rfl) rfl rfl ?_
  refine wl_nil ?_
  refine thenN ?_
  refine W_seq ?_
  refine W_block ?_
  refine W_loop (σ := Nat × Nat × AI × Ent) [0, 1, 8] (fun (p, q, d2, e2) => [(9, .int .i64 (p : Int)), (10, .int .i64 (q : Int))]) (fun (p, q, d2, e2) w' => (a < p ∧ p ≤ b ∧ q < b ∧ a ≤ q ∧ p ≤ q + 2 ∧ Go.Sort.partEqLoop ltInt a p q d2 = Go.Sort.partEqLoop ltInt a (a + 1) (b - 1) d0 ∧ RowIs 42 1 A n c ((d2).toList.map keyCell) e2) ∧ Mem w (blks [e]) [e2] w') (fun (p, q, d2, e2) => q + 3 - p) (a + 1, b - 1, d0, e3) (agC rfl (agC rfl agN)) (⟨⟨by omega, by omega, by omega, by omega, by omega, rfl, hQ3⟩, M3⟩) ?_
  rintro ⟨p, q, d2, e2⟩ ρ4 w4 ⟨⟨hp1, hp2, hq1, hq2, hpq, hL, hR2⟩, hM4⟩
  have hs2 : d2.size = n := by simpa using hR2.1
  refine W_block ?_
  refine W_meet (σ := Nat) [0, 1, 8, 10] (fun x => [(9, .int .i64 (x : Int))]) (fun x w' => (p ≤ x ∧ (x ≤ b ∧ x ≤ q + 2) ∧ Go.Sort.scanUp (pLe d2[a]!) d2 (q) (p) = x) ∧ Mem w (blks [e]) [e2] w') ?_ ?_
  · skip
    refine W_block ?_
    refine W_loop (σ := Nat) [0, 1, 8, 10] (fun x => [(9, .int .i64 (x : Int))]) (fun x w' => (p ≤ x ∧ (x ≤ b ∧ x ≤ q + 2) ∧ Go.Sort.scanUp (pLe d2[a]!) d2 (q) (x) = Go.Sort.scanUp (pLe d2[a]!) d2 (q) (p)) ∧ Mem w (blks [e]) [e2] w') (fun x => b + 1 - x) (p) (agC rfl agN) (⟨⟨by omega, ⟨by omega, by omega⟩, rfl⟩, hM4⟩) ?_
    rintro x ρ6 w6 ⟨⟨hlx, ⟨hux, hzx⟩, hV⟩, hM6⟩
    refine W_seq ?_
    refine W_seq ?_
    refine W_draw [(0, 0), (1, 0), (2, 0), (3, 0), (4, 0), (5, 0), (6, 1), (7, 1), (8, 0), (9, 0), (10, 1), (11, 1), (12, 2), (13, 0), (14, 0)] mixed rfl (by kernel_rfl) (fun w7 hb7 hh7 => ?_)
    have M7 := hM6.drew hb7 hh7
    refine D_p rfl rfl rfl (fun _ => r_move (.int _ _) rfl) ?_
    refine D_p rfl rfl rfl (fun _ => r_move (.int _ _) rfl) ?_
    refine D_p rfl rfl rfl (fun _ => r_bin (.bool (decide _)) rfl rfl rfl) ?_
    refine D_p rfl rfl rfl (fun _ => r_move (.bool (decide _)) rfl) ?_
    refine D_splitD 32 rfl (fun g32 => ?_) (fun g32 => ?_)
    · skip
      refine D_p rfl rfl rfl (fun _ => r_move (.slice _ _ _) rfl) ?_
      refine D_p rfl rfl rfl (fun _ => r_move (.int _ _) rfl) ?_
      refine D_r rfl rfl rfl (r_idxR ((a)) sl27 rfl rfl rfl ((hR2.rd M7 (nthMem (i := 0) rfl)).below_len (mapGet keyCell (dget (d := d2) (i := a) (by omega)))) ((hR2.rd M7 (nthMem (i := 0) rfl)).someK (mapGet keyCell (dget (d := d2) (i := a) (by omega))))) ?_
      refine D_r rfl rfl rfl (r_ldE0 (.int _ _) one42 (hR2.rd M7 (nthMem (i := 0) rfl)) (mapGet keyCell (dget (d := d2) (i := a) (by omega))) rfl) ?_
      refine D_p rfl rfl rfl (fun _ => r_move (.slice _ _ _) rfl) ?_
      refine D_p rfl rfl rfl (fun _ => r_move (.int _ _) rfl) ?_
      refine D_r rfl rfl rfl (r_idxR ((x)) sl27 rfl rfl rfl ((hR2.rd M7 (nthMem (i := 0) rfl)).below_len (mapGet keyCell (dget (d := d2) (i := x) (by omega)))) ((hR2.rd M7 (nthMem (i := 0) rfl)).someK (mapGet keyCell (dget (d := d2) (i := x) (by omega))))) ?_
      refine D_r rfl rfl rfl (r_ldE0 (.int _ _) one42 (hR2.rd M7 (nthMem (i := 0) rfl)) (mapGet keyCell (dget (d := d2) (i := x) (by omega))) rfl) ?_
      refine D_e [true, true, true, true] rfl (by kernel_rfl) ?_
      refine wl_cal cal61 rfl rfl rfl ?_
      refine (cmp_Less32 _ _ _).mono ?_
      rintro _ w8 ⟨v8, rfl, ⟨rfl, hb8⟩⟩
      refine ⟨_, rfl, ?_⟩
      have M8 := M7.callB hb8
      refine wl_nil (thenN ⟨alN, ?_⟩)
      refine D_p rfl rfl rfl (fun _ => r_not rfl) ?_
      refine D_p rfl rfl rfl (fun _ => r_pick true (.bool (decide _)) rfl rfl) ?_
      refine D_nil ?_
      refine thenN ?_
      refine W_condD rfl (fun h43 => ?_) (fun h43 => ?_)
      · skip
        refine W_skip ?_
        refine thenN ?_
        refine W_block ?_
        refine W_region ?_
        refine wl_q (r_move (.int _ _) rfl) rfl rfl ?_
        refine wl_q (r_add rfl rfl (by omega) (by omega)) rfl rfl ?_
        refine wl_q (r_assign (.int _ _) rfl) rfl rfl ?_
        refine wl_nil ?_
        refine blkN ?_
        refine roundN (x + 1) (agC rfl agN) (akC rfl (akC rfl (akC rfl (akC rfl akN)))) ?_ ?_
        · exact ⟨⟨by omega, ⟨by omega, by omega⟩, (up_step (by omega) (Eq.mpr pLe_t h43)).symm.trans hV⟩, M8⟩
        · omega
      · skip
        refine W_exit ?_
        refine thenX ?_
        refine roundX ?_
        refine blkH ?_
        refine meetN x (agC rfl agN) (akC rfl (akC rfl (akC rfl (akC rfl akN)))) ?_
        exact ⟨⟨by omega, ⟨by omega, by omega⟩, by rw [← hV]; exact up_stop (fun h => h43 (Eq.mp pLe_t h.2))⟩, M8⟩
    · skip
      refine D_s rfl rfl rfl ?_
      refine D_s rfl rfl rfl ?_
      refine D_s1 rfl rfl rfl ?_
      refine D_s1 rfl rfl rfl ?_
      refine D_s rfl rfl rfl ?_
      refine D_s rfl rfl rfl ?_
      refine D_s1 rfl rfl rfl ?_
      refine D_s1 rfl rfl rfl ?_
      refine D_e [true, true, true, true] rfl (by kernel_rfl) ?_
      refine wl_skip rfl rfl ?_
      refine wl_nil (thenN ⟨alN, ?_⟩)
      refine D_s rfl rfl rfl ?_
      refine D_p rfl rfl rfl (fun _ => r_pick false (.bool false) rfl rfl) ?_
      refine D_nil ?_
      refine thenN ?_
      refine W_condF rfl ?_
      refine W_exit ?_
      refine thenX ?_
      refine roundX ?_
      refine blkH ?_
      refine meetN x (agC rfl agN) (akC rfl (akC rfl (akC rfl (akC rfl akN)))) ?_
      exact ⟨⟨by omega, ⟨by omega, by omega⟩, by rw [← hV]; exact up_stop (fun h => by omega)⟩, M7⟩
  · skip
    rintro x ρ5 w5 ⟨⟨hlx, ⟨hux, hzx⟩, hV⟩, hM5⟩
    refine W_meet (σ := Nat) [0, 1, 8, 9] (fun y => [(10, .int .i64 (y : Int))]) (fun y w' => (a ≤ y ∧ y ≤ q ∧ x ≤ y + 2 ∧ Go.Sort.scanDown (pGt d2[a]!) d2 (x) (q) = y) ∧ Mem w (blks [e]) [e2] w') ?_ ?_
    · skip
      refine W_block ?_
      refine W_loop (σ := Nat) [0, 1, 8, 9] (fun y => [(10, .int .i64 (y : Int))]) (fun y w' => (a ≤ y ∧ y ≤ q ∧ x ≤ y + 2 ∧ Go.Sort.scanDown (pGt d2[a]!) d2 (x) (y) = Go.Sort.scanDown (pGt d2[a]!) d2 (x) (q)) ∧ Mem w (blks [e]) [e2] w') (fun y => y) (q) (agC rfl agN) (⟨⟨by omega, by omega, by omega, rfl⟩, hM5⟩) ?_
      rintro y ρ10 w10 ⟨⟨hly, huy, hwy, hW⟩, hM10⟩
      refine W_seq ?_
      refine W_seq ?_
      refine W_draw [(0, 0), (1, 0), (2, 0), (3, 0), (4, 0), (5, 0), (6, 1), (7, 1), (8, 0), (9, 0), (10, 1), (11, 1), (12, 2), (13, 0)] mixed rfl (by kernel_rfl) (fun w11 hb11 hh11 => ?_)
      have M11 := hM10.drew hb11 hh11
      refine D_p rfl rfl rfl (fun _ => r_move (.int _ _) rfl) ?_
      refine D_p rfl rfl rfl (fun _ => r_move (.int _ _) rfl) ?_
      refine D_p rfl rfl rfl (fun _ => r_bin (.bool (decide _)) rfl rfl rfl) ?_
      refine D_p rfl rfl rfl (fun _ => r_move (.bool (decide _)) rfl) ?_
      refine D_splitD 49 rfl (fun g49 => ?_) (fun g49 => ?_)
      · skip
        refine D_p rfl rfl rfl (fun _ => r_move (.slice _ _ _) rfl) ?_
        refine D_p rfl rfl rfl (fun _ => r_move (.int _ _) rfl) ?_
        refine D_r rfl rfl rfl (r_idxR ((a)) sl27 rfl rfl rfl ((hR2.rd M11 (nthMem (i := 0) rfl)).below_len (mapGet keyCell (dget (d := d2) (i := a) (by omega)))) ((hR2.rd M11 (nthMem (i := 0) rfl)).someK (mapGet keyCell (dget (d := d2) (i := a) (by omega))))) ?_
        refine D_r rfl rfl rfl (r_ldE0 (.int _ _) one42 (hR2.rd M11 (nthMem (i := 0) rfl)) (mapGet keyCell (dget (d := d2) (i := a) (by omega))) rfl) ?_
        refine D_p rfl rfl rfl (fun _ => r_move (.slice _ _ _) rfl) ?_
        refine D_p rfl rfl rfl (fun _ => r_move (.int _ _) rfl) ?_
        refine D_r rfl rfl rfl (r_idxR ((y)) sl27 rfl rfl rfl ((hR2.rd M11 (nthMem (i := 0) rfl)).below_len (mapGet keyCell (dget (d := d2) (i := y) (by omega)))) ((hR2.rd M11 (nthMem (i := 0) rfl)).someK (mapGet keyCell (dget (d := d2) (i := y) (by omega))))) ?_
        refine D_r rfl rfl rfl (r_ldE0 (.int _ _) one42 (hR2.rd M11 (nthMem (i := 0) rfl)) (mapGet keyCell (dget (d := d2) (i := y) (by omega))) rfl) ?_
        refine D_e [true, true, true, true] rfl (by kernel_rfl) ?_
        refine wl_cal cal61 rfl rfl rfl ?_
        refine (cmp_Less32 _ _ _).mono ?_
        rintro _ w12 ⟨v12, rfl, ⟨rfl, hb12⟩⟩
        refine ⟨_, rfl, ?_⟩
        have M12 := M11.callB hb12
        refine wl_nil (thenN ⟨alN, ?_⟩)
        refine D_p rfl rfl rfl (fun _ => r_pick true (.bool (decide _)) rfl rfl) ?_
        refine D_nil ?_
        refine thenN ?_
        refine W_condD rfl (fun h59 => ?_) (fun h59 => ?_)
        · skip
          refine W_skip ?_
          refine thenN ?_
          refine W_block ?_
          refine W_region ?_
          refine wl_q (r_move (.int _ _) rfl) rfl rfl ?_
          refine wl_q (r_sub rfl rfl (by omega) (by omega)) rfl rfl ?_
          refine wl_re 61 (.int .i64 ((y - 1 : Nat) : Int)) (iE (by omega)) ?_
          refine wl_q (r_assign (.int _ _) rfl) rfl rfl ?_
          refine wl_nil ?_
          refine blkN ?_
          refine roundN (y - 1) (agC rfl agN) (akC rfl (akC rfl (akC rfl (akC rfl akN)))) ?_ ?_
          · exact ⟨⟨by omega, by omega, by omega, (down_step (by omega) (by omega) (Eq.mpr pGt_t h59)).symm.trans hW⟩, M12⟩
          · (show y - 1 < y; omega)
        · skip
          refine W_exit ?_
          refine thenX ?_
          refine roundX ?_
          refine blkH ?_
          refine meetN y (agC rfl agN) (akC rfl (akC rfl (akC rfl (akC rfl akN)))) ?_
          exact ⟨⟨by omega, by omega, by omega, by rw [← hW]; exact down_stop (fun h => h59 (Eq.mp pGt_t h.2))⟩, M12⟩
      · skip
        refine D_s rfl rfl rfl ?_
        refine D_s rfl rfl rfl ?_
        refine D_s1 rfl rfl rfl ?_
        refine D_s1 rfl rfl rfl ?_
        refine D_s rfl rfl rfl ?_
        refine D_s rfl rfl rfl ?_
        refine D_s1 rfl rfl rfl ?_
        refine D_s1 rfl rfl rfl ?_
        refine D_e [true, true, true, true] rfl (by kernel_rfl) ?_
        refine wl_skip rfl rfl ?_
        refine wl_nil (thenN ⟨alN, ?_⟩)
        refine D_p rfl rfl rfl (fun _ => r_pick false (.bool false) rfl rfl) ?_
        refine D_nil ?_
        refine thenN ?_
        refine W_condF rfl ?_
        refine W_exit ?_
        refine thenX ?_
        refine roundX ?_
        refine blkH ?_
        refine meetN y (agC rfl agN) (akC rfl (akC rfl (akC rfl (akC rfl akN)))) ?_
        exact ⟨⟨by omega, by omega, by omega, by rw [← hW]; exact down_stop (fun h => by omega)⟩, M11⟩
    · skip
      rintro y ρ9 w9 ⟨⟨hly, huy, hwy, hW⟩, hM9⟩
      refine W_seq ?_
      refine W_seq ?_
      refine W_region ?_
      refine wl_q (r_move (.int _ _) rfl) rfl rfl ?_
      refine wl_q (r_move (.int _ _) rfl) rfl rfl ?_
      refine wl_q (r_bin (.bool (decide _)) rfl rfl rfl) rfl rfl ?_
      refine wl_nil ?_
      refine thenN ?_
      refine W_condD rfl (fun h64 => ?_) (fun h64 => ?_)
      · skip
        refine W_exit ?_
        refine thenX ?_
        refine blkX rfl ?_
        refine roundX ?_
        refine blkH ?_
        refine thenN ?_
        refine W_seq ?_
        refine W_region ?_
        refine wl_q (r_move (.int _ _) rfl) rfl rfl ?_
        refine wl_q (r_assign (.int _ _) rfl) rfl rfl ?_
        refine wl_nil ?_
        refine thenN ?_
        refine W_ret ?_
        skip
        refine fin1 (.int _ _) rfl ?_
        have hfin : Go.Sort.partitionEqual ltInt d a b p0 = (x, d2) := by unfold Go.Sort.partitionEqual; rw [← hd0, ← hL]; exact Go.Bil.parteq_end hV hW (by omega)
        exact ⟨e2, by rw [hfin], by rw [hfin]; exact ⟨by omega, by omega⟩, by rw [hfin]; exact hR2, hM9⟩
      · skip
        refine W_skip ?_
        refine thenN ?_
        refine W_seq ?_
        refine W_draw [(0, 0), (1, 0), (2, 0), (3, 0), (4, 0), (5, 0), (6, 1), (7, 1), (8, 0), (9, 0), (10, 1), (11, 1), (12, 1), (13, 2), (14, 1), (15, 2)] mixed rfl (by kernel_rfl) (fun w13 hb13 hh13 => ?_)
        have M13 := hM9.drew hb13 hh13
        refine D_p rfl rfl rfl (fun _ => r_move (.slice _ _ _) rfl) ?_
        refine D_p rfl rfl rfl (fun _ => r_move (.int _ _) rfl) ?_
        refine D_p rfl rfl rfl (fun _ => r_move (.slice _ _ _) rfl) ?_
        refine D_p rfl rfl rfl (fun _ => r_move (.int _ _) rfl) ?_
        refine D_p rfl rfl rfl (fun _ => r_move (.slice _ _ _) rfl) ?_
        refine D_p rfl rfl rfl (fun _ => r_move (.int _ _) rfl) ?_
        refine D_r rfl rfl rfl (r_idxR ((y)) sl27 rfl rfl rfl ((hR2.rd M13 (nthMem (i := 0) rfl)).below_len (mapGet keyCell (dget (d := d2) (i := y) (by omega)))) ((hR2.rd M13 (nthMem (i := 0) rfl)).someK (mapGet keyCell (dget (d := d2) (i := y) (by omega))))) ?_
        refine D_r rfl rfl rfl (r_ldE0 (.int _ _) one42 (hR2.rd M13 (nthMem (i := 0) rfl)) (mapGet keyCell (dget (d := d2) (i := y) (by omega))) rfl) ?_
        refine D_p rfl rfl rfl (fun _ => r_move (.slice _ _ _) rfl) ?_
        refine D_p rfl rfl rfl (fun _ => r_move (.int _ _) rfl) ?_
        refine D_r rfl rfl rfl (r_idxR ((x)) sl27 rfl rfl rfl ((hR2.rd M13 (nthMem (i := 0) rfl)).below_len (mapGet keyCell (dget (d := d2) (i := x) (by omega)))) ((hR2.rd M13 (nthMem (i := 0) rfl)).someK (mapGet keyCell (dget (d := d2) (i := x) (by omega))))) ?_
        refine D_r rfl rfl rfl (r_ldE0 (.int _ _) one42 (hR2.rd M13 (nthMem (i := 0) rfl)) (mapGet keyCell (dget (d := d2) (i := x) (by omega))) rfl) ?_
        refine D_r rfl rfl rfl (r_idxR ((x)) sl27 rfl rfl rfl ((hR2.rd M13 (nthMem (i := 0) rfl)).below_len (mapGet keyCell (dget (d := d2) (i := x) (by omega)))) ((hR2.rd M13 (nthMem (i := 0) rfl)).someK (mapGet keyCell (dget (d := d2) (i := x) (by omega))))) ?_
        refine D_e [true, true, true, true, true] rfl (by kernel_rfl) ?_
        refine wl_stR0 0 (.int _ _) one42 M13 rfl hR2 (mapGet keyCell (dget (d := d2) (i := x) (by omega))) rfl rfl rfl rfl (fun e14 w14 hR14 M14 => ?_)
        refine wl_nil (thenN ⟨alN, ?_⟩)
        refine D_r rfl rfl rfl (r_idxR ((y)) sl27 rfl rfl rfl ((hR14.rd M14 (nthMem (i := 0) rfl)).below_len ((dset (j := y) (by simp; omega)))) ((hR14.rd M14 (nthMem (i := 0) rfl)).someK ((dset (j := y) (by simp; omega))))) ?_
        refine D_e [true] rfl (by kernel_rfl) ?_
        refine wl_stR0 0 (.int _ _) one42 M14 rfl hR14 ((dset (j := y) (by simp; omega))) rfl rfl rfl rfl (fun e15 w15 hR15 M15 => ?_)
        have hQ15 := swp_row (d := d2) (i := x) (j := y) rfl rfl hR15
        refine wl_nil (thenN ⟨alN, ?_⟩)
        refine D_nil ?_
        refine thenN ?_
        refine W_seq ?_
        refine W_region ?_
        refine wl_q (r_move (.int _ _) rfl) rfl rfl ?_
        refine wl_q (r_add rfl rfl (by omega) (by omega)) rfl rfl ?_
        refine wl_q (r_assign (.int _ _) rfl) rfl rfl ?_
        refine wl_nil ?_
        refine thenN ?_
        refine W_region ?_
        refine wl_q (r_move (.int _ _) rfl) rfl rfl ?_
        refine wl_q (r_sub rfl rfl (by omega) (by omega)) rfl rfl ?_
        refine wl_re 82 (.int .i64 ((y - 1 : Nat) : Int)) (iE (by omega)) ?_
        refine wl_q (r_assign (.int _ _) rfl) rfl rfl ?_
        refine wl_nil ?_
        refine blkN ?_
        refine roundN (x + 1, y - 1, swp d2 x y, e15) (agC rfl (agC rfl agN)) (akC rfl (akC rfl (akC rfl akN))) ?_ ?_
        · exact ⟨⟨by omega, by omega, by omega, by omega, by omega, (Go.Bil.parteq_go hV hW (by omega) (by omega) (by omega) (by omega)).symm.trans hL, hQ15⟩, M15⟩
        · (show y - 1 + 3 - (x + 1) < q + 3 - p; omega)

end Go.Proofs.YtjbhobahebebkaaDoor
