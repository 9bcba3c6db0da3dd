/- Walks of Go functions over the frame of this claim: what each computes, for every input of the stated types (LPairsExact). -/
import Derived.Test.YtfgbmegchdjfeaaDoorTy
import Derived.Test.YtfgbmegchdjfeaaDoorAw11
import Derived.Test.YtfgbmegchdjfeaaDoorMdR
set_option linter.unusedVariables false
set_option linter.unusedSimpArgs false
set_option linter.unnecessarySimpa false
namespace Go.Proofs.YtfgbmegchdjfeaaDoor
open Go.Bil
open Go.RowKit (Below)
open Go.Proofs

set_option maxHeartbeats 16000000 in
theorem law_PairsExact (w : World) (F : Rd w 2 (some ⟨0, 0, none⟩) 1 [[.int .u32 73856093, .int .u32 19349663]]) (N : Rd w 4 (some ⟨1, 0, none⟩) 1 [bxCells noneB]) (A : Option Addr) (n c : Nat) (xs : List Body) (R : Rd w 10 A n (xs.map bodyCells)) :
    Calls Tryd.prog 4 #[.slice A n c] w (fun ex w' => ∃ v, ex = .returned v ∧ (fun v w' => v = .bool true ∧ Below w.heap.size w w') v w') := by
  have hlen : xs.length = n := by simpa using R.len
  have hbd := R.bound
  refine calls_of_W #[.tmp 2] 94 Tryd.func4 rfl Tryd.results4 Tryd.ntmps4 rfl ?_
  have M0 := Mem.refl w
  refine W_seq ?_
  refine W_region ?_
  refine wl_q (r_assign (.bool false) rfl) rfl rfl ?_
  refine wl_nil ?_
  refine thenN ?_
  refine W_seq ?_
  refine W_region ?_
  refine wl_q (r_move (.slice _ _ _) rfl) rfl rfl ?_
  refine wl_cal cal10 rfl rfl rfl ?_
  refine (ref11_View _ _ _ _ xs (R.mem M0)).mono ?_
  rintro _ w1 ⟨v1, rfl, ⟨r, rfl, hr, hM1⟩⟩
  refine ⟨_, rfl, ?_⟩
  have M1 : Mem _ _ [_] _ := M0.call0 hM1
  refine wl_q (r_move (.tuple (List.toArray _)) rfl) rfl rfl ?_
  refine wl_q (r_ext (.slice _ _ _) rfl rfl) rfl rfl ?_
  refine wl_q (r_ext (.bool (decide _)) rfl rfl) rfl rfl ?_
  refine wl_q (r_assign (.slice _ _ _) rfl) rfl rfl ?_
  refine wl_q (r_assign (.bool (decide _)) rfl) rfl rfl ?_
  refine wl_nil ?_
  refine thenN ?_
  refine W_seq ?_
  refine W_seq ?_
  refine W_region ?_
  refine wl_cal cal11 rfl rfl rfl ?_
  refine (aw11 _ (F.mem M1) (N.mem M1)).mono ?_
  rintro _ w2 ⟨v2, rfl, ⟨rfl, hb2⟩⟩
  refine ⟨_, rfl, ?_⟩
  have M2 := M1.callB hb2
  refine wl_q (r_notB false rfl rfl) rfl rfl ?_
  refine wl_q (r_move (.bool false) rfl) rfl rfl ?_
  refine wl_q (r_move (.bool (decide _)) rfl) rfl rfl ?_
  refine wl_q (r_not rfl) rfl rfl ?_
  refine wl_q (r_pick false (.bool (decide _)) rfl rfl) rfl rfl ?_
  refine wl_nil ?_
  refine thenN ?_
  refine W_condD rfl (fun h18 => ?_) (fun h18 => ?_)
  · skip
    refine W_seq ?_
    refine W_region ?_
    refine wl_cal cal11 rfl rfl rfl ?_
    refine (aw11 _ (F.mem M2) (N.mem M2)).mono ?_
    rintro _ w3 ⟨v3, rfl, ⟨rfl, hb3⟩⟩
    refine ⟨_, rfl, ?_⟩
    have M3 := M2.callB hb3
    refine wl_q (r_assign (.bool true) rfl) rfl rfl ?_
    refine wl_nil ?_
    refine thenN ?_
    refine W_ret ?_
    refine thenR ?_
    skip
    refine fin1 (.bool true) rfl ?_
    exact ⟨rfl, M3.below⟩
  · skip
    obtain ⟨hV, hve, hvk⟩ := view_of (Decidable.not_not.1 h18)
    have hvl := hV.len
    have hrn : (viewL xs).length = r.n := by simpa using hr.1
    have hvs := hV.s
    have hvo := hV.okb
    refine W_skip ?_
    refine thenN ?_
    refine W_seq ?_
    refine W_region ?_
    refine wl_q (r_move (.slice _ _ _) rfl) rfl rfl ?_
    refine wl_cal cal12 rfl rfl rfl ?_
    refine (pairs_Find _ (F.mem M2) (N.mem M2) _ _ _ (viewL xs) (hr.rd M2 (nthMem (i := 0) rfl)) hvo hvs (by first | decide | omega)).mono ?_
    rintro _ w4 ⟨v4, rfl, ⟨r0, m0, rfl, hfm0, hgm0, hr0, hM4⟩⟩
    refine ⟨_, rfl, ?_⟩
    have M4 : Mem _ _ [_, _] _ := M2.call0 hM4
    have hfl := hr0.1
    rw [List.length_map] at hfl
    rw [hrn] at hgm0
    have hnn : r.n * (r.n - 1) ≤ 40 * 39 := Nat.mul_le_mul (by omega) (by omega)
    have hasc := findP_asc hvs
    refine wl_q (r_move (.tuple (List.toArray _)) rfl) rfl rfl ?_
    refine wl_q (r_ext (.slice _ _ _) rfl rfl) rfl rfl ?_
    refine wl_q (r_ext (.int _ _) rfl rfl) rfl rfl ?_
    refine wl_q (r_assign (.slice _ _ _) rfl) rfl rfl ?_
    refine wl_q (r_assign (.int _ _) rfl) rfl rfl ?_
    refine wl_nil ?_
    refine thenN ?_
    refine W_seq ?_
    refine W_seq ?_
    refine W_region ?_
    refine wl_q (r_assign (.int _ _) rfl) rfl rfl ?_
    refine wl_nil ?_
    refine thenN ?_
    refine W_block ?_
    refine W_loop (σ := Nat) [3, 5, 6] (fun i => [(7, .int .i64 (i : Int))]) (fun i w' => i ≤ r0.n ∧ Mem w [] [r.e, r0.e] w') (fun i => r0.n - i) 0 (agC rfl agN) (⟨by omega, M4⟩) ?_
    rintro i ρ5 w5 ⟨hi, hM5⟩
    refine W_seq ?_
    refine W_seq ?_
    refine W_region ?_
    refine wl_q (r_move (.int _ _) rfl) rfl rfl ?_
    refine wl_q (r_move (.slice _ _ _) rfl) rfl rfl ?_
    refine wl_q (r_lenS Tryd.underlying29 rfl) rfl rfl ?_
    refine wl_q (r_bin (.bool (decide _)) rfl rfl rfl) rfl rfl ?_
    refine wl_nil ?_
    refine thenN ?_
    refine W_condD rfl (fun h28 => ?_) (fun h28 => ?_)
    · skip
      obtain ⟨z, hz⟩ := getSome (xs := findP (viewL xs)) (k := i) hfl (by omega)
      obtain ⟨hz1, hz2, hz3⟩ := findP_lt hvs (List.mem_of_getElem? hz)
      refine W_skip ?_
      refine thenN ?_
      refine W_seq ?_
      refine W_block ?_
      refine W_seq ?_
      refine W_draw [(0, 0), (1, 0), (2, 1), (3, 1), (4, 1), (5, 0), (6, 0), (7, 1), (8, 1), (9, 1), (10, 0), (11, 0), (12, 0), (13, 0), (14, 0), (15, 0), (16, 0), (17, 0), (18, 1), (19, 1), (20, 0), (21, 0), (22, 1), (23, 1), (24, 2), (25, 0), (26, 0), (27, 0), (28, 0), (29, 0), (30, 0), (31, 0), (32, 1), (33, 1), (34, 1), (35, 2), (36, 0), (37, 0), (38, 0), (39, 0), (40, 0), (41, 0), (42, 1), (43, 1), (44, 1), (45, 2), (46, 0), (47, 0)] mixed rfl (by kernel_rfl) (fun w6 hb6 hh6 => ?_)
      have M6 := hM5.drew hb6 hh6
      refine D_p rfl rfl rfl (fun _ => r_move (.slice _ _ _) rfl) ?_
      refine D_p rfl rfl rfl (fun _ => r_move (.int _ _) rfl) ?_
      refine D_r rfl rfl rfl (r_idxR (i) sl29 rfl rfl rfl ((hr0.rd M6 (nthMem (i := 1) rfl)).below_len (mapGet pairCells hz)) ((hr0.rd M6 (nthMem (i := 1) rfl)).someK (mapGet pairCells hz))) ?_
      refine D_r rfl rfl rfl (r_fieldAddrE 0 fld42_0 (hr0.rd M6 (nthMem (i := 1) rfl)) (Nat.lt_of_le_of_lt (Nat.zero_le _) ((hr0.rd M6 (nthMem (i := 1) rfl)).below_len (mapGet pairCells hz))) rfl) ?_
      refine D_r rfl rfl rfl (r_ldE (o := 0) (.int _ _) one25 (hr0.rd M6 (nthMem (i := 1) rfl)) (mapGet pairCells hz) rfl rfl) ?_
      refine D_p rfl rfl rfl (fun _ => r_move (.slice _ _ _) rfl) ?_
      refine D_p rfl rfl rfl (fun _ => r_move (.int _ _) rfl) ?_
      refine D_r rfl rfl rfl (r_idxR (i) sl29 rfl rfl rfl ((hr0.rd M6 (nthMem (i := 1) rfl)).below_len (mapGet pairCells hz)) ((hr0.rd M6 (nthMem (i := 1) rfl)).someK (mapGet pairCells hz))) ?_
      refine D_r rfl rfl rfl (r_fieldAddrE 1 fld42_1 (hr0.rd M6 (nthMem (i := 1) rfl)) (Nat.lt_of_le_of_lt (Nat.zero_le _) ((hr0.rd M6 (nthMem (i := 1) rfl)).below_len (mapGet pairCells hz))) rfl) ?_
      refine D_r rfl rfl rfl (r_ldE (o := 1) (.int _ _) one25 (hr0.rd M6 (nthMem (i := 1) rfl)) (mapGet pairCells hz) rfl rfl) ?_
      refine D_p rfl rfl rfl (fun _ => r_bin (.bool (decide _)) rfl rfl rfl) ?_
      refine D_re 41 (.bool false) (bF (by omega)).symm ?_
      refine D_p rfl rfl rfl (fun _ => r_move (.bool false) rfl) ?_
      refine D_p rfl rfl rfl (fun _ => r_move (.int _ _) rfl) ?_
      refine D_p rfl rfl rfl (fun _ => r_bin (.bool (decide _)) rfl rfl rfl) ?_
      refine D_p rfl rfl rfl (fun _ => r_move (.bool (decide _)) rfl) ?_
      refine D_splitD 45 rfl (fun g45 => ?_) (fun g45 => ?_)
      · skip
        obtain ⟨zp, hzp⟩ := getSome (xs := findP (viewL xs)) (k := i - 1) hfl (by omega)
        have hzz := asc_at hasc (show i - 1 < i by omega) hzp hz
        refine D_p rfl rfl rfl (fun _ => r_move (.slice _ _ _) rfl) ?_
        refine D_p rfl rfl rfl (fun _ => r_move (.int _ _) rfl) ?_
        refine D_p rfl rfl rfl (fun _ => r_sub rfl rfl (by omega) (by omega)) ?_
        refine D_r rfl rfl rfl (r_idxR (i - 1) sl29 rfl rfl (by omega) ((hr0.rd M6 (nthMem (i := 1) rfl)).below_len (mapGet pairCells hzp)) ((hr0.rd M6 (nthMem (i := 1) rfl)).someK (mapGet pairCells hzp))) ?_
        refine D_r rfl rfl rfl (r_ldEA _ agg42 (hr0.rd M6 (nthMem (i := 1) rfl)) (mapGet pairCells hzp) rfl) ?_
        refine D_p rfl rfl rfl (fun _ => r_move (.slice _ _ _) rfl) ?_
        refine D_p rfl rfl rfl (fun _ => r_move (.int _ _) rfl) ?_
        refine D_r rfl rfl rfl (r_idxR (i) sl29 rfl rfl rfl ((hr0.rd M6 (nthMem (i := 1) rfl)).below_len (mapGet pairCells hz)) ((hr0.rd M6 (nthMem (i := 1) rfl)).someK (mapGet pairCells hz))) ?_
        refine D_r rfl rfl rfl (r_ldEA _ agg42 (hr0.rd M6 (nthMem (i := 1) rfl)) (mapGet pairCells hz) rfl) ?_
        refine D_e [true, true, true, true, true, true, true, true, true, true] rfl (by kernel_rfl) ?_
        refine wl_cal cal20 rfl rfl rfl ?_
        refine (ref10_Less _ zp z).mono ?_
        rintro _ w7 ⟨v7, rfl, ⟨rfl, hb7⟩⟩
        refine ⟨_, rfl, ?_⟩
        have M7 := M6.callB hb7
        refine wl_nil (thenN ⟨alN, ?_⟩)
        refine D_re 55 (.bool true) (bT hzz).symm ?_
        refine D_p rfl rfl rfl (fun _ => r_notB false rfl rfl) ?_
        refine D_p rfl rfl rfl (fun _ => r_pick true (.bool false) rfl rfl) ?_
        refine D_p rfl rfl rfl (fun _ => r_pick false (.bool false) rfl rfl) ?_
        refine D_p rfl rfl rfl (fun _ => r_move (.bool false) rfl) ?_
        refine D_p rfl rfl rfl (fun _ => r_move (.slice _ _ _) rfl) ?_
        refine D_p rfl rfl rfl (fun _ => r_move (.slice _ _ _) rfl) ?_
        refine D_p rfl rfl rfl (fun _ => r_move (.int _ _) rfl) ?_
        refine D_r rfl rfl rfl (r_idxR (i) sl29 rfl rfl rfl ((hr0.rd M7 (nthMem (i := 1) rfl)).below_len (mapGet pairCells hz)) ((hr0.rd M7 (nthMem (i := 1) rfl)).someK (mapGet pairCells hz))) ?_
        refine D_r rfl rfl rfl (r_fieldAddrE 0 fld42_0 (hr0.rd M7 (nthMem (i := 1) rfl)) (Nat.lt_of_le_of_lt (Nat.zero_le _) ((hr0.rd M7 (nthMem (i := 1) rfl)).below_len (mapGet pairCells hz))) rfl) ?_
        refine D_r rfl rfl rfl (r_ldE (o := 0) (.int _ _) one25 (hr0.rd M7 (nthMem (i := 1) rfl)) (mapGet pairCells hz) rfl rfl) ?_
        refine D_e [true, true, true] rfl (by kernel_rfl) ?_
        refine wl_cal cal21 rfl rfl rfl ?_
        refine (ref06_Find _ z.1 _ _ _ (viewL xs) (hr.rd M7 (nthMem (i := 0) rfl))).mono ?_
        rintro _ w8 ⟨v8, rfl, ⟨rfl, hb8⟩⟩
        refine ⟨_, rfl, ?_⟩
        have M8 := M7.callB hb8
        refine wl_nil (thenN ⟨alN, ?_⟩)
        refine D_p rfl rfl rfl (fun _ => r_bin (.bool (decide _)) rfl rfl rfl) ?_
        refine D_re 67 (.bool false) (bF (by omega)).symm ?_
        refine D_p rfl rfl rfl (fun _ => r_pick false (.bool false) rfl rfl) ?_
        refine D_p rfl rfl rfl (fun _ => r_move (.bool false) rfl) ?_
        refine D_p rfl rfl rfl (fun _ => r_move (.slice _ _ _) rfl) ?_
        refine D_p rfl rfl rfl (fun _ => r_move (.slice _ _ _) rfl) ?_
        refine D_p rfl rfl rfl (fun _ => r_move (.int _ _) rfl) ?_
        refine D_r rfl rfl rfl (r_idxR (i) sl29 rfl rfl rfl ((hr0.rd M8 (nthMem (i := 1) rfl)).below_len (mapGet pairCells hz)) ((hr0.rd M8 (nthMem (i := 1) rfl)).someK (mapGet pairCells hz))) ?_
        refine D_r rfl rfl rfl (r_fieldAddrE 1 fld42_1 (hr0.rd M8 (nthMem (i := 1) rfl)) (Nat.lt_of_le_of_lt (Nat.zero_le _) ((hr0.rd M8 (nthMem (i := 1) rfl)).below_len (mapGet pairCells hz))) rfl) ?_
        refine D_r rfl rfl rfl (r_ldE (o := 1) (.int _ _) one25 (hr0.rd M8 (nthMem (i := 1) rfl)) (mapGet pairCells hz) rfl rfl) ?_
        refine D_e [true, true, true] rfl (by kernel_rfl) ?_
        refine wl_cal cal21 rfl rfl rfl ?_
        refine (ref06_Find _ z.2 _ _ _ (viewL xs) (hr.rd M8 (nthMem (i := 0) rfl))).mono ?_
        rintro _ w9 ⟨v9, rfl, ⟨rfl, hb9⟩⟩
        refine ⟨_, rfl, ?_⟩
        have M9 := M8.callB hb9
        refine wl_nil (thenN ⟨alN, ?_⟩)
        refine D_p rfl rfl rfl (fun _ => r_bin (.bool (decide _)) rfl rfl rfl) ?_
        refine D_re 77 (.bool false) (bF (by omega)).symm ?_
        refine D_p rfl rfl rfl (fun _ => r_pick false (.bool false) rfl rfl) ?_
        refine D_nil ?_
        refine thenN ?_
        refine W_condF rfl ?_
        refine W_skip ?_
        refine blkN ?_
        refine thenN ?_
        refine W_region ?_
        refine wl_q (r_move (.int _ _) rfl) rfl rfl ?_
        refine wl_q (r_add rfl rfl (by omega) (by omega)) rfl rfl ?_
        refine wl_q (r_assign (.int _ _) rfl) rfl rfl ?_
        refine wl_nil ?_
        refine roundN (i + 1) (agC rfl agN) (akC rfl (akC rfl (akC rfl akN))) ?_ ?_
        · exact ⟨by omega, M9⟩
        · omega
      · skip
        refine D_s rfl rfl rfl ?_
        refine D_s rfl rfl rfl ?_
        refine D_s rfl rfl rfl ?_
        refine D_s1 rfl rfl rfl ?_
        refine D_s1 rfl rfl rfl ?_
        refine D_s rfl rfl rfl ?_
        refine D_s rfl rfl rfl ?_
        refine D_s1 rfl rfl rfl ?_
        refine D_s1 rfl rfl rfl ?_
        refine D_e [true, true, true, true, true, true, true, true, true, true] rfl (by kernel_rfl) ?_
        refine wl_skip rfl rfl ?_
        refine wl_nil (thenN ⟨alN, ?_⟩)
        refine D_s rfl rfl rfl ?_
        refine D_p rfl rfl rfl (fun _ => r_pick false (.bool false) rfl rfl) ?_
        refine D_p rfl rfl rfl (fun _ => r_pick false (.bool false) rfl rfl) ?_
        refine D_p rfl rfl rfl (fun _ => r_move (.bool false) rfl) ?_
        refine D_p rfl rfl rfl (fun _ => r_move (.slice _ _ _) rfl) ?_
        refine D_p rfl rfl rfl (fun _ => r_move (.slice _ _ _) rfl) ?_
        refine D_p rfl rfl rfl (fun _ => r_move (.int _ _) rfl) ?_
        refine D_r rfl rfl rfl (r_idxR (i) sl29 rfl rfl rfl ((hr0.rd M6 (nthMem (i := 1) rfl)).below_len (mapGet pairCells hz)) ((hr0.rd M6 (nthMem (i := 1) rfl)).someK (mapGet pairCells hz))) ?_
        refine D_r rfl rfl rfl (r_fieldAddrE 0 fld42_0 (hr0.rd M6 (nthMem (i := 1) rfl)) (Nat.lt_of_le_of_lt (Nat.zero_le _) ((hr0.rd M6 (nthMem (i := 1) rfl)).below_len (mapGet pairCells hz))) rfl) ?_
        refine D_r rfl rfl rfl (r_ldE (o := 0) (.int _ _) one25 (hr0.rd M6 (nthMem (i := 1) rfl)) (mapGet pairCells hz) rfl rfl) ?_
        refine D_e [true, true, true] rfl (by kernel_rfl) ?_
        refine wl_cal cal21 rfl rfl rfl ?_
        refine (ref06_Find _ z.1 _ _ _ (viewL xs) (hr.rd M6 (nthMem (i := 0) rfl))).mono ?_
        rintro _ w10 ⟨v10, rfl, ⟨rfl, hb10⟩⟩
        refine ⟨_, rfl, ?_⟩
        have M10 := M6.callB hb10
        refine wl_nil (thenN ⟨alN, ?_⟩)
        refine D_p rfl rfl rfl (fun _ => r_bin (.bool (decide _)) rfl rfl rfl) ?_
        refine D_re 67 (.bool false) (bF (by omega)).symm ?_
        refine D_p rfl rfl rfl (fun _ => r_pick false (.bool false) rfl rfl) ?_
        refine D_p rfl rfl rfl (fun _ => r_move (.bool false) rfl) ?_
        refine D_p rfl rfl rfl (fun _ => r_move (.slice _ _ _) rfl) ?_
        refine D_p rfl rfl rfl (fun _ => r_move (.slice _ _ _) rfl) ?_
        refine D_p rfl rfl rfl (fun _ => r_move (.int _ _) rfl) ?_
        refine D_r rfl rfl rfl (r_idxR (i) sl29 rfl rfl rfl ((hr0.rd M10 (nthMem (i := 1) rfl)).below_len (mapGet pairCells hz)) ((hr0.rd M10 (nthMem (i := 1) rfl)).someK (mapGet pairCells hz))) ?_
        refine D_r rfl rfl rfl (r_fieldAddrE 1 fld42_1 (hr0.rd M10 (nthMem (i := 1) rfl)) (Nat.lt_of_le_of_lt (Nat.zero_le _) ((hr0.rd M10 (nthMem (i := 1) rfl)).below_len (mapGet pairCells hz))) rfl) ?_
        refine D_r rfl rfl rfl (r_ldE (o := 1) (.int _ _) one25 (hr0.rd M10 (nthMem (i := 1) rfl)) (mapGet pairCells hz) rfl rfl) ?_
        refine D_e [true, true, true] rfl (by kernel_rfl) ?_
        refine wl_cal cal21 rfl rfl rfl ?_
        refine (ref06_Find _ z.2 _ _ _ (viewL xs) (hr.rd M10 (nthMem (i := 0) rfl))).mono ?_
        rintro _ w11 ⟨v11, rfl, ⟨rfl, hb11⟩⟩
        refine ⟨_, rfl, ?_⟩
        have M11 := M10.callB hb11
        refine wl_nil (thenN ⟨alN, ?_⟩)
        refine D_p rfl rfl rfl (fun _ => r_bin (.bool (decide _)) rfl rfl rfl) ?_
        refine D_re 77 (.bool false) (bF (by omega)).symm ?_
        refine D_p rfl rfl rfl (fun _ => r_pick false (.bool false) rfl rfl) ?_
        refine D_nil ?_
        refine thenN ?_
        refine W_condF rfl ?_
        refine W_skip ?_
        refine blkN ?_
        refine thenN ?_
        refine W_region ?_
        refine wl_q (r_move (.int _ _) rfl) rfl rfl ?_
        refine wl_q (r_add rfl rfl (by omega) (by omega)) rfl rfl ?_
        refine wl_q (r_assign (.int _ _) rfl) rfl rfl ?_
        refine wl_nil ?_
        refine roundN (i + 1) (agC rfl agN) (akC rfl (akC rfl (akC rfl akN))) ?_ ?_
        · exact ⟨by omega, M11⟩
        · omega
    · skip
      refine W_exit ?_
      refine thenX ?_
      refine roundX ?_
      refine blkH ?_
      refine thenN ?_
      refine W_seq ?_
      refine W_region ?_
      refine wl_q (r_move (.int _ _) rfl) rfl rfl ?_
      refine wl_q (r_move (.slice _ _ _) rfl) rfl rfl ?_
      refine wl_q (r_lenS Tryd.underlying29 rfl) rfl rfl ?_
      refine wl_q (r_bin (.bool (decide _)) rfl rfl rfl) rfl rfl ?_
      refine wl_re 82 (.bool true) (bT (by omega)).symm ?_
      refine wl_q (r_move (.bool true) rfl) rfl rfl ?_
      refine wl_q (r_move (.int _ _) rfl) rfl rfl ?_
      refine wl_q (r_move (.slice _ _ _) rfl) rfl rfl ?_
      refine wl_q (r_lenS Tryd.underlying22 rfl) rfl rfl ?_
      refine wl_q (r_move (.slice _ _ _) rfl) rfl rfl ?_
      refine wl_q (r_lenS Tryd.underlying22 rfl) rfl rfl ?_
      refine wl_q (r_sub rfl rfl (by omega) (by omega)) rfl rfl ?_
      refine wl_q (r_mul rfl rfl (by rw [mulpred]; omega) (by rw [mulpred]; omega)) rfl rfl ?_
      refine wl_re 90 (.int .i64 ((r.n * (r.n - 1) : Nat) : Int)) (iE (mulpred _)) ?_
      refine wl_q (r_quo rfl rfl (by decide)) rfl rfl ?_
      refine wl_re 91 (.int .i64 ((r.n * (r.n - 1) / 2 : Nat) : Int)) (iE (quo2 _ (by omega))) ?_
      refine wl_q (r_bin (.bool (decide _)) rfl rfl rfl) rfl rfl ?_
      refine wl_re 92 (.bool true) (bT (by omega)).symm ?_
      refine wl_q (r_pick true (.bool true) rfl rfl) rfl rfl ?_
      refine wl_q (r_assign (.bool true) rfl) rfl rfl ?_
      refine wl_nil ?_
      refine thenN ?_
      refine W_ret ?_
      skip
      refine fin1 (.bool true) rfl ?_
      exact ⟨rfl, hM5.below⟩

end Go.Proofs.YtfgbmegchdjfeaaDoor
