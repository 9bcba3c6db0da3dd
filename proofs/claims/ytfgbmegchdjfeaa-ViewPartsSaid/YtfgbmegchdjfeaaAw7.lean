/- Walks of Go functions over the frame of this claim: what each computes, for every input of the stated types (Aw7). -/
import Derived.Test.YtfgbmegchdjfeaaTy
import Derived.Test.YtfgbmegchdjfeaaA7
import Derived.Test.YtfgbmegchdjfeaaMd8
set_option linter.unusedVariables false
set_option linter.unusedSimpArgs false
set_option linter.unnecessarySimpa false
namespace Go.Proofs.Ytfgbmegchdjfeaa
open Go.Bil
open Go.RowKit (Below)
open Go.Proofs

set_option maxHeartbeats 16000000 in
theorem aw07 (w : World) :
    Calls Try.prog 6 #[] w (fun ex w' => ∃ v, ex = .returned v ∧ (fun v w' => v = .bool true ∧ Below w.heap.size w w') v w') := by
  refine calls_of_W #[.tmp 0] 95 Try.func6 rfl Try.results6 Try.ntmps6 rfl ?_
  have M0 := Mem.refl w
  refine W_seq ?_
  refine W_region ?_
  refine wl_q (r_assign (.bool false) rfl) rfl rfl ?_
  refine wl_nil ?_
  refine thenN ?_
  refine W_seq ?_
  refine W_region ?_
  refine wl_q (r_build [(0, .int _ _), (1, .int _ _)] _ struct38 rfl rfl) rfl rfl ?_
  refine wl_alloc zero38 M0 rfl rfl (fun b1 w1 M1 => ?_)
  refine wl_stW 0 _ agg38 M1 rfl rfl rfl rfl rfl (ones_of rfl) rfl (fun w2 M2 => ?_)
  refine wl_nil ?_
  refine thenN ?_
  refine W_seq ?_
  refine W_region ?_
  refine wl_q (r_build [(0, .int _ _), (1, .int _ _)] _ struct38 rfl rfl) rfl rfl ?_
  refine wl_alloc zero38 M2 rfl rfl (fun b3 w3 M3 => ?_)
  refine wl_stW 1 _ agg38 M3 rfl rfl rfl rfl rfl (ones_of rfl) rfl (fun w4 M4 => ?_)
  refine wl_nil ?_
  refine thenN ?_
  refine W_seq ?_
  refine W_region ?_
  refine wl_q (r_build [(0, .int _ _), (1, .int _ _)] _ struct38 rfl rfl) rfl rfl ?_
  refine wl_alloc zero38 M4 rfl rfl (fun b5 w5 M5 => ?_)
  refine wl_stW 2 _ agg38 M5 rfl rfl rfl rfl rfl (ones_of rfl) rfl (fun w6 M6 => ?_)
  refine wl_nil ?_
  refine thenN ?_
  refine W_seq ?_
  refine W_region ?_
  refine wl_q (r_ldW 0 agg38 M6 rfl rfl rfl) rfl rfl ?_
  refine wl_q (r_ldW 1 agg38 M6 rfl rfl rfl) rfl rfl ?_
  refine wl_bslice [.agg (List.toArray _), .agg (List.toArray _)] [bodyCells (bK 1), bodyCells (bK 2)] rfl sl22 M6 rfl rfl rfl rfl (lens_of rfl) (by decide) (fun b7 w7 M7 => ?_)
  have hlit18 := rowLit (T := 38) (b := b7) ([bK 1, bK 2].map bodyCells) (bodies_len _) rfl (by decide)
  refine wl_q (r_ldW 1 agg38 M7 rfl rfl rfl) rfl rfl ?_
  refine wl_q (r_ldW 2 agg38 M7 rfl rfl rfl) rfl rfl ?_
  refine wl_bslice [.agg (List.toArray _), .agg (List.toArray _)] [bodyCells (bK 2), bodyCells (bK 3)] rfl sl22 M7 rfl rfl rfl rfl (lens_of rfl) (by decide) (fun b8 w8 M8 => ?_)
  have hlit21 := rowLit (T := 38) (b := b8) ([bK 2, bK 3].map bodyCells) (bodies_len _) rfl (by decide)
  refine wl_cal cal16 rfl rfl rfl ?_
  refine (view_Diff _ _ _ _ [bK 1, bK 2] (hlit18.rd M8 (nthMem (i := 3) rfl)) (by decide) _ _ _ [bK 2, bK 3] (hlit21.rd M8 (nthMem (i := 4) rfl)) (by decide) (adjB_sorted (by decide)) (adjB_sorted (by decide))).mono ?_
  rintro _ w9 ⟨v9, rfl, ⟨q0, q1, q2, hv9, hq0, hq1, hq2, hM9⟩⟩
  refine ⟨_, rfl, ?_⟩
  have M9 : Mem _ _ [_, _, _, _, _, _, _, _] _ := M8.call0 hM9
  rw [aw7_1] at hq0
  rw [aw7_2] at hq1
  rw [aw7_3] at hq2
  subst hv9
  refine wl_alloc zero45 M9 rfl rfl (fun b10 w10 M10 => ?_)
  refine wl_stW 8 _ agg45 M10 rfl rfl rfl rfl rfl (ones_of rfl) rfl (fun w11 M11 => ?_)
  refine wl_nil ?_
  refine thenN ?_
  refine W_seq ?_
  refine W_region ?_
  refine wl_q (r_ldW 2 agg38 M11 rfl rfl rfl) rfl rfl ?_
  refine wl_q (r_ldW 0 agg38 M11 rfl rfl rfl) rfl rfl ?_
  refine wl_bslice [.agg (List.toArray _), .agg (List.toArray _)] [bodyCells (bK 3), bodyCells (bK 1)] rfl sl22 M11 rfl rfl rfl rfl (lens_of rfl) (by decide) (fun b12 w12 M12 => ?_)
  have hlit26 := rowLit (T := 38) (b := b12) ([bK 3, bK 1].map bodyCells) (bodies_len _) rfl (by decide)
  refine wl_cal cal7 rfl rfl rfl ?_
  refine (view_Sort _ _ _ _ [bK 3, bK 1] (hlit26.rd M12 (nthMem (i := 9) rfl)) (by decide)).mono ?_
  rintro _ w13 ⟨v13, rfl, ⟨A13, n13, c13, e13, hv13, hR13, hM13⟩⟩
  refine ⟨_, rfl, ?_⟩
  have M13 : Mem _ _ [_, _, _, _, _, _, _, _, _, _, _] _ := M12.call0 hM13
  simp only [aw7_4] at hv13 hR13
  subst hv13
  refine wl_q (r_move (.tuple (List.toArray _)) rfl) rfl rfl ?_
  refine wl_q (r_ext (.slice _ _ _) rfl rfl) rfl rfl ?_
  refine wl_q (r_ext (.int _ _) rfl rfl) rfl rfl ?_
  refine wl_q (r_assign (.slice _ _ _) rfl) rfl rfl ?_
  refine wl_q (r_assign (.int _ _) rfl) rfl rfl ?_
  refine wl_nil ?_
  refine thenN ?_
  refine W_seq ?_
  refine W_region ?_
  refine wl_q (r_ldW 0 agg38 M13 rfl rfl rfl) rfl rfl ?_
  refine wl_q (r_ldW 0 agg38 M13 rfl rfl rfl) rfl rfl ?_
  refine wl_bslice [.agg (List.toArray _), .agg (List.toArray _)] [bodyCells (bK 1), bodyCells (bK 1)] rfl sl22 M13 rfl rfl rfl rfl (lens_of rfl) (by decide) (fun b14 w14 M14 => ?_)
  have hlit33 := rowLit (T := 38) (b := b14) ([bK 1, bK 1].map bodyCells) (bodies_len _) rfl (by decide)
  refine wl_cal cal7 rfl rfl rfl ?_
  refine (view_Sort _ _ _ _ [bK 1, bK 1] (hlit33.rd M14 (nthMem (i := 11) rfl)) (by decide)).mono ?_
  rintro _ w15 ⟨v15, rfl, ⟨A15, n15, c15, e15, hv15, hR15, hM15⟩⟩
  refine ⟨_, rfl, ?_⟩
  have M15 : Mem _ _ [_, _, _, _, _, _, _, _, _, _, _, _, _] _ := M14.call0 hM15
  simp only [aw7_5] at hv15 hR15
  subst hv15
  refine wl_q (r_move (.tuple (List.toArray _)) rfl) rfl rfl ?_
  refine wl_q (r_ext (.slice _ _ _) rfl rfl) rfl rfl ?_
  refine wl_q (r_ext (.int _ _) rfl rfl) rfl rfl ?_
  refine wl_q (r_assign (.slice _ _ _) rfl) rfl rfl ?_
  refine wl_q (r_assign (.int _ _) rfl) rfl rfl ?_
  refine wl_nil ?_
  refine thenN ?_
  refine W_seq ?_
  refine W_region ?_
  refine wl_q (r_move (.slice _ _ _) rfl) rfl rfl ?_
  refine wl_cal cal12 rfl rfl rfl ?_
  refine (view_Find _ 3 _ _ _ [bK 1, bK 3] (hR13.rd M15 (nthMem (i := 10) rfl)) (adjB_sorted (by decide))).mono ?_
  rintro _ w16 ⟨v16, rfl, ⟨rfl, hb16⟩⟩
  refine ⟨_, rfl, ?_⟩
  have M16 := M15.callB hb16
  refine wl_q (r_move (.tuple (List.toArray _)) rfl) rfl rfl ?_
  refine wl_q (r_ext (.int _ _) rfl rfl) rfl rfl ?_
  refine wl_q (r_ext (.bool (decide _)) rfl rfl) rfl rfl ?_
  refine wl_re 41 (.bool true) (bT aw7_10).symm ?_
  refine wl_q (r_assign (.int _ _) rfl) rfl rfl ?_
  refine wl_q (r_assign (.bool true) rfl) rfl rfl ?_
  refine wl_nil ?_
  refine thenN ?_
  refine W_seq ?_
  refine W_region ?_
  refine wl_q (r_move (.slice _ _ _) rfl) rfl rfl ?_
  refine wl_cal cal12 rfl rfl rfl ?_
  refine (view_Find _ 2 _ _ _ [bK 1, bK 3] (hR13.rd M16 (nthMem (i := 10) rfl)) (adjB_sorted (by decide))).mono ?_
  rintro _ w17 ⟨v17, rfl, ⟨rfl, hb17⟩⟩
  refine ⟨_, rfl, ?_⟩
  have M17 := M16.callB hb17
  refine wl_q (r_move (.tuple (List.toArray _)) rfl) rfl rfl ?_
  refine wl_q (r_ext (.int _ _) rfl rfl) rfl rfl ?_
  refine wl_q (r_ext (.bool (decide _)) rfl rfl) rfl rfl ?_
  refine wl_re 46 (.bool false) (bF aw7_11).symm ?_
  refine wl_q (r_assign (.int _ _) rfl) rfl rfl ?_
  refine wl_q (r_assign (.bool false) rfl) rfl rfl ?_
  refine wl_nil ?_
  refine thenN ?_
  refine W_seq ?_
  refine W_region ?_
  refine wl_q (r_ldW 8 agg45 M17 rfl rfl rfl) rfl rfl ?_
  refine wl_cal cal15 rfl rfl rfl ?_
  refine (law07_change _ q0 q1 q2).mono ?_
  rintro _ w18 ⟨v18, rfl, ⟨rfl, hb18⟩⟩
  refine ⟨_, rfl, ?_⟩
  have M18 := M17.callB hb18
  refine wl_bslice [.int _ _] [keyCell 3] rfl sl41 M18 rfl rfl rfl rfl (lens_of rfl) (by decide) (fun b19 w19 M19 => ?_)
  have hlit49 := rowLit (T := 23) (b := b19) (([3] : List Int).map keyCell) (keys_len _) rfl (by decide)
  refine wl_bslice [.int _ _] [keyCell 1] rfl sl41 M19 rfl rfl rfl rfl (lens_of rfl) (by decide) (fun b20 w20 M20 => ?_)
  have hlit50 := rowLit (T := 23) (b := b20) (([1] : List Int).map keyCell) (keys_len _) rfl (by decide)
  refine wl_q (r_build [(0, .slice _ _ _), (1, .slice _ _ _)] _ struct43 rfl rfl) rfl rfl ?_
  refine wl_cal cal14 rfl rfl rfl ?_
  refine (ref07_Same _ _ _ _ [3] (hq0.rd M20 (nthMem (i := 5) rfl)) _ _ _ [1] (hq1.rd M20 (nthMem (i := 6) rfl)) _ _ _ [] (hq2.rd M20 (nthMem (i := 7) rfl)) _ _ _ [3] (hlit49.rd M20 (nthMem (i := 13) rfl)) _ _ _ [1] (hlit50.rd M20 (nthMem (i := 14) rfl)) _ _ _ [] (Rd.nil _ 1 none)).mono ?_
  rintro _ w21 ⟨v21, rfl, ⟨rfl, hb21⟩⟩
  refine ⟨_, rfl, ?_⟩
  have M21 := M20.callB hb21
  refine wl_re 52 (.bool true) (bT (by decide)).symm ?_
  refine wl_q (r_move (.bool true) rfl) rfl rfl ?_
  refine wl_q (r_move (.slice _ _ _) rfl) rfl rfl ?_
  refine wl_q (r_ldW 0 agg38 M21 rfl rfl rfl) rfl rfl ?_
  refine wl_q (r_ldW 2 agg38 M21 rfl rfl rfl) rfl rfl ?_
  refine wl_bslice [.agg (List.toArray _), .agg (List.toArray _)] [bodyCells (bK 1), bodyCells (bK 3)] rfl sl22 M21 rfl rfl rfl rfl (lens_of rfl) (by decide) (fun b22 w22 M22 => ?_)
  have hlit57 := rowLit (T := 38) (b := b22) ([bK 1, bK 3].map bodyCells) (bodies_len _) rfl (by decide)
  refine wl_cal cal9 rfl rfl rfl ?_
  refine (ref06_Same _ _ _ _ [bK 1, bK 3] (hR13.rd M22 (nthMem (i := 10) rfl)) _ _ _ [bK 1, bK 3] (hlit57.rd M22 (nthMem (i := 15) rfl))).mono ?_
  rintro _ w23 ⟨v23, rfl, ⟨rfl, hb23⟩⟩
  refine ⟨_, rfl, ?_⟩
  have M23 := M22.callB hb23
  refine wl_re 58 (.bool true) (bT (by decide)).symm ?_
  refine wl_q (r_pick true (.bool true) rfl rfl) rfl rfl ?_
  refine wl_q (r_move (.bool true) rfl) rfl rfl ?_
  refine wl_q (r_move (.int _ _) rfl) rfl rfl ?_
  refine wl_q (r_bin (.bool (decide _)) rfl rfl rfl) rfl rfl ?_
  refine wl_re 62 (.bool true) (bT (by decide)).symm ?_
  refine wl_q (r_pick true (.bool true) rfl rfl) rfl rfl ?_
  refine wl_q (r_move (.bool true) rfl) rfl rfl ?_
  refine wl_q (r_move (.int _ _) rfl) rfl rfl ?_
  refine wl_q (r_bin (.bool (decide _)) rfl rfl rfl) rfl rfl ?_
  refine wl_re 66 (.bool true) (bT (by decide)).symm ?_
  refine wl_q (r_pick true (.bool true) rfl rfl) rfl rfl ?_
  refine wl_q (r_move (.bool true) rfl) rfl rfl ?_
  refine wl_q (r_move (.int _ _) rfl) rfl rfl ?_
  refine wl_q (r_bin (.bool (decide _)) rfl rfl rfl) rfl rfl ?_
  refine wl_re 70 (.bool true) (bT (by rw [aw7_6]; rfl)).symm ?_
  refine wl_q (r_pick true (.bool true) rfl rfl) rfl rfl ?_
  refine wl_q (r_move (.bool true) rfl) rfl rfl ?_
  refine wl_q (r_move (.bool true) rfl) rfl rfl ?_
  refine wl_q (r_pick true (.bool true) rfl rfl) rfl rfl ?_
  refine wl_q (r_move (.bool true) rfl) rfl rfl ?_
  refine wl_q (r_move (.int _ _) rfl) rfl rfl ?_
  refine wl_q (r_bin (.bool (decide _)) rfl rfl rfl) rfl rfl ?_
  refine wl_re 77 (.bool true) (bT (by rw [aw7_7]; rfl)).symm ?_
  refine wl_q (r_pick true (.bool true) rfl rfl) rfl rfl ?_
  refine wl_q (r_move (.bool true) rfl) rfl rfl ?_
  refine wl_q (r_move (.bool false) rfl) rfl rfl ?_
  refine wl_q (r_notB true rfl rfl) rfl rfl ?_
  refine wl_q (r_pick true (.bool true) rfl rfl) rfl rfl ?_
  refine wl_q (r_move (.bool true) rfl) rfl rfl ?_
  refine wl_q (r_ldW 1 agg38 M23 rfl rfl rfl) rfl rfl ?_
  refine wl_q (r_ldW 0 agg38 M23 rfl rfl rfl) rfl rfl ?_
  refine wl_bslice [.agg (List.toArray _), .agg (List.toArray _)] [bodyCells (bK 2), bodyCells (bK 1)] rfl sl22 M23 rfl rfl rfl rfl (lens_of rfl) (by decide) (fun b24 w24 M24 => ?_)
  have hlit86 := rowLit (T := 38) (b := b24) ([bK 2, bK 1].map bodyCells) (bodies_len _) rfl (by decide)
  refine wl_cal cal10 rfl rfl rfl ?_
  refine (view_Check _ _ _ _ [bK 2, bK 1] (hlit86.rd M24 (nthMem (i := 16) rfl))).mono ?_
  rintro _ w25 ⟨v25, rfl, ⟨rfl, hb25⟩⟩
  refine ⟨_, rfl, ?_⟩
  have M25 := M24.callB hb25
  refine wl_q (r_bin (.bool (decide _)) rfl rfl rfl) rfl rfl ?_
  refine wl_re 88 (.bool true) (bT aw7_8).symm ?_
  refine wl_q (r_pick true (.bool true) rfl rfl) rfl rfl ?_
  refine wl_q (r_move (.bool true) rfl) rfl rfl ?_
  refine wl_q (r_move (.slice _ _ _) rfl) rfl rfl ?_
  refine wl_cal cal10 rfl rfl rfl ?_
  refine (view_Check _ _ _ _ [bK 1, bK 3] (hR13.rd M25 (nthMem (i := 10) rfl))).mono ?_
  rintro _ w26 ⟨v26, rfl, ⟨rfl, hb26⟩⟩
  refine ⟨_, rfl, ?_⟩
  have M26 := M25.callB hb26
  refine wl_q (r_bin (.bool (decide _)) rfl rfl rfl) rfl rfl ?_
  refine wl_re 93 (.bool true) (bT aw7_9).symm ?_
  refine wl_q (r_pick true (.bool true) rfl rfl) rfl rfl ?_
  refine wl_q (r_assign (.bool true) rfl) rfl rfl ?_
  refine wl_nil ?_
  refine thenN ?_
  refine W_ret ?_
  skip
  refine fin1 (.bool true) rfl ?_
  exact ⟨rfl, M26.below⟩

end Go.Proofs.Ytfgbmegchdjfeaa
