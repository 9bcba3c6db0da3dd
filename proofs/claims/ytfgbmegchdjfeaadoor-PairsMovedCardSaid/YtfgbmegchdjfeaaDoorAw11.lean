/- Walks of Go functions over the frame of this claim: what each computes, for every input of the stated types (Aw11). -/
import Derived.Test.YtfgbmegchdjfeaaDoorTy
import Derived.Test.YtfgbmegchdjfeaaDoorW11
set_option linter.unusedVariables false
set_option linter.unusedSimpArgs false
set_option linter.unnecessarySimpa false
namespace Go.Proofs.YtfgbmegchdjfeaaDoor
open Go.Bil
open Go.RowKit (Below)
open Go.Proofs

theorem aw11_0 : ∀ b ∈ ([bC 1 0 0, bC 2 131072 131072, bC 5 131073 0] : List Body), Okb b := fun b hb => check_ok ((by decide : ∀ b ∈ ([bC 1 0 0, bC 2 131072 131072, bC 5 131073 0] : List Body), check b = 0) b hb)
theorem aw11_1 : findP [bC 1 0 0, bC 2 131072 131072, bC 5 131073 0] = [(1, 2), (2, 5)] := by decide
theorem aw11_2 : withinL [bC 1 0 0, bC 2 131072 131072, bC 5 131073 0] ⟨65536, 0, 65537, 0⟩ = [1, 5] := by decide
theorem aw11_3 : lonB [bC 1 0 0, bC 2 131072 131072, bC 5 131073 0] 1 = false := by decide
theorem aw11_4 : lonB [bC 1 0 0, bC 2 131072 131072, bC 5 131073 0] 9 = false := by decide
theorem aw11_5 : lonB [bC 1 0 0] 1 = true := by decide
theorem aw11_6 : ∀ b ∈ ([bC 1 0 0] : List Body), Okb b := fun b hb => check_ok ((by decide : ∀ b ∈ ([bC 1 0 0] : List Body), check b = 0) b hb)

set_option maxHeartbeats 16000000 in
theorem aw11 (w : World) (F : Rd w 2 (some ⟨0, 0, none⟩) 1 [[.int .u32 73856093, .int .u32 19349663]]) (N : Rd w 4 (some ⟨1, 0, none⟩) 1 [bxCells noneB]) :
    Calls Tryd.prog 11 #[] w (fun ex w' => ∃ v, ex = .returned v ∧ (fun v w' => v = .bool true ∧ Below w.heap.size w w') v w') := by
  refine calls_of_W #[.tmp 0] 48 Tryd.func11 rfl Tryd.results11 Tryd.ntmps11 rfl ?_
  have M0 := Mem.refl w
  refine W_seq ?_
  refine W_region ?_
  refine wl_q (r_assign (.bool false) rfl) rfl rfl ?_
  refine wl_nil ?_
  refine thenN ?_
  refine W_seq ?_
  refine W_region ?_
  refine wl_cal cal28 rfl rfl rfl ?_
  refine (law11_circle _ 1 0 0).mono ?_
  rintro _ w1 ⟨v1, rfl, ⟨rfl, hb1⟩⟩
  refine ⟨_, rfl, ?_⟩
  have M1 := M0.callB hb1
  refine wl_cal cal28 rfl rfl rfl ?_
  refine (law11_circle _ 2 131072 131072).mono ?_
  rintro _ w2 ⟨v2, rfl, ⟨rfl, hb2⟩⟩
  refine ⟨_, rfl, ?_⟩
  have M2 := M1.callB hb2
  refine wl_cal cal28 rfl rfl rfl ?_
  refine (law11_circle _ 5 131073 0).mono ?_
  rintro _ w3 ⟨v3, rfl, ⟨rfl, hb3⟩⟩
  refine ⟨_, rfl, ?_⟩
  have M3 := M2.callB hb3
  refine wl_bslice [.agg (List.toArray _), .agg (List.toArray _), .agg (List.toArray _)] [bodyCells (bC 1 0 0), bodyCells (bC 2 131072 131072), bodyCells (bC 5 131073 0)] rfl sl22 M3 rfl rfl rfl rfl (lens_of rfl) (by decide) (fun b4 w4 M4 => ?_)
  have hlit7 := rowLit (T := 49) (b := b4) ([bC 1 0 0, bC 2 131072 131072, bC 5 131073 0].map bodyCells) (bodies_len _) rfl (by decide)
  refine wl_q (r_assign (.slice _ _ _) rfl) rfl rfl ?_
  refine wl_nil ?_
  refine thenN ?_
  refine W_seq ?_
  refine W_region ?_
  refine wl_q (r_move (.slice _ _ _) rfl) rfl rfl ?_
  refine wl_cal cal12 rfl rfl rfl ?_
  refine (pairs_Find _ (F.mem M4) (N.mem M4) _ _ _ [bC 1 0 0, bC 2 131072 131072, bC 5 131073 0] (hlit7.rd M4 (nthMem (i := 0) rfl)) aw11_0 (adjB_sorted (by decide)) (by first | decide | omega)).mono ?_
  rintro _ w5 ⟨v5, rfl, ⟨r0, m0, rfl, hfm0, hgm0, hr0, hM5⟩⟩
  refine ⟨_, rfl, ?_⟩
  have M5 : Mem _ _ [_, _] _ := M4.call0 hM5
  rw [aw11_1] at hr0 hfm0
  have hm2 : 2 ≤ m0 := hfm0
  have hm6 : 2 * m0 ≤ 6 := hgm0
  refine wl_q (r_move (.tuple (List.toArray _)) rfl) rfl rfl ?_
  refine wl_q (r_ext (.slice _ _ _) rfl rfl) rfl rfl ?_
  refine wl_q (r_ext (.int _ _) rfl rfl) rfl rfl ?_
  refine wl_q (r_assign (.slice _ _ _) rfl) rfl rfl ?_
  refine wl_q (r_assign (.int _ _) rfl) rfl rfl ?_
  refine wl_nil ?_
  refine thenN ?_
  refine W_seq ?_
  refine W_region ?_
  refine wl_q (r_move (.slice _ _ _) rfl) rfl rfl ?_
  refine wl_q (r_build [(0, .int _ _), (1, .int _ _)] _ struct42 rfl rfl) rfl rfl ?_
  refine wl_q (r_build [(0, .int _ _), (1, .int _ _)] _ struct42 rfl rfl) rfl rfl ?_
  refine wl_bslice [.agg (List.toArray _), .agg (List.toArray _)] [pairCells (1, 2), pairCells (2, 5)] rfl sl29 M5 rfl rfl rfl rfl (lens_of rfl) (by decide) (fun b6 w6 M6 => ?_)
  have hlit16 := rowLit (T := 42) (b := b6) (([(1, 2), (2, 5)] : List (Int × Int)).map pairCells) (pairs_len _) rfl (by decide)
  refine wl_cal cal13 rfl rfl rfl ?_
  refine (ref10_SamePairs _ _ _ _ [(1, 2), (2, 5)] (hr0.rd M6 (nthMem (i := 1) rfl)) _ _ _ [(1, 2), (2, 5)] (hlit16.rd M6 (nthMem (i := 2) rfl))).mono ?_
  rintro _ w7 ⟨v7, rfl, ⟨rfl, hb7⟩⟩
  refine ⟨_, rfl, ?_⟩
  have M7 := M6.callB hb7
  refine wl_re 17 (.bool true) (bT rfl).symm ?_
  refine wl_q (r_move (.bool true) rfl) rfl rfl ?_
  refine wl_q (r_move (.int _ _) rfl) rfl rfl ?_
  refine wl_q (r_bin (.bool (decide _)) rfl rfl rfl) rfl rfl ?_
  refine wl_re 20 (.bool true) (bT (by omega)).symm ?_
  refine wl_q (r_pick true (.bool true) rfl rfl) rfl rfl ?_
  refine wl_q (r_move (.bool true) rfl) rfl rfl ?_
  refine wl_q (r_move (.int _ _) rfl) rfl rfl ?_
  refine wl_q (r_bin (.bool (decide _)) rfl rfl rfl) rfl rfl ?_
  refine wl_re 24 (.bool true) (bT (by omega)).symm ?_
  refine wl_q (r_pick true (.bool true) rfl rfl) rfl rfl ?_
  refine wl_q (r_move (.bool true) rfl) rfl rfl ?_
  refine wl_q (r_move (.slice _ _ _) rfl) rfl rfl ?_
  refine wl_q (r_build [(0, .int _ _), (2, .int _ _)] _ struct32 rfl rfl) rfl rfl ?_
  refine wl_cal cal16 rfl rfl rfl ?_
  refine (pairs_Within _ (N.mem M7) _ _ _ [bC 1 0 0, bC 2 131072 131072, bC 5 131073 0] (hlit7.rd M7 (nthMem (i := 0) rfl)) aw11_0 ⟨65536, 0, 65537, 0⟩ (by first | decide | omega)).mono ?_
  rintro _ w8 ⟨v8, rfl, ⟨r1, rfl, hr1, hM8⟩⟩
  refine ⟨_, rfl, ?_⟩
  have M8 : Mem _ _ [_, _, _, _] _ := M7.call0 hM8
  rw [aw11_2] at hr1
  refine wl_bslice [.int _ _, .int _ _] [keyCell 1, keyCell 5] rfl sl36 M8 rfl rfl rfl rfl (lens_of rfl) (by decide) (fun b9 w9 M9 => ?_)
  have hlit30 := rowLit (T := 25) (b := b9) (([1, 5] : List Int).map keyCell) (keys_len _) rfl (by decide)
  refine wl_cal cal15 rfl rfl rfl ?_
  refine (ref07_Keys _ _ _ _ [1, 5] (hr1.rd M9 (nthMem (i := 3) rfl)) _ _ _ [1, 5] (hlit30.rd M9 (nthMem (i := 4) rfl))).mono ?_
  rintro _ w10 ⟨v10, rfl, ⟨rfl, hb10⟩⟩
  refine ⟨_, rfl, ?_⟩
  have M10 := M9.callB hb10
  refine wl_re 31 (.bool true) (bT rfl).symm ?_
  refine wl_q (r_pick true (.bool true) rfl rfl) rfl rfl ?_
  refine wl_q (r_move (.bool true) rfl) rfl rfl ?_
  refine wl_q (r_move (.slice _ _ _) rfl) rfl rfl ?_
  refine wl_cal cal18 rfl rfl rfl ?_
  refine (pairs_Lonely _ 1 (N.mem M10) _ _ _ [bC 1 0 0, bC 2 131072 131072, bC 5 131073 0] (hlit7.rd M10 (nthMem (i := 0) rfl)) aw11_0 (by decide)).mono ?_
  rintro _ w11 ⟨v11, rfl, ⟨rfl, hb11⟩⟩
  refine ⟨_, rfl, ?_⟩
  have M11 := M10.callB hb11
  refine wl_re 35 (.bool false) (congrArg Value.bool aw11_3) ?_
  refine wl_q (r_notB true rfl rfl) rfl rfl ?_
  refine wl_q (r_pick true (.bool true) rfl rfl) rfl rfl ?_
  refine wl_q (r_move (.bool true) rfl) rfl rfl ?_
  refine wl_q (r_move (.slice _ _ _) rfl) rfl rfl ?_
  refine wl_cal cal18 rfl rfl rfl ?_
  refine (pairs_Lonely _ 9 (N.mem M11) _ _ _ [bC 1 0 0, bC 2 131072 131072, bC 5 131073 0] (hlit7.rd M11 (nthMem (i := 0) rfl)) aw11_0 (by decide)).mono ?_
  rintro _ w12 ⟨v12, rfl, ⟨rfl, hb12⟩⟩
  refine ⟨_, rfl, ?_⟩
  have M12 := M11.callB hb12
  refine wl_re 40 (.bool false) (congrArg Value.bool aw11_4) ?_
  refine wl_q (r_notB true rfl rfl) rfl rfl ?_
  refine wl_q (r_pick true (.bool true) rfl rfl) rfl rfl ?_
  refine wl_q (r_move (.bool true) rfl) rfl rfl ?_
  refine wl_q (r_move (.slice _ _ _) rfl) rfl rfl ?_
  refine wl_q (r_slice (0) (1) sl22 rfl rfl ⟨_, rfl⟩ (by decide) (by decide) (by decide)) rfl rfl ?_
  refine wl_cal cal18 rfl rfl rfl ?_
  refine (pairs_Lonely _ 1 (N.mem M12) _ _ _ [bC 1 0 0] (Rd.sub (hlit7.rd M12 (nthMem (i := 0) rfl)) 0 1 (by decide) (by decide) (show 3 ≤ 3 by decide)) aw11_6 (by decide)).mono ?_
  rintro _ w13 ⟨v13, rfl, ⟨rfl, hb13⟩⟩
  refine ⟨_, rfl, ?_⟩
  have M13 := M12.callB hb13
  refine wl_re 46 (.bool true) (congrArg Value.bool aw11_5) ?_
  refine wl_q (r_pick true (.bool true) rfl rfl) rfl rfl ?_
  refine wl_q (r_assign (.bool true) rfl) rfl rfl ?_
  refine wl_nil ?_
  refine thenN ?_
  refine W_ret ?_
  skip
  refine fin1 (.bool true) rfl ?_
  exact ⟨rfl, M13.below⟩

end Go.Proofs.YtfgbmegchdjfeaaDoor
