/- Walks of Go functions over the frame of this claim: what each computes, for every input of the stated types (B8). -/
import Derived.Test.YtfgbmegchdjfeaaDoorTy
import Derived.Test.YtfgbmegchdjfeaaDoorR6
import Derived.Test.YtfgbmegchdjfeaaDoorBd
import Derived.Test.YtfgbmegchdjfeaaDoorMdB
import Derived.Test.YtfgbmegchdjfeaaDoorFwN
set_option linter.unusedVariables false
set_option linter.unusedSimpArgs false
set_option linter.unnecessarySimpa false
namespace Go.Proofs.YtfgbmegchdjfeaaDoor
open Go.Bil
open Go.RowKit (Below)
open Go.Proofs

set_option maxHeartbeats 4000000 in
theorem body_abs (w : World) (x : Int) (h0 : -2147483647 ≤ x) (h1 : x ≤ 2147483647) :
    Calls Tryd.prog 67 #[.int .i32 x] w (fun ex w' => ∃ v, ex = .returned v ∧ (fun v w' => v = .int .i32 (max x (-x)) ∧ Below w.heap.size w w') v w') := by
  refine calls_of_W #[.tmp 2] 7 Tryd.func67 rfl Tryd.results67 Tryd.ntmps67 rfl ?_
  have M0 := Mem.refl w
  refine W_seq ?_
  refine W_region ?_
  refine wl_q (r_assign (.int _ _) rfl) rfl rfl ?_
  refine wl_nil ?_
  refine thenN ?_
  refine W_seq ?_
  refine W_region ?_
  refine wl_q (r_move (.int _ _) rfl) rfl rfl ?_
  refine wl_q (r_move (.int _ _) rfl) rfl rfl ?_
  refine wl_q (r_negK rfl (wr32 _ (by omega) (by omega))) rfl rfl ?_
  refine wl_q (r_max2 rfl rfl ) rfl rfl ?_
  refine wl_q (r_assign (.int _ _) rfl) rfl rfl ?_
  refine wl_nil ?_
  refine thenN ?_
  refine W_ret ?_
  skip
  refine fin1 (.int _ _) rfl ?_
  exact ⟨iE (by omega), M0.below⟩

set_option maxHeartbeats 4000000 in
theorem ref05_Abs (w : World) (x : Int) (h0 : -2147483647 ≤ x) (h1 : x ≤ 2147483647) :
    Calls Tryd.prog 39 #[.int .i32 x] w (fun ex w' => ∃ v, ex = .returned v ∧ (fun v w' => v = .int .i32 (max x (-x)) ∧ Below w.heap.size w w') v w') := by
  refine calls_of_W #[.tmp 2] 8 Tryd.func39 rfl Tryd.results39 Tryd.ntmps39 rfl ?_
  have M0 := Mem.refl w
  refine W_seq ?_
  refine W_region ?_
  refine wl_q (r_assign (.int _ _) rfl) rfl rfl ?_
  refine wl_nil ?_
  refine thenN ?_
  refine W_seq ?_
  refine W_seq ?_
  refine W_region ?_
  refine wl_q (r_move (.int _ _) rfl) rfl rfl ?_
  refine wl_q (r_bin (.bool (decide _)) rfl rfl rfl) rfl rfl ?_
  refine wl_nil ?_
  refine thenN ?_
  refine W_condD rfl (fun h4 => ?_) (fun h4 => ?_)
  · skip
    refine W_seq ?_
    refine W_region ?_
    refine wl_q (r_move (.int _ _) rfl) rfl rfl ?_
    refine wl_q (r_negK rfl (wr32 _ (by omega) (by omega))) rfl rfl ?_
    refine wl_q (r_assign (.int _ _) rfl) rfl rfl ?_
    refine wl_nil ?_
    refine thenN ?_
    refine W_ret ?_
    refine thenR ?_
    skip
    refine fin1 (.int _ _) rfl ?_
    exact ⟨iE (by omega), M0.below⟩
  · skip
    refine W_skip ?_
    refine thenN ?_
    refine W_seq ?_
    refine W_region ?_
    refine wl_q (r_move (.int _ _) rfl) rfl rfl ?_
    refine wl_q (r_assign (.int _ _) rfl) rfl rfl ?_
    refine wl_nil ?_
    refine thenN ?_
    refine W_ret ?_
    skip
    refine fin1 (.int _ _) rfl ?_
    exact ⟨iE (by omega), M0.below⟩

set_option maxHeartbeats 4000000 in
theorem body_Extent (w : World) (b : Body) (hb : Okb b) :
    Calls Tryd.prog 57 #[(.agg (bodyCells b).toArray)] w (fun ex w' => ∃ v, ex = .returned v ∧ (fun v w' => v = .tuple #[.int .i32 (extX b), .int .i32 (extY b)] ∧ Below w.heap.size w w') v w') := by
  have hr := hb.r
  have ha := hb.a
  have hp := hb.p
  refine calls_of_W #[.tmp 2, .tmp 3] 18 Tryd.func57 rfl Tryd.results57 Tryd.ntmps57 rfl ?_
  have M0 := Mem.refl w
  refine W_seq ?_
  refine W_region ?_
  refine wl_box (.agg (List.toArray _)) M0 rfl rfl rfl (fun b1 w1 M1 => ?_)
  refine wl_q (r_assign (.int _ _) rfl) rfl rfl ?_
  refine wl_q (r_assign (.int _ _) rfl) rfl rfl ?_
  refine wl_nil ?_
  refine thenN ?_
  refine W_seq ?_
  refine W_draw [(0, 0), (1, 0), (2, 1), (4, 0), (5, 1), (7, 0), (8, 0), (9, 1), (11, 0), (12, 1), (3, 2), (6, 0), (10, 2), (13, 0), (14, 0), (15, 0)] mixed rfl (by kernel_rfl) (fun w2 hb2 hh2 => ?_)
  have M2 := M1.drew hb2 hh2
  refine D_p rfl rfl rfl (fun _ => r_fieldAddr 2 fld49_2 rfl) ?_
  refine D_p rfl rfl rfl (fun _ => r_fieldAddr 0 fld47_0 rfl) ?_
  refine D_r rfl rfl rfl (r_ld 0 (.int _ _) one21 M2 rfl rfl rfl) ?_
  refine D_p rfl rfl rfl (fun _ => r_fieldAddr 1 fld49_1 rfl) ?_
  refine D_r rfl rfl rfl (r_ld 0 (.int _ _) one21 M2 rfl rfl rfl) ?_
  refine D_p rfl rfl rfl (fun _ => r_fieldAddr 2 fld49_2 rfl) ?_
  refine D_p rfl rfl rfl (fun _ => r_fieldAddr 1 fld47_1 rfl) ?_
  refine D_r rfl rfl rfl (r_ld 0 (.int _ _) one21 M2 rfl rfl rfl) ?_
  refine D_p rfl rfl rfl (fun _ => r_fieldAddr 1 fld49_1 rfl) ?_
  refine D_r rfl rfl rfl (r_ld 0 (.int _ _) one21 M2 rfl rfl rfl) ?_
  refine D_e [false, false, false, true] rfl (by kernel_rfl) ?_
  refine wl_cal cal67 rfl rfl rfl ?_
  refine (body_abs _ _ (by omega) (by omega)).mono ?_
  rintro _ w3 ⟨v3, rfl, ⟨rfl, hb3⟩⟩
  refine ⟨_, rfl, ?_⟩
  have M3 := M2.callB hb3
  refine wl_nil (thenN ⟨(alC (Yl_of rfl (r_ld 0 (.int _ _) one21 M3 rfl rfl rfl)) (alC (Yl_of rfl (r_ld 0 (.int _ _) one21 M3 rfl rfl rfl)) (alC (Yl_of rfl (r_ld 0 (.int _ _) one21 M3 rfl rfl rfl)) alN))), ?_⟩)
  refine D_p rfl rfl rfl (fun _ => r_addK rfl rfl (wr32 _ (by omega) (by omega))) ?_
  refine D_e [false, true, false] rfl (by kernel_rfl) ?_
  refine wl_cal cal67 rfl rfl rfl ?_
  refine (body_abs _ _ (by omega) (by omega)).mono ?_
  rintro _ w4 ⟨v4, rfl, ⟨rfl, hb4⟩⟩
  refine ⟨_, rfl, ?_⟩
  have M4 := M3.callB hb4
  refine wl_nil (thenN ⟨(alC (Yl_of rfl (r_ld 0 (.int _ _) one21 M4 rfl rfl rfl)) (alC (Yl_of rfl (r_ld 0 (.int _ _) one21 M4 rfl rfl rfl)) alN)), ?_⟩)
  refine D_p rfl rfl rfl (fun _ => r_addK rfl rfl (wr32 _ (by omega) (by omega))) ?_
  refine D_p rfl rfl rfl (fun _ => r_assign (.int _ _) rfl) ?_
  refine D_p rfl rfl rfl (fun _ => r_assign (.int _ _) rfl) ?_
  refine D_nil ?_
  refine thenN ?_
  refine W_ret ?_
  skip
  refine fin2 (.int _ _) (.int _ _) rfl rfl ?_
  exact ⟨rfl, M4.below⟩

set_option maxHeartbeats 4000000 in
theorem box_Of (w : World) (b : Body) (hb : Okb b) :
    Calls Tryd.prog 36 #[(.agg (bodyCells b).toArray)] w (fun ex w' => ∃ v, ex = .returned v ∧ (fun v w' => v = (.agg (bxCells (boxOf b)).toArray) ∧ Below w.heap.size w w') v w') := by
  have hr := hb.r
  have ha := hb.a
  have hp := hb.p
  have he := ext_le hb
  refine calls_of_W #[.cell 2 32] 31 Tryd.func36 rfl Tryd.results36 Tryd.ntmps36 rfl ?_
  have M0 := Mem.refl w
  refine W_seq ?_
  refine W_region ?_
  refine wl_box (.agg (List.toArray _)) M0 rfl rfl rfl (fun b1 w1 M1 => ?_)
  refine wl_alloc zero32 M1 rfl rfl (fun b2 w2 M2 => ?_)
  refine wl_nil ?_
  refine thenN ?_
  refine W_seq ?_
  refine W_region ?_
  refine wl_q (r_ldW 0 agg49 M2 rfl rfl rfl) rfl rfl ?_
  refine wl_cal cal57 rfl rfl rfl ?_
  refine (body_Extent _ b hb).mono ?_
  rintro _ w3 ⟨v3, rfl, ⟨rfl, hb3⟩⟩
  refine ⟨_, rfl, ?_⟩
  have M3 := M2.callB hb3
  refine wl_q (r_move (.tuple (List.toArray _)) rfl) rfl rfl ?_
  refine wl_q (r_ext (.int _ _) rfl rfl) rfl rfl ?_
  refine wl_q (r_ext (.int _ _) rfl rfl) rfl rfl ?_
  refine wl_q (r_assign (.int _ _) rfl) rfl rfl ?_
  refine wl_q (r_assign (.int _ _) rfl) rfl rfl ?_
  refine wl_nil ?_
  refine thenN ?_
  refine W_seq ?_
  refine W_region ?_
  refine wl_q (r_fieldAddr 6 fld49_5 rfl) rfl rfl ?_
  refine wl_q (r_fieldAddr 0 fld47_0 rfl) rfl rfl ?_
  refine wl_q (r_ld 0 (.int _ _) one21 M3 rfl rfl rfl) rfl rfl ?_
  refine wl_q (r_move (.int _ _) rfl) rfl rfl ?_
  refine wl_q (r_subK rfl rfl (wr32 _ (by omega) (by omega))) rfl rfl ?_
  refine wl_q (r_fieldAddr 6 fld49_5 rfl) rfl rfl ?_
  refine wl_q (r_fieldAddr 1 fld47_1 rfl) rfl rfl ?_
  refine wl_q (r_ld 0 (.int _ _) one21 M3 rfl rfl rfl) rfl rfl ?_
  refine wl_q (r_move (.int _ _) rfl) rfl rfl ?_
  refine wl_q (r_subK rfl rfl (wr32 _ (by omega) (by omega))) rfl rfl ?_
  refine wl_q (r_fieldAddr 6 fld49_5 rfl) rfl rfl ?_
  refine wl_q (r_fieldAddr 0 fld47_0 rfl) rfl rfl ?_
  refine wl_q (r_ld 0 (.int _ _) one21 M3 rfl rfl rfl) rfl rfl ?_
  refine wl_q (r_move (.int _ _) rfl) rfl rfl ?_
  refine wl_q (r_addK rfl rfl (wr32 _ (by omega) (by omega))) rfl rfl ?_
  refine wl_q (r_fieldAddr 6 fld49_5 rfl) rfl rfl ?_
  refine wl_q (r_fieldAddr 1 fld47_1 rfl) rfl rfl ?_
  refine wl_q (r_ld 0 (.int _ _) one21 M3 rfl rfl rfl) rfl rfl ?_
  refine wl_q (r_move (.int _ _) rfl) rfl rfl ?_
  refine wl_q (r_addK rfl rfl (wr32 _ (by omega) (by omega))) rfl rfl ?_
  refine wl_q (r_build [(0, .int _ _), (1, .int _ _), (2, .int _ _), (3, .int _ _)] _ struct32 rfl rfl) rfl rfl ?_
  refine wl_stW 1 _ agg32 M3 rfl rfl rfl rfl rfl (ones_of rfl) rfl (fun w4 M4 => ?_)
  refine wl_nil ?_
  refine thenN ?_
  refine W_ret ?_
  skip
  refine finC1 1 agg32 M4 rfl rfl rfl ?_
  exact ⟨rfl, M4.below⟩

set_option maxHeartbeats 4000000 in
theorem ref08_Of (w : World) (b : Body) (hb : Okb b) :
    Calls Tryd.prog 22 #[(.agg (bodyCells b).toArray)] w (fun ex w' => ∃ v, ex = .returned v ∧ (fun v w' => v = (.agg (bxCells (boxOf b)).toArray) ∧ Below w.heap.size w w') v w') := by
  have hr := hb.r
  have ha := hb.a
  have hp := hb.p
  have he := ext_le hb
  refine calls_of_W #[.cell 2 24] 40 Tryd.func22 rfl Tryd.results22 Tryd.ntmps22 rfl ?_
  have M0 := Mem.refl w
  refine W_seq ?_
  refine W_region ?_
  refine wl_box (.agg (List.toArray _)) M0 rfl rfl rfl (fun b1 w1 M1 => ?_)
  refine wl_alloc zero24 M1 rfl rfl (fun b2 w2 M2 => ?_)
  refine wl_nil ?_
  refine thenN ?_
  refine W_seq ?_
  refine W_draw [(0, 0), (1, 0), (2, 1), (4, 0), (5, 1), (3, 2), (6, 0), (7, 0)] mixed rfl (by kernel_rfl) (fun w3 hb3 hh3 => ?_)
  have M3 := M2.drew hb3 hh3
  refine D_p rfl rfl rfl (fun _ => r_fieldAddr 2 fld49_2 rfl) ?_
  refine D_p rfl rfl rfl (fun _ => r_fieldAddr 0 fld47_0 rfl) ?_
  refine D_r rfl rfl rfl (r_ld 0 (.int _ _) one21 M3 rfl rfl rfl) ?_
  refine D_p rfl rfl rfl (fun _ => r_fieldAddr 1 fld49_1 rfl) ?_
  refine D_r rfl rfl rfl (r_ld 0 (.int _ _) one21 M3 rfl rfl rfl) ?_
  refine D_e [false, true] rfl (by kernel_rfl) ?_
  refine wl_cal cal39 rfl rfl rfl ?_
  refine (ref05_Abs _ _ (by omega) (by omega)).mono ?_
  rintro _ w4 ⟨v4, rfl, ⟨rfl, hb4⟩⟩
  refine ⟨_, rfl, ?_⟩
  have M4 := M3.callB hb4
  refine wl_nil (thenN ⟨(alC (Yl_of rfl (r_ld 0 (.int _ _) one21 M4 rfl rfl rfl)) alN), ?_⟩)
  refine D_p rfl rfl rfl (fun _ => r_addK rfl rfl (wr32 _ (by omega) (by omega))) ?_
  refine D_re 11 (.int .i32 (extX b)) (iE rfl) ?_
  refine D_p rfl rfl rfl (fun _ => r_assign (.int _ _) rfl) ?_
  refine D_nil ?_
  refine thenN ?_
  refine W_seq ?_
  refine W_draw [(0, 0), (1, 0), (2, 1), (4, 0), (5, 1), (3, 2), (6, 0), (7, 0)] mixed rfl (by kernel_rfl) (fun w5 hb5 hh5 => ?_)
  have M5 := M4.drew hb5 hh5
  refine D_p rfl rfl rfl (fun _ => r_fieldAddr 2 fld49_2 rfl) ?_
  refine D_p rfl rfl rfl (fun _ => r_fieldAddr 1 fld47_1 rfl) ?_
  refine D_r rfl rfl rfl (r_ld 0 (.int _ _) one21 M5 rfl rfl rfl) ?_
  refine D_p rfl rfl rfl (fun _ => r_fieldAddr 1 fld49_1 rfl) ?_
  refine D_r rfl rfl rfl (r_ld 0 (.int _ _) one21 M5 rfl rfl rfl) ?_
  refine D_e [false, true] rfl (by kernel_rfl) ?_
  refine wl_cal cal39 rfl rfl rfl ?_
  refine (ref05_Abs _ _ (by omega) (by omega)).mono ?_
  rintro _ w6 ⟨v6, rfl, ⟨rfl, hb6⟩⟩
  refine ⟨_, rfl, ?_⟩
  have M6 := M5.callB hb6
  refine wl_nil (thenN ⟨(alC (Yl_of rfl (r_ld 0 (.int _ _) one21 M6 rfl rfl rfl)) alN), ?_⟩)
  refine D_p rfl rfl rfl (fun _ => r_addK rfl rfl (wr32 _ (by omega) (by omega))) ?_
  refine D_re 18 (.int .i32 (extY b)) (iE rfl) ?_
  refine D_p rfl rfl rfl (fun _ => r_assign (.int _ _) rfl) ?_
  refine D_nil ?_
  refine thenN ?_
  refine W_seq ?_
  refine W_region ?_
  refine wl_q (r_fieldAddr 6 fld49_5 rfl) rfl rfl ?_
  refine wl_q (r_fieldAddr 0 fld47_0 rfl) rfl rfl ?_
  refine wl_q (r_ld 0 (.int _ _) one21 M6 rfl rfl rfl) rfl rfl ?_
  refine wl_q (r_move (.int _ _) rfl) rfl rfl ?_
  refine wl_q (r_subK rfl rfl (wr32 _ (by omega) (by omega))) rfl rfl ?_
  refine wl_q (r_fieldAddr 6 fld49_5 rfl) rfl rfl ?_
  refine wl_q (r_fieldAddr 1 fld47_1 rfl) rfl rfl ?_
  refine wl_q (r_ld 0 (.int _ _) one21 M6 rfl rfl rfl) rfl rfl ?_
  refine wl_q (r_move (.int _ _) rfl) rfl rfl ?_
  refine wl_q (r_subK rfl rfl (wr32 _ (by omega) (by omega))) rfl rfl ?_
  refine wl_q (r_fieldAddr 6 fld49_5 rfl) rfl rfl ?_
  refine wl_q (r_fieldAddr 0 fld47_0 rfl) rfl rfl ?_
  refine wl_q (r_ld 0 (.int _ _) one21 M6 rfl rfl rfl) rfl rfl ?_
  refine wl_q (r_move (.int _ _) rfl) rfl rfl ?_
  refine wl_q (r_addK rfl rfl (wr32 _ (by omega) (by omega))) rfl rfl ?_
  refine wl_q (r_fieldAddr 6 fld49_5 rfl) rfl rfl ?_
  refine wl_q (r_fieldAddr 1 fld47_1 rfl) rfl rfl ?_
  refine wl_q (r_ld 0 (.int _ _) one21 M6 rfl rfl rfl) rfl rfl ?_
  refine wl_q (r_move (.int _ _) rfl) rfl rfl ?_
  refine wl_q (r_addK rfl rfl (wr32 _ (by omega) (by omega))) rfl rfl ?_
  refine wl_q (r_build [(0, .int _ _), (1, .int _ _), (2, .int _ _), (3, .int _ _)] _ struct24 rfl rfl) rfl rfl ?_
  refine wl_stW 1 _ agg24 M6 rfl rfl rfl rfl rfl (ones_of rfl) rfl (fun w7 M7 => ?_)
  refine wl_nil ?_
  refine thenN ?_
  refine W_ret ?_
  skip
  refine finC1 1 agg24 M7 rfl rfl rfl ?_
  exact ⟨rfl, M7.below⟩

set_option maxHeartbeats 4000000 in
theorem box_Empty (w : World) (a : Bx) :
    Calls Tryd.prog 55 #[(.agg (bxCells a).toArray)] w (fun ex w' => ∃ v, ex = .returned v ∧ (fun v w' => v = .bool (decide (emptyB a)) ∧ Below w.heap.size w w') v w') := by
  refine calls_of_W #[.tmp 2] 15 Tryd.func55 rfl Tryd.results55 Tryd.ntmps55 rfl ?_
  have M0 := Mem.refl w
  refine W_seq ?_
  refine W_region ?_
  refine wl_box (.agg (List.toArray _)) M0 rfl rfl rfl (fun b1 w1 M1 => ?_)
  refine wl_q (r_assign (.bool false) rfl) rfl rfl ?_
  refine wl_nil ?_
  refine thenN ?_
  refine W_seq ?_
  refine W_region ?_
  refine wl_q (r_fieldAddr 0 fld32_0 rfl) rfl rfl ?_
  refine wl_q (r_ld 0 (.int _ _) one21 M1 rfl rfl rfl) rfl rfl ?_
  refine wl_q (r_fieldAddr 2 fld32_2 rfl) rfl rfl ?_
  refine wl_q (r_ld 0 (.int _ _) one21 M1 rfl rfl rfl) rfl rfl ?_
  refine wl_q (r_bin (.bool (decide _)) rfl rfl rfl) rfl rfl ?_
  refine wl_q (r_move (.bool (decide _)) rfl) rfl rfl ?_
  refine wl_splitD 8 rfl (fun g8 => ?_) (fun g8 => ?_)
  · skip
    refine wl_skip rfl rfl ?_
    refine wl_skip rfl rfl ?_
    refine wl_skip rfl rfl ?_
    refine wl_skip rfl rfl ?_
    refine wl_skip rfl rfl ?_
    refine wl_q (r_pick true (.bool true) rfl rfl) rfl rfl ?_
    refine wl_q (r_assign (.bool true) rfl) rfl rfl ?_
    refine wl_nil ?_
    refine thenN ?_
    refine W_ret ?_
    skip
    refine fin1 (.bool true) rfl ?_
    exact ⟨by unfold emptyB; first | exact bT (by omega) | exact bD (by omega), M1.below⟩
  · skip
    refine wl_q (r_fieldAddr 1 fld32_1 rfl) rfl rfl ?_
    refine wl_q (r_ld 0 (.int _ _) one21 M1 rfl rfl rfl) rfl rfl ?_
    refine wl_q (r_fieldAddr 3 fld32_3 rfl) rfl rfl ?_
    refine wl_q (r_ld 0 (.int _ _) one21 M1 rfl rfl rfl) rfl rfl ?_
    refine wl_q (r_bin (.bool (decide _)) rfl rfl rfl) rfl rfl ?_
    refine wl_q (r_pick false (.bool (decide _)) rfl rfl) rfl rfl ?_
    refine wl_q (r_assign (.bool (decide _)) rfl) rfl rfl ?_
    refine wl_nil ?_
    refine thenN ?_
    refine W_ret ?_
    skip
    refine fin1 (.bool (decide _)) rfl ?_
    exact ⟨by unfold emptyB; first | exact bT (by omega) | exact bD (by omega), M1.below⟩

set_option maxHeartbeats 4000000 in
theorem ref08_Empty (w : World) (a : Bx) :
    Calls Tryd.prog 54 #[(.agg (bxCells a).toArray)] w (fun ex w' => ∃ v, ex = .returned v ∧ (fun v w' => v = .bool (decide (emptyB a)) ∧ Below w.heap.size w w') v w') := by
  refine calls_of_W #[.tmp 2] 15 Tryd.func54 rfl Tryd.results54 Tryd.ntmps54 rfl ?_
  have M0 := Mem.refl w
  refine W_seq ?_
  refine W_region ?_
  refine wl_box (.agg (List.toArray _)) M0 rfl rfl rfl (fun b1 w1 M1 => ?_)
  refine wl_q (r_assign (.bool false) rfl) rfl rfl ?_
  refine wl_nil ?_
  refine thenN ?_
  refine W_seq ?_
  refine W_region ?_
  refine wl_q (r_fieldAddr 0 fld24_0 rfl) rfl rfl ?_
  refine wl_q (r_ld 0 (.int _ _) one21 M1 rfl rfl rfl) rfl rfl ?_
  refine wl_q (r_fieldAddr 2 fld24_2 rfl) rfl rfl ?_
  refine wl_q (r_ld 0 (.int _ _) one21 M1 rfl rfl rfl) rfl rfl ?_
  refine wl_q (r_bin (.bool (decide _)) rfl rfl rfl) rfl rfl ?_
  refine wl_q (r_move (.bool (decide _)) rfl) rfl rfl ?_
  refine wl_splitD 8 rfl (fun g8 => ?_) (fun g8 => ?_)
  · skip
    refine wl_skip rfl rfl ?_
    refine wl_skip rfl rfl ?_
    refine wl_skip rfl rfl ?_
    refine wl_skip rfl rfl ?_
    refine wl_skip rfl rfl ?_
    refine wl_q (r_pick true (.bool true) rfl rfl) rfl rfl ?_
    refine wl_q (r_assign (.bool true) rfl) rfl rfl ?_
    refine wl_nil ?_
    refine thenN ?_
    refine W_ret ?_
    skip
    refine fin1 (.bool true) rfl ?_
    exact ⟨by unfold emptyB; first | exact bT (by omega) | exact bD (by omega), M1.below⟩
  · skip
    refine wl_q (r_fieldAddr 1 fld24_1 rfl) rfl rfl ?_
    refine wl_q (r_ld 0 (.int _ _) one21 M1 rfl rfl rfl) rfl rfl ?_
    refine wl_q (r_fieldAddr 3 fld24_3 rfl) rfl rfl ?_
    refine wl_q (r_ld 0 (.int _ _) one21 M1 rfl rfl rfl) rfl rfl ?_
    refine wl_q (r_bin (.bool (decide _)) rfl rfl rfl) rfl rfl ?_
    refine wl_q (r_pick false (.bool (decide _)) rfl rfl) rfl rfl ?_
    refine wl_q (r_assign (.bool (decide _)) rfl) rfl rfl ?_
    refine wl_nil ?_
    refine thenN ?_
    refine W_ret ?_
    skip
    refine fin1 (.bool (decide _)) rfl ?_
    exact ⟨by unfold emptyB; first | exact bT (by omega) | exact bD (by omega), M1.below⟩

set_option maxHeartbeats 4000000 in
theorem box_Meet (w : World) (N : Rd w 4 (some ⟨1, 0, none⟩) 1 [bxCells noneB]) (a b : Bx) :
    Calls Tryd.prog 56 #[(.agg (bxCells a).toArray), (.agg (bxCells b).toArray)] w (fun ex w' => ∃ v, ex = .returned v ∧ (fun v w' => v = (.agg (bxCells (meetB a b)).toArray) ∧ Below w.heap.size w w') v w') := by
  refine calls_of_W #[.cell 4 32] 31 Tryd.func56 rfl Tryd.results56 Tryd.ntmps56 rfl ?_
  have M0 := Mem.refl w
  refine W_seq ?_
  refine W_region ?_
  refine wl_box (.agg (List.toArray _)) M0 rfl rfl rfl (fun b1 w1 M1 => ?_)
  refine wl_box (.agg (List.toArray _)) M1 rfl rfl rfl (fun b2 w2 M2 => ?_)
  refine wl_alloc zero32 M2 rfl rfl (fun b3 w3 M3 => ?_)
  refine wl_nil ?_
  refine thenN ?_
  refine W_seq ?_
  refine W_region ?_
  refine wl_q (r_fieldAddr 0 fld32_0 rfl) rfl rfl ?_
  refine wl_q (r_ld 0 (.int _ _) one21 M3 rfl rfl rfl) rfl rfl ?_
  refine wl_q (r_fieldAddr 0 fld32_0 rfl) rfl rfl ?_
  refine wl_q (r_ld 1 (.int _ _) one21 M3 rfl rfl rfl) rfl rfl ?_
  refine wl_q (r_max2 rfl rfl ) rfl rfl ?_
  refine wl_q (r_fieldAddr 1 fld32_1 rfl) rfl rfl ?_
  refine wl_q (r_ld 0 (.int _ _) one21 M3 rfl rfl rfl) rfl rfl ?_
  refine wl_q (r_fieldAddr 1 fld32_1 rfl) rfl rfl ?_
  refine wl_q (r_ld 1 (.int _ _) one21 M3 rfl rfl rfl) rfl rfl ?_
  refine wl_q (r_max2 rfl rfl ) rfl rfl ?_
  refine wl_q (r_fieldAddr 2 fld32_2 rfl) rfl rfl ?_
  refine wl_q (r_ld 0 (.int _ _) one21 M3 rfl rfl rfl) rfl rfl ?_
  refine wl_q (r_fieldAddr 2 fld32_2 rfl) rfl rfl ?_
  refine wl_q (r_ld 1 (.int _ _) one21 M3 rfl rfl rfl) rfl rfl ?_
  refine wl_q (r_min2 rfl rfl ) rfl rfl ?_
  refine wl_q (r_fieldAddr 3 fld32_3 rfl) rfl rfl ?_
  refine wl_q (r_ld 0 (.int _ _) one21 M3 rfl rfl rfl) rfl rfl ?_
  refine wl_q (r_fieldAddr 3 fld32_3 rfl) rfl rfl ?_
  refine wl_q (r_ld 1 (.int _ _) one21 M3 rfl rfl rfl) rfl rfl ?_
  refine wl_q (r_min2 rfl rfl ) rfl rfl ?_
  refine wl_q (r_build [(0, .int _ _), (1, .int _ _), (2, .int _ _), (3, .int _ _)] _ struct32 rfl rfl) rfl rfl ?_
  refine wl_alloc zero32 M3 rfl rfl (fun b4 w4 M4 => ?_)
  refine wl_stW 3 _ agg32 M4 rfl rfl rfl rfl rfl (ones_of rfl) rfl (fun w5 M5 => ?_)
  refine wl_nil ?_
  refine thenN ?_
  refine W_seq ?_
  refine W_seq ?_
  refine W_region ?_
  refine wl_q (r_ldW 3 agg32 M5 rfl rfl rfl) rfl rfl ?_
  refine wl_cal cal55 rfl rfl rfl ?_
  refine (box_Empty _ ⟨max a.x0 b.x0, max a.y0 b.y0, min a.x1 b.x1, min a.y1 b.y1⟩).mono ?_
  rintro _ w6 ⟨v6, rfl, ⟨rfl, hb6⟩⟩
  refine ⟨_, rfl, ?_⟩
  have M6 := M5.callB hb6
  refine wl_nil ?_
  refine thenN ?_
  refine W_condD rfl (fun h28 => ?_) (fun h28 => ?_)
  · skip
    refine W_seq ?_
    refine W_region ?_
    refine wl_q (r_ldEP (k := 0) (o := 0) _ agg32 (N.mem M6) (show ([bxCells noneB] : List (List Value))[0]? = some (bxCells noneB) from rfl) rfl rfl rfl) rfl rfl ?_
    refine wl_stW 2 _ agg32 M6 rfl rfl rfl rfl rfl (ones_of rfl) rfl (fun w7 M7 => ?_)
    refine wl_nil ?_
    refine thenN ?_
    refine W_ret ?_
    refine thenR ?_
    skip
    refine finC1 2 agg32 M7 rfl rfl rfl ?_
    exact ⟨by unfold meetB; rw [if_pos h28]; rfl, M7.below⟩
  · skip
    refine W_skip ?_
    refine thenN ?_
    refine W_seq ?_
    refine W_region ?_
    refine wl_q (r_ldW 3 agg32 M6 rfl rfl rfl) rfl rfl ?_
    refine wl_stW 2 _ agg32 M6 rfl rfl rfl rfl rfl (ones_of rfl) rfl (fun w8 M8 => ?_)
    refine wl_nil ?_
    refine thenN ?_
    refine W_ret ?_
    skip
    refine finC1 2 agg32 M8 rfl rfl rfl ?_
    exact ⟨by unfold meetB; rw [if_neg h28]; rfl, M8.below⟩

set_option maxHeartbeats 4000000 in
theorem box_Overlap (w : World) (N : Rd w 4 (some ⟨1, 0, none⟩) 1 [bxCells noneB]) (a b : Bx) :
    Calls Tryd.prog 35 #[(.agg (bxCells a).toArray), (.agg (bxCells b).toArray)] w (fun ex w' => ∃ v, ex = .returned v ∧ (fun v w' => v = .bool (decide (ovl a b)) ∧ Below w.heap.size w w') v w') := by
  refine calls_of_W #[.tmp 4] 10 Tryd.func35 rfl Tryd.results35 Tryd.ntmps35 rfl ?_
  have M0 := Mem.refl w
  refine W_seq ?_
  refine W_region ?_
  refine wl_box (.agg (List.toArray _)) M0 rfl rfl rfl (fun b1 w1 M1 => ?_)
  refine wl_box (.agg (List.toArray _)) M1 rfl rfl rfl (fun b2 w2 M2 => ?_)
  refine wl_q (r_assign (.bool false) rfl) rfl rfl ?_
  refine wl_nil ?_
  refine thenN ?_
  refine W_seq ?_
  refine W_region ?_
  refine wl_q (r_ldW 0 agg32 M2 rfl rfl rfl) rfl rfl ?_
  refine wl_q (r_ldW 1 agg32 M2 rfl rfl rfl) rfl rfl ?_
  refine wl_cal cal56 rfl rfl rfl ?_
  refine (box_Meet _ (N.mem M2) a b).mono ?_
  rintro _ w3 ⟨v3, rfl, ⟨rfl, hb3⟩⟩
  refine ⟨_, rfl, ?_⟩
  have M3 := M2.callB hb3
  refine wl_cal cal55 rfl rfl rfl ?_
  refine (box_Empty _ (meetB a b)).mono ?_
  rintro _ w4 ⟨v4, rfl, ⟨rfl, hb4⟩⟩
  refine ⟨_, rfl, ?_⟩
  have M4 := M3.callB hb4
  refine wl_q (r_not rfl) rfl rfl ?_
  refine wl_q (r_assign (.bool (decide _)) rfl) rfl rfl ?_
  refine wl_nil ?_
  refine thenN ?_
  refine W_ret ?_
  skip
  refine fin1 (.bool (decide _)) rfl ?_
  exact ⟨bD (meet_ovl a b), M4.below⟩

set_option maxHeartbeats 4000000 in
theorem ref08_Overlap (w : World) (a b : Bx) :
    Calls Tryd.prog 34 #[(.agg (bxCells a).toArray), (.agg (bxCells b).toArray)] w (fun ex w' => ∃ v, ex = .returned v ∧ (fun v w' => v = .bool (decide (ovl a b)) ∧ Below w.heap.size w w') v w') := by
  refine calls_of_W #[.tmp 4] 37 Tryd.func34 rfl Tryd.results34 Tryd.ntmps34 rfl ?_
  have M0 := Mem.refl w
  refine W_seq ?_
  refine W_region ?_
  refine wl_box (.agg (List.toArray _)) M0 rfl rfl rfl (fun b1 w1 M1 => ?_)
  refine wl_box (.agg (List.toArray _)) M1 rfl rfl rfl (fun b2 w2 M2 => ?_)
  refine wl_q (r_assign (.bool false) rfl) rfl rfl ?_
  refine wl_nil ?_
  refine thenN ?_
  refine W_seq ?_
  refine W_seq ?_
  refine W_region ?_
  refine wl_q (r_ldW 0 agg24 M2 rfl rfl rfl) rfl rfl ?_
  refine wl_cal cal54 rfl rfl rfl ?_
  refine (ref08_Empty _ a).mono ?_
  rintro _ w3 ⟨v3, rfl, ⟨rfl, hb3⟩⟩
  refine ⟨_, rfl, ?_⟩
  have M3 := M2.callB hb3
  refine wl_q (r_move (.bool (decide _)) rfl) rfl rfl ?_
  refine wl_splitD 7 rfl (fun g7 => ?_) (fun g7 => ?_)
  · skip
    refine wl_skip rfl rfl ?_
    refine wl_skip rfl rfl ?_
    refine wl_q (r_pick true (.bool true) rfl rfl) rfl rfl ?_
    refine wl_nil ?_
    refine thenN ?_
    refine W_condT rfl ?_
    refine W_seq ?_
    refine W_region ?_
    refine wl_q (r_assign (.bool false) rfl) rfl rfl ?_
    refine wl_nil ?_
    refine thenN ?_
    refine W_ret ?_
    refine thenR ?_
    skip
    refine fin1 (.bool false) rfl ?_
    exact ⟨by unfold ovl; unfold emptyB at *; first | exact bF (by omega) | exact bT (by omega) | exact bD (by omega), M3.below⟩
  · skip
    refine wl_q (r_ldW 1 agg24 M3 rfl rfl rfl) rfl rfl ?_
    refine wl_cal cal54 rfl rfl rfl ?_
    refine (ref08_Empty _ b).mono ?_
    rintro _ w4 ⟨v4, rfl, ⟨rfl, hb4⟩⟩
    refine ⟨_, rfl, ?_⟩
    have M4 := M3.callB hb4
    refine wl_q (r_pick false (.bool (decide _)) rfl rfl) rfl rfl ?_
    refine wl_nil ?_
    refine thenN ?_
    refine W_condD rfl (fun h10 => ?_) (fun h10 => ?_)
    · skip
      refine W_seq ?_
      refine W_region ?_
      refine wl_q (r_assign (.bool false) rfl) rfl rfl ?_
      refine wl_nil ?_
      refine thenN ?_
      refine W_ret ?_
      refine thenR ?_
      skip
      refine fin1 (.bool false) rfl ?_
      exact ⟨by unfold ovl; unfold emptyB at *; first | exact bF (by omega) | exact bT (by omega) | exact bD (by omega), M4.below⟩
    · skip
      refine W_skip ?_
      refine thenN ?_
      refine W_seq ?_
      refine W_region ?_
      refine wl_q (r_fieldAddr 0 fld24_0 rfl) rfl rfl ?_
      refine wl_q (r_ld 0 (.int _ _) one21 M4 rfl rfl rfl) rfl rfl ?_
      refine wl_q (r_fieldAddr 2 fld24_2 rfl) rfl rfl ?_
      refine wl_q (r_ld 1 (.int _ _) one21 M4 rfl rfl rfl) rfl rfl ?_
      refine wl_q (r_bin (.bool (decide _)) rfl rfl rfl) rfl rfl ?_
      refine wl_q (r_move (.bool (decide _)) rfl) rfl rfl ?_
      refine wl_splitD 16 rfl (fun g16 => ?_) (fun g16 => ?_)
      · skip
        refine wl_q (r_fieldAddr 0 fld24_0 rfl) rfl rfl ?_
        refine wl_q (r_ld 1 (.int _ _) one21 M4 rfl rfl rfl) rfl rfl ?_
        refine wl_q (r_fieldAddr 2 fld24_2 rfl) rfl rfl ?_
        refine wl_q (r_ld 0 (.int _ _) one21 M4 rfl rfl rfl) rfl rfl ?_
        refine wl_q (r_bin (.bool (decide _)) rfl rfl rfl) rfl rfl ?_
        refine wl_q (r_pick true (.bool (decide _)) rfl rfl) rfl rfl ?_
        refine wl_q (r_move (.bool (decide _)) rfl) rfl rfl ?_
        refine wl_splitD 23 rfl (fun g23 => ?_) (fun g23 => ?_)
        · skip
          refine wl_q (r_fieldAddr 1 fld24_1 rfl) rfl rfl ?_
          refine wl_q (r_ld 0 (.int _ _) one21 M4 rfl rfl rfl) rfl rfl ?_
          refine wl_q (r_fieldAddr 3 fld24_3 rfl) rfl rfl ?_
          refine wl_q (r_ld 1 (.int _ _) one21 M4 rfl rfl rfl) rfl rfl ?_
          refine wl_q (r_bin (.bool (decide _)) rfl rfl rfl) rfl rfl ?_
          refine wl_q (r_pick true (.bool (decide _)) rfl rfl) rfl rfl ?_
          refine wl_q (r_move (.bool (decide _)) rfl) rfl rfl ?_
          refine wl_splitD 30 rfl (fun g30 => ?_) (fun g30 => ?_)
          · skip
            refine wl_q (r_fieldAddr 1 fld24_1 rfl) rfl rfl ?_
            refine wl_q (r_ld 1 (.int _ _) one21 M4 rfl rfl rfl) rfl rfl ?_
            refine wl_q (r_fieldAddr 3 fld24_3 rfl) rfl rfl ?_
            refine wl_q (r_ld 0 (.int _ _) one21 M4 rfl rfl rfl) rfl rfl ?_
            refine wl_q (r_bin (.bool (decide _)) rfl rfl rfl) rfl rfl ?_
            refine wl_q (r_pick true (.bool (decide _)) rfl rfl) rfl rfl ?_
            refine wl_q (r_assign (.bool (decide _)) rfl) rfl rfl ?_
            refine wl_nil ?_
            refine thenN ?_
            refine W_ret ?_
            skip
            refine fin1 (.bool (decide _)) rfl ?_
            exact ⟨by unfold ovl; unfold emptyB at *; first | exact bF (by omega) | exact bT (by omega) | exact bD (by omega), M4.below⟩
          · skip
            refine wl_skip rfl rfl ?_
            refine wl_skip rfl rfl ?_
            refine wl_skip rfl rfl ?_
            refine wl_skip rfl rfl ?_
            refine wl_skip rfl rfl ?_
            refine wl_q (r_pick false (.bool false) rfl rfl) rfl rfl ?_
            refine wl_q (r_assign (.bool false) rfl) rfl rfl ?_
            refine wl_nil ?_
            refine thenN ?_
            refine W_ret ?_
            skip
            refine fin1 (.bool false) rfl ?_
            exact ⟨by unfold ovl; unfold emptyB at *; first | exact bF (by omega) | exact bT (by omega) | exact bD (by omega), M4.below⟩
        · skip
          refine wl_skip rfl rfl ?_
          refine wl_skip rfl rfl ?_
          refine wl_skip rfl rfl ?_
          refine wl_skip rfl rfl ?_
          refine wl_skip rfl rfl ?_
          refine wl_q (r_pick false (.bool false) rfl rfl) rfl rfl ?_
          refine wl_q (r_move (.bool false) rfl) rfl rfl ?_
          refine wl_skip rfl rfl ?_
          refine wl_skip rfl rfl ?_
          refine wl_skip rfl rfl ?_
          refine wl_skip rfl rfl ?_
          refine wl_skip rfl rfl ?_
          refine wl_q (r_pick false (.bool false) rfl rfl) rfl rfl ?_
          refine wl_q (r_assign (.bool false) rfl) rfl rfl ?_
          refine wl_nil ?_
          refine thenN ?_
          refine W_ret ?_
          skip
          refine fin1 (.bool false) rfl ?_
          exact ⟨by unfold ovl; unfold emptyB at *; first | exact bF (by omega) | exact bT (by omega) | exact bD (by omega), M4.below⟩
      · skip
        refine wl_skip rfl rfl ?_
        refine wl_skip rfl rfl ?_
        refine wl_skip rfl rfl ?_
        refine wl_skip rfl rfl ?_
        refine wl_skip rfl rfl ?_
        refine wl_q (r_pick false (.bool false) rfl rfl) rfl rfl ?_
        refine wl_q (r_move (.bool false) rfl) rfl rfl ?_
        refine wl_skip rfl rfl ?_
        refine wl_skip rfl rfl ?_
        refine wl_skip rfl rfl ?_
        refine wl_skip rfl rfl ?_
        refine wl_skip rfl rfl ?_
        refine wl_q (r_pick false (.bool false) rfl rfl) rfl rfl ?_
        refine wl_q (r_move (.bool false) rfl) rfl rfl ?_
        refine wl_skip rfl rfl ?_
        refine wl_skip rfl rfl ?_
        refine wl_skip rfl rfl ?_
        refine wl_skip rfl rfl ?_
        refine wl_skip rfl rfl ?_
        refine wl_q (r_pick false (.bool false) rfl rfl) rfl rfl ?_
        refine wl_q (r_assign (.bool false) rfl) rfl rfl ?_
        refine wl_nil ?_
        refine thenN ?_
        refine W_ret ?_
        skip
        refine fin1 (.bool false) rfl ?_
        exact ⟨by unfold ovl; unfold emptyB at *; first | exact bF (by omega) | exact bT (by omega) | exact bD (by omega), M4.below⟩

end Go.Proofs.YtfgbmegchdjfeaaDoor
