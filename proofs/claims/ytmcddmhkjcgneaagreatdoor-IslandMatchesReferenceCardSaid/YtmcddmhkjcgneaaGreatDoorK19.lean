/- Part of the proof of the laws of this seat: B8, C9, G10. No conditions. -/
import Derived.Test.YtmcddmhkjcgneaaGreatDoorK5
import Derived.Test.YtmcddmhkjcgneaaGreatDoorK6
import Derived.Test.YtmcddmhkjcgneaaGreatDoorK11
import Derived.Test.YtmcddmhkjcgneaaGreatDoorK13
/- Walks of Go functions over the frame of this claim: what each computes, for every input of the stated types (B8). -/
set_option linter.unusedVariables false
set_option linter.unusedSimpArgs false
set_option linter.unnecessarySimpa false
namespace Go.Proofs.YtmcddmhkjcgneaaGreatDoor
open Go.Bil
open Go.RowKit (Below)
open Go.Proofs

set_option maxHeartbeats 4000000 in
theorem body_abs (w : World) (x : Int) (h0 : -2147483647 ≤ x) (h1 : x ≤ 2147483647) :
    Calls Tryz.prog 101 #[.int .i32 x] w (fun ex w' => ∃ v, ex = .returned v ∧ (fun v w' => v = .int .i32 (max x (-x)) ∧ Below w.heap.size w w') v w') := by
  refine calls_of_W #[.tmp 2] 7 Tryz.func101 rfl Tryz.results101 Tryz.ntmps101 rfl ?_
  have M0 := Mem.refl w
  refine W_seq ?_
  refine W_region ?_
  refine wl_q (r_assign (.int _ _) rfl) rfl rfl ?_
  refine wl_nil ?_
  refine thenN ?_
  refine W_seq ?_
  refine W_region ?_
  refine wl_q (r_move (.int _ _) rfl) rfl rfl ?_
  refine wl_q (r_move (.int _ _) rfl) rfl rfl ?_
  refine wl_q (r_negK rfl (wr32 _ (by omega) (by omega))) rfl rfl ?_
  refine wl_q (r_max2 rfl rfl ) rfl rfl ?_
  refine wl_q (r_assign (.int _ _) rfl) rfl rfl ?_
  refine wl_nil ?_
  refine thenN ?_
  refine W_ret ?_
  skip
  refine fin1 (.int _ _) rfl ?_
  exact ⟨iE (by omega), M0.below⟩

set_option maxHeartbeats 4000000 in
theorem body_Extent (w : World) (b : Body) (hb : Okb b) :
    Calls Tryz.prog 78 #[(.agg (bodyCells b).toArray)] w (fun ex w' => ∃ v, ex = .returned v ∧ (fun v w' => v = .tuple #[.int .i32 (extX b), .int .i32 (extY b)] ∧ Below w.heap.size w w') v w') := by
  have hr := hb.r
  have ha := hb.a
  have hp := hb.p
  refine calls_of_W #[.tmp 2, .tmp 3] 18 Tryz.func78 rfl Tryz.results78 Tryz.ntmps78 rfl ?_
  have M0 := Mem.refl w
  refine W_seq ?_
  refine W_region ?_
  refine wl_box (.agg (List.toArray _)) M0 rfl rfl rfl (fun b1 w1 M1 => ?_)
  refine wl_q (r_assign (.int _ _) rfl) rfl rfl ?_
  refine wl_q (r_assign (.int _ _) rfl) rfl rfl ?_
  refine wl_nil ?_
  refine thenN ?_
  refine W_seq ?_
  refine W_draw [(0, 0), (1, 0), (2, 1), (4, 0), (5, 1), (7, 0), (8, 0), (9, 1), (11, 0), (12, 1), (3, 2), (6, 0), (10, 2), (13, 0), (14, 0), (15, 0)] mixed rfl (by kernel_rfl) (fun w2 hb2 hh2 => ?_)
  have M2 := M1.drew hb2 hh2
  refine D_p rfl rfl rfl (fun _ => r_fieldAddr 2 fld32_2 rfl) ?_
  refine D_p rfl rfl rfl (fun _ => r_fieldAddr 0 fld29_0 rfl) ?_
  refine D_r rfl rfl rfl (r_ld 0 (.int _ _) one21 M2 rfl rfl rfl) ?_
  refine D_p rfl rfl rfl (fun _ => r_fieldAddr 1 fld32_1 rfl) ?_
  refine D_r rfl rfl rfl (r_ld 0 (.int _ _) one21 M2 rfl rfl rfl) ?_
  refine D_p rfl rfl rfl (fun _ => r_fieldAddr 2 fld32_2 rfl) ?_
  refine D_p rfl rfl rfl (fun _ => r_fieldAddr 1 fld29_1 rfl) ?_
  refine D_r rfl rfl rfl (r_ld 0 (.int _ _) one21 M2 rfl rfl rfl) ?_
  refine D_p rfl rfl rfl (fun _ => r_fieldAddr 1 fld32_1 rfl) ?_
  refine D_r rfl rfl rfl (r_ld 0 (.int _ _) one21 M2 rfl rfl rfl) ?_
  refine D_e [false, false, false, true] rfl (by kernel_rfl) ?_
  refine wl_cal cal101 rfl rfl rfl ?_
  refine (body_abs _ _ (by omega) (by omega)).mono ?_
  rintro _ w3 ⟨v3, rfl, ⟨rfl, hb3⟩⟩
  refine ⟨_, rfl, ?_⟩
  have M3 := M2.callB hb3
  refine wl_nil (thenN ⟨(alC (Yl_of rfl (r_ld 0 (.int _ _) one21 M3 rfl rfl rfl)) (alC (Yl_of rfl (r_ld 0 (.int _ _) one21 M3 rfl rfl rfl)) (alC (Yl_of rfl (r_ld 0 (.int _ _) one21 M3 rfl rfl rfl)) alN))), ?_⟩)
  refine D_p rfl rfl rfl (fun _ => r_addK rfl rfl (wr32 _ (by omega) (by omega))) ?_
  refine D_e [false, true, false] rfl (by kernel_rfl) ?_
  refine wl_cal cal101 rfl rfl rfl ?_
  refine (body_abs _ _ (by omega) (by omega)).mono ?_
  rintro _ w4 ⟨v4, rfl, ⟨rfl, hb4⟩⟩
  refine ⟨_, rfl, ?_⟩
  have M4 := M3.callB hb4
  refine wl_nil (thenN ⟨(alC (Yl_of rfl (r_ld 0 (.int _ _) one21 M4 rfl rfl rfl)) (alC (Yl_of rfl (r_ld 0 (.int _ _) one21 M4 rfl rfl rfl)) alN)), ?_⟩)
  refine D_p rfl rfl rfl (fun _ => r_addK rfl rfl (wr32 _ (by omega) (by omega))) ?_
  refine D_p rfl rfl rfl (fun _ => r_assign (.int _ _) rfl) ?_
  refine D_p rfl rfl rfl (fun _ => r_assign (.int _ _) rfl) ?_
  refine D_nil ?_
  refine thenN ?_
  refine W_ret ?_
  skip
  refine fin2 (.int _ _) (.int _ _) rfl rfl ?_
  exact ⟨rfl, M4.below⟩

set_option maxHeartbeats 4000000 in
theorem box_Of (w : World) (b : Body) (hb : Okb b) :
    Calls Tryz.prog 61 #[(.agg (bodyCells b).toArray)] w (fun ex w' => ∃ v, ex = .returned v ∧ (fun v w' => v = (.agg (bxCells (boxOf b)).toArray) ∧ Below w.heap.size w w') v w') := by
  have hr := hb.r
  have ha := hb.a
  have hp := hb.p
  have he := ext_le hb
  refine calls_of_W #[.cell 2 34] 31 Tryz.func61 rfl Tryz.results61 Tryz.ntmps61 rfl ?_
  have M0 := Mem.refl w
  refine W_seq ?_
  refine W_region ?_
  refine wl_box (.agg (List.toArray _)) M0 rfl rfl rfl (fun b1 w1 M1 => ?_)
  refine wl_alloc zero34 M1 rfl rfl (fun b2 w2 M2 => ?_)
  refine wl_nil ?_
  refine thenN ?_
  refine W_seq ?_
  refine W_region ?_
  refine wl_q (r_ldW 0 agg32 M2 rfl rfl rfl) rfl rfl ?_
  refine wl_cal cal78 rfl rfl rfl ?_
  refine (body_Extent _ b hb).mono ?_
  rintro _ w3 ⟨v3, rfl, ⟨rfl, hb3⟩⟩
  refine ⟨_, rfl, ?_⟩
  have M3 := M2.callB hb3
  refine wl_q (r_move (.tuple (List.toArray _)) rfl) rfl rfl ?_
  refine wl_q (r_ext (.int _ _) rfl rfl) rfl rfl ?_
  refine wl_q (r_ext (.int _ _) rfl rfl) rfl rfl ?_
  refine wl_q (r_assign (.int _ _) rfl) rfl rfl ?_
  refine wl_q (r_assign (.int _ _) rfl) rfl rfl ?_
  refine wl_nil ?_
  refine thenN ?_
  refine W_seq ?_
  refine W_region ?_
  refine wl_q (r_fieldAddr 6 fld32_5 rfl) rfl rfl ?_
  refine wl_q (r_fieldAddr 0 fld29_0 rfl) rfl rfl ?_
  refine wl_q (r_ld 0 (.int _ _) one21 M3 rfl rfl rfl) rfl rfl ?_
  refine wl_q (r_move (.int _ _) rfl) rfl rfl ?_
  refine wl_q (r_subK rfl rfl (wr32 _ (by omega) (by omega))) rfl rfl ?_
  refine wl_q (r_fieldAddr 6 fld32_5 rfl) rfl rfl ?_
  refine wl_q (r_fieldAddr 1 fld29_1 rfl) rfl rfl ?_
  refine wl_q (r_ld 0 (.int _ _) one21 M3 rfl rfl rfl) rfl rfl ?_
  refine wl_q (r_move (.int _ _) rfl) rfl rfl ?_
  refine wl_q (r_subK rfl rfl (wr32 _ (by omega) (by omega))) rfl rfl ?_
  refine wl_q (r_fieldAddr 6 fld32_5 rfl) rfl rfl ?_
  refine wl_q (r_fieldAddr 0 fld29_0 rfl) rfl rfl ?_
  refine wl_q (r_ld 0 (.int _ _) one21 M3 rfl rfl rfl) rfl rfl ?_
  refine wl_q (r_move (.int _ _) rfl) rfl rfl ?_
  refine wl_q (r_addK rfl rfl (wr32 _ (by omega) (by omega))) rfl rfl ?_
  refine wl_q (r_fieldAddr 6 fld32_5 rfl) rfl rfl ?_
  refine wl_q (r_fieldAddr 1 fld29_1 rfl) rfl rfl ?_
  refine wl_q (r_ld 0 (.int _ _) one21 M3 rfl rfl rfl) rfl rfl ?_
  refine wl_q (r_move (.int _ _) rfl) rfl rfl ?_
  refine wl_q (r_addK rfl rfl (wr32 _ (by omega) (by omega))) rfl rfl ?_
  refine wl_q (r_build [(0, .int _ _), (1, .int _ _), (2, .int _ _), (3, .int _ _)] _ struct34 rfl rfl) rfl rfl ?_
  refine wl_stW 1 _ agg34 M3 rfl rfl rfl rfl rfl (ones_of rfl) rfl (fun w4 M4 => ?_)
  refine wl_nil ?_
  refine thenN ?_
  refine W_ret ?_
  skip
  refine finC1 1 agg34 M4 rfl rfl rfl ?_
  exact ⟨rfl, M4.below⟩

set_option maxHeartbeats 4000000 in
theorem box_Empty (w : World) (a : Bx) :
    Calls Tryz.prog 64 #[(.agg (bxCells a).toArray)] w (fun ex w' => ∃ v, ex = .returned v ∧ (fun v w' => v = .bool (decide (emptyB a)) ∧ Below w.heap.size w w') v w') := by
  refine calls_of_W #[.tmp 2] 15 Tryz.func64 rfl Tryz.results64 Tryz.ntmps64 rfl ?_
  have M0 := Mem.refl w
  refine W_seq ?_
  refine W_region ?_
  refine wl_box (.agg (List.toArray _)) M0 rfl rfl rfl (fun b1 w1 M1 => ?_)
  refine wl_q (r_assign (.bool false) rfl) rfl rfl ?_
  refine wl_nil ?_
  refine thenN ?_
  refine W_seq ?_
  refine W_region ?_
  refine wl_q (r_fieldAddr 0 fld34_0 rfl) rfl rfl ?_
  refine wl_q (r_ld 0 (.int _ _) one21 M1 rfl rfl rfl) rfl rfl ?_
  refine wl_q (r_fieldAddr 2 fld34_2 rfl) rfl rfl ?_
  refine wl_q (r_ld 0 (.int _ _) one21 M1 rfl rfl rfl) rfl rfl ?_
  refine wl_q (r_bin (.bool (decide _)) rfl rfl rfl) rfl rfl ?_
  refine wl_q (r_move (.bool (decide _)) rfl) rfl rfl ?_
  refine wl_splitD 8 rfl (fun g8 => ?_) (fun g8 => ?_)
  · skip
    refine wl_skip rfl rfl ?_
    refine wl_skip rfl rfl ?_
    refine wl_skip rfl rfl ?_
    refine wl_skip rfl rfl ?_
    refine wl_skip rfl rfl ?_
    refine wl_q (r_pick true (.bool true) rfl rfl) rfl rfl ?_
    refine wl_q (r_assign (.bool true) rfl) rfl rfl ?_
    refine wl_nil ?_
    refine thenN ?_
    refine W_ret ?_
    skip
    refine fin1 (.bool true) rfl ?_
    exact ⟨by unfold emptyB; first | exact bT (by omega) | exact bD (by omega), M1.below⟩
  · skip
    refine wl_q (r_fieldAddr 1 fld34_1 rfl) rfl rfl ?_
    refine wl_q (r_ld 0 (.int _ _) one21 M1 rfl rfl rfl) rfl rfl ?_
    refine wl_q (r_fieldAddr 3 fld34_3 rfl) rfl rfl ?_
    refine wl_q (r_ld 0 (.int _ _) one21 M1 rfl rfl rfl) rfl rfl ?_
    refine wl_q (r_bin (.bool (decide _)) rfl rfl rfl) rfl rfl ?_
    refine wl_q (r_pick false (.bool (decide _)) rfl rfl) rfl rfl ?_
    refine wl_q (r_assign (.bool (decide _)) rfl) rfl rfl ?_
    refine wl_nil ?_
    refine thenN ?_
    refine W_ret ?_
    skip
    refine fin1 (.bool (decide _)) rfl ?_
    exact ⟨by unfold emptyB; first | exact bT (by omega) | exact bD (by omega), M1.below⟩

set_option maxHeartbeats 4000000 in
theorem box_Meet (w : World) (N : Rd w 4 (some ⟨0, 0, none⟩) 1 [bxCells noneB]) (a b : Bx) :
    Calls Tryz.prog 104 #[(.agg (bxCells a).toArray), (.agg (bxCells b).toArray)] w (fun ex w' => ∃ v, ex = .returned v ∧ (fun v w' => v = (.agg (bxCells (meetB a b)).toArray) ∧ Below w.heap.size w w') v w') := by
  refine calls_of_W #[.cell 4 34] 31 Tryz.func104 rfl Tryz.results104 Tryz.ntmps104 rfl ?_
  have M0 := Mem.refl w
  refine W_seq ?_
  refine W_region ?_
  refine wl_box (.agg (List.toArray _)) M0 rfl rfl rfl (fun b1 w1 M1 => ?_)
  refine wl_box (.agg (List.toArray _)) M1 rfl rfl rfl (fun b2 w2 M2 => ?_)
  refine wl_alloc zero34 M2 rfl rfl (fun b3 w3 M3 => ?_)
  refine wl_nil ?_
  refine thenN ?_
  refine W_seq ?_
  refine W_region ?_
  refine wl_q (r_fieldAddr 0 fld34_0 rfl) rfl rfl ?_
  refine wl_q (r_ld 0 (.int _ _) one21 M3 rfl rfl rfl) rfl rfl ?_
  refine wl_q (r_fieldAddr 0 fld34_0 rfl) rfl rfl ?_
  refine wl_q (r_ld 1 (.int _ _) one21 M3 rfl rfl rfl) rfl rfl ?_
  refine wl_q (r_max2 rfl rfl ) rfl rfl ?_
  refine wl_q (r_fieldAddr 1 fld34_1 rfl) rfl rfl ?_
  refine wl_q (r_ld 0 (.int _ _) one21 M3 rfl rfl rfl) rfl rfl ?_
  refine wl_q (r_fieldAddr 1 fld34_1 rfl) rfl rfl ?_
  refine wl_q (r_ld 1 (.int _ _) one21 M3 rfl rfl rfl) rfl rfl ?_
  refine wl_q (r_max2 rfl rfl ) rfl rfl ?_
  refine wl_q (r_fieldAddr 2 fld34_2 rfl) rfl rfl ?_
  refine wl_q (r_ld 0 (.int _ _) one21 M3 rfl rfl rfl) rfl rfl ?_
  refine wl_q (r_fieldAddr 2 fld34_2 rfl) rfl rfl ?_
  refine wl_q (r_ld 1 (.int _ _) one21 M3 rfl rfl rfl) rfl rfl ?_
  refine wl_q (r_min2 rfl rfl ) rfl rfl ?_
  refine wl_q (r_fieldAddr 3 fld34_3 rfl) rfl rfl ?_
  refine wl_q (r_ld 0 (.int _ _) one21 M3 rfl rfl rfl) rfl rfl ?_
  refine wl_q (r_fieldAddr 3 fld34_3 rfl) rfl rfl ?_
  refine wl_q (r_ld 1 (.int _ _) one21 M3 rfl rfl rfl) rfl rfl ?_
  refine wl_q (r_min2 rfl rfl ) rfl rfl ?_
  refine wl_q (r_build [(0, .int _ _), (1, .int _ _), (2, .int _ _), (3, .int _ _)] _ struct34 rfl rfl) rfl rfl ?_
  refine wl_alloc zero34 M3 rfl rfl (fun b4 w4 M4 => ?_)
  refine wl_stW 3 _ agg34 M4 rfl rfl rfl rfl rfl (ones_of rfl) rfl (fun w5 M5 => ?_)
  refine wl_nil ?_
  refine thenN ?_
  refine W_seq ?_
  refine W_seq ?_
  refine W_region ?_
  refine wl_q (r_ldW 3 agg34 M5 rfl rfl rfl) rfl rfl ?_
  refine wl_cal cal64 rfl rfl rfl ?_
  refine (box_Empty _ ⟨max a.x0 b.x0, max a.y0 b.y0, min a.x1 b.x1, min a.y1 b.y1⟩).mono ?_
  rintro _ w6 ⟨v6, rfl, ⟨rfl, hb6⟩⟩
  refine ⟨_, rfl, ?_⟩
  have M6 := M5.callB hb6
  refine wl_nil ?_
  refine thenN ?_
  refine W_condD rfl (fun h28 => ?_) (fun h28 => ?_)
  · skip
    refine W_seq ?_
    refine W_region ?_
    refine wl_q (r_ldEP (k := 0) (o := 0) _ agg34 (N.mem M6) (show ([bxCells noneB] : List (List Value))[0]? = some (bxCells noneB) from rfl) rfl rfl rfl) rfl rfl ?_
    refine wl_stW 2 _ agg34 M6 rfl rfl rfl rfl rfl (ones_of rfl) rfl (fun w7 M7 => ?_)
    refine wl_nil ?_
    refine thenN ?_
    refine W_ret ?_
    refine thenR ?_
    skip
    refine finC1 2 agg34 M7 rfl rfl rfl ?_
    exact ⟨by unfold meetB; rw [if_pos h28]; rfl, M7.below⟩
  · skip
    refine W_skip ?_
    refine thenN ?_
    refine W_seq ?_
    refine W_region ?_
    refine wl_q (r_ldW 3 agg34 M6 rfl rfl rfl) rfl rfl ?_
    refine wl_stW 2 _ agg34 M6 rfl rfl rfl rfl rfl (ones_of rfl) rfl (fun w8 M8 => ?_)
    refine wl_nil ?_
    refine thenN ?_
    refine W_ret ?_
    skip
    refine finC1 2 agg34 M8 rfl rfl rfl ?_
    exact ⟨by unfold meetB; rw [if_neg h28]; rfl, M8.below⟩

set_option maxHeartbeats 4000000 in
theorem box_Overlap (w : World) (N : Rd w 4 (some ⟨0, 0, none⟩) 1 [bxCells noneB]) (a b : Bx) :
    Calls Tryz.prog 90 #[(.agg (bxCells a).toArray), (.agg (bxCells b).toArray)] w (fun ex w' => ∃ v, ex = .returned v ∧ (fun v w' => v = .bool (decide (ovl a b)) ∧ Below w.heap.size w w') v w') := by
  refine calls_of_W #[.tmp 4] 10 Tryz.func90 rfl Tryz.results90 Tryz.ntmps90 rfl ?_
  have M0 := Mem.refl w
  refine W_seq ?_
  refine W_region ?_
  refine wl_box (.agg (List.toArray _)) M0 rfl rfl rfl (fun b1 w1 M1 => ?_)
  refine wl_box (.agg (List.toArray _)) M1 rfl rfl rfl (fun b2 w2 M2 => ?_)
  refine wl_q (r_assign (.bool false) rfl) rfl rfl ?_
  refine wl_nil ?_
  refine thenN ?_
  refine W_seq ?_
  refine W_region ?_
  refine wl_q (r_ldW 0 agg34 M2 rfl rfl rfl) rfl rfl ?_
  refine wl_q (r_ldW 1 agg34 M2 rfl rfl rfl) rfl rfl ?_
  refine wl_cal cal104 rfl rfl rfl ?_
  refine (box_Meet _ (N.mem M2) a b).mono ?_
  rintro _ w3 ⟨v3, rfl, ⟨rfl, hb3⟩⟩
  refine ⟨_, rfl, ?_⟩
  have M3 := M2.callB hb3
  refine wl_cal cal64 rfl rfl rfl ?_
  refine (box_Empty _ (meetB a b)).mono ?_
  rintro _ w4 ⟨v4, rfl, ⟨rfl, hb4⟩⟩
  refine ⟨_, rfl, ?_⟩
  have M4 := M3.callB hb4
  refine wl_q (r_not rfl) rfl rfl ?_
  refine wl_q (r_assign (.bool (decide _)) rfl) rfl rfl ?_
  refine wl_nil ?_
  refine thenN ?_
  refine W_ret ?_
  skip
  refine fin1 (.bool (decide _)) rfl ?_
  exact ⟨bD (meet_ovl a b), M4.below⟩

end Go.Proofs.YtmcddmhkjcgneaaGreatDoor

/- Walks of Go functions over the frame of this claim: what each computes, for every input of the stated types (C9). -/
set_option linter.unusedVariables false
set_option linter.unusedSimpArgs false
set_option linter.unnecessarySimpa false
namespace Go.Proofs.YtmcddmhkjcgneaaGreatDoor
open Go.Bil
open Go.RowKit (Below)
open Go.Proofs

set_option maxHeartbeats 4000000 in
theorem cell_Of (w : World) (x y : Int) :
    Calls Tryz.prog 130 #[.agg [.int .i32 x, .int .i32 y].toArray] w (fun ex w' => ∃ v, ex = .returned v ∧ (fun v w' => v = (.agg (cellCells (cdiv x, cdiv y)).toArray) ∧ Below w.heap.size w w') v w') := by
  refine calls_of_W #[.cell 2 143] 10 Tryz.func130 rfl Tryz.results130 Tryz.ntmps130 rfl ?_
  have M0 := Mem.refl w
  refine W_seq ?_
  refine W_region ?_
  refine wl_box (.agg (List.toArray _)) M0 rfl rfl rfl (fun b1 w1 M1 => ?_)
  refine wl_alloc zero143 M1 rfl rfl (fun b2 w2 M2 => ?_)
  refine wl_nil ?_
  refine thenN ?_
  refine W_seq ?_
  refine W_region ?_
  refine wl_q (r_fieldAddr 0 fld29_0 rfl) rfl rfl ?_
  refine wl_q (r_ld 0 (.int _ _) one21 M2 rfl rfl rfl) rfl rfl ?_
  refine wl_q (r_shr rfl rfl (by decide)) rfl rfl ?_
  refine wl_re 5 (.int .i32 (cdiv x)) (iE (shr22 x)) ?_
  refine wl_q (r_fieldAddr 1 fld29_1 rfl) rfl rfl ?_
  refine wl_q (r_ld 0 (.int _ _) one21 M2 rfl rfl rfl) rfl rfl ?_
  refine wl_q (r_shr rfl rfl (by decide)) rfl rfl ?_
  refine wl_re 8 (.int .i32 (cdiv y)) (iE (shr22 y)) ?_
  refine wl_q (r_build [(0, .int _ _), (1, .int _ _)] _ struct143 rfl rfl) rfl rfl ?_
  refine wl_stW 1 _ agg143 M2 rfl rfl rfl rfl rfl (ones_of rfl) rfl (fun w3 M3 => ?_)
  refine wl_nil ?_
  refine thenN ?_
  refine W_ret ?_
  skip
  refine finC1 1 agg143 M3 rfl rfl rfl ?_
  exact ⟨rfl, M3.below⟩

set_option maxHeartbeats 4000000 in
theorem cell_Span (w : World) (a : Bx) :
    Calls Tryz.prog 118 #[(.agg (bxCells a).toArray)] w (fun ex w' => ∃ v, ex = .returned v ∧ (fun v w' => v = .tuple #[(.agg (cellCells (loC a)).toArray), (.agg (cellCells (hiC a)).toArray), .bool (decide (¬ emptyB a))] ∧ Below w.heap.size w w') v w') := by
  refine calls_of_W #[.cell 2 143, .cell 3 143, .tmp 4] 21 Tryz.func118 rfl Tryz.results118 Tryz.ntmps118 rfl ?_
  have M0 := Mem.refl w
  refine W_seq ?_
  refine W_region ?_
  refine wl_box (.agg (List.toArray _)) M0 rfl rfl rfl (fun b1 w1 M1 => ?_)
  refine wl_alloc zero143 M1 rfl rfl (fun b2 w2 M2 => ?_)
  refine wl_alloc zero143 M2 rfl rfl (fun b3 w3 M3 => ?_)
  refine wl_q (r_assign (.bool false) rfl) rfl rfl ?_
  refine wl_nil ?_
  refine thenN ?_
  refine W_seq ?_
  refine W_seq ?_
  refine W_region ?_
  refine wl_q (r_ldW 0 agg34 M3 rfl rfl rfl) rfl rfl ?_
  refine wl_cal cal64 rfl rfl rfl ?_
  refine (box_Empty _ a).mono ?_
  rintro _ w4 ⟨v4, rfl, ⟨rfl, hb4⟩⟩
  refine ⟨_, rfl, ?_⟩
  have M4 := M3.callB hb4
  refine wl_nil ?_
  refine thenN ?_
  refine W_condD rfl (fun h6 => ?_) (fun h6 => ?_)
  · skip
    refine W_seq ?_
    refine W_draw [(0, 1), (1, 1), (2, 2), (3, 2), (4, 0)] mixed rfl (by kernel_rfl) (fun w5 hb5 hh5 => ?_)
    have M5 := M4.drew hb5 hh5
    refine D_r rfl rfl rfl (r_ldW 1 agg143 M5 rfl rfl rfl) ?_
    refine D_r rfl rfl rfl (r_ldW 2 agg143 M5 rfl rfl rfl) ?_
    refine D_e [false, true] rfl (by kernel_rfl) ?_
    refine wl_stW 1 _ agg143 M5 rfl rfl rfl rfl rfl (ones_of rfl) rfl (fun w6 M6 => ?_)
    refine wl_nil (thenN ⟨(alC (Yl_of rfl (r_ldW 2 agg143 M6 rfl rfl rfl)) alN), ?_⟩)
    refine D_e [true] rfl (by kernel_rfl) ?_
    refine wl_stW 2 _ agg143 M6 rfl rfl rfl rfl rfl (ones_of rfl) rfl (fun w7 M7 => ?_)
    refine wl_nil (thenN ⟨alN, ?_⟩)
    refine D_p rfl rfl rfl (fun _ => r_assign (.bool false) rfl) ?_
    refine D_nil ?_
    refine thenN ?_
    refine W_ret ?_
    refine thenR ?_
    skip
    refine finC3 (v3 := .bool false) 1 2 agg143 M7 rfl rfl rfl rfl rfl rfl rfl ?_
    exact ⟨by unfold loC hiC; rw [if_pos h6, if_pos h6, decide_eq_false (fun h => h h6)]; rfl, M7.below⟩
  · skip
    refine W_skip ?_
    refine thenN ?_
    refine W_seq ?_
    refine W_draw [(0, 0), (1, 1), (2, 0), (3, 1), (4, 0), (6, 0), (7, 1), (8, 0), (9, 1), (10, 0), (5, 2), (11, 2), (12, 2), (13, 2), (14, 0)] mixed rfl (by kernel_rfl) (fun w8 hb8 hh8 => ?_)
    have M8 := M4.drew hb8 hh8
    refine D_p rfl rfl rfl (fun _ => r_fieldAddr 0 fld34_0 rfl) ?_
    refine D_r rfl rfl rfl (r_ld 0 (.int _ _) one21 M8 rfl rfl rfl) ?_
    refine D_p rfl rfl rfl (fun _ => r_fieldAddr 1 fld34_1 rfl) ?_
    refine D_r rfl rfl rfl (r_ld 0 (.int _ _) one21 M8 rfl rfl rfl) ?_
    refine D_p rfl rfl rfl (fun _ => r_build [(0, .int _ _), (1, .int _ _)] _ struct29 rfl rfl) ?_
    refine D_p rfl rfl rfl (fun _ => r_fieldAddr 2 fld34_2 rfl) ?_
    refine D_r rfl rfl rfl (r_ld 0 (.int _ _) one21 M8 rfl rfl rfl) ?_
    refine D_p rfl rfl rfl (fun _ => r_fieldAddr 3 fld34_3 rfl) ?_
    refine D_r rfl rfl rfl (r_ld 0 (.int _ _) one21 M8 rfl rfl rfl) ?_
    refine D_p rfl rfl rfl (fun _ => r_build [(0, .int _ _), (1, .int _ _)] _ struct29 rfl rfl) ?_
    refine D_e [false, false, true, true] rfl (by kernel_rfl) ?_
    refine wl_cal cal130 rfl rfl rfl ?_
    refine (cell_Of _ a.x0 a.y0).mono ?_
    rintro _ w9 ⟨v9, rfl, ⟨rfl, hb9⟩⟩
    refine ⟨_, rfl, ?_⟩
    have M9 := M8.callB hb9
    refine wl_nil (thenN ⟨(alC (Yl_of rfl (r_ld 0 (.int _ _) one21 M9 rfl rfl rfl)) (alC (Yl_of rfl (r_ld 0 (.int _ _) one21 M9 rfl rfl rfl)) alN)), ?_⟩)
    refine D_e [true, true] rfl (by kernel_rfl) ?_
    refine wl_cal cal130 rfl rfl rfl ?_
    refine (cell_Of _ a.x1 a.y1).mono ?_
    rintro _ w10 ⟨v10, rfl, ⟨rfl, hb10⟩⟩
    refine ⟨_, rfl, ?_⟩
    have M10 := M9.callB hb10
    refine wl_nil (thenN ⟨alN, ?_⟩)
    refine D_e [] rfl (by kernel_rfl) ?_
    refine wl_stW 1 _ agg143 M10 rfl rfl rfl rfl rfl (ones_of rfl) rfl (fun w11 M11 => ?_)
    refine wl_nil (thenN ⟨alN, ?_⟩)
    refine D_e [] rfl (by kernel_rfl) ?_
    refine wl_stW 2 _ agg143 M11 rfl rfl rfl rfl rfl (ones_of rfl) rfl (fun w12 M12 => ?_)
    refine wl_nil (thenN ⟨alN, ?_⟩)
    refine D_p rfl rfl rfl (fun _ => r_assign (.bool true) rfl) ?_
    refine D_nil ?_
    refine thenN ?_
    refine W_ret ?_
    skip
    refine finC3 (v3 := .bool true) 1 2 agg143 M12 rfl rfl rfl rfl rfl rfl rfl ?_
    exact ⟨by unfold loC hiC; rw [if_neg h6, if_neg h6, decide_eq_true h6], M12.below⟩

set_option maxHeartbeats 4000000 in
theorem cell_cells (w : World) (a : Bx) :
    Calls Tryz.prog 103 #[(.agg (bxCells a).toArray)] w (fun ex w' => ∃ v, ex = .returned v ∧ (fun v w' => ∃ b1 b2 b3, v = .func (.func 119) #[] #[.pointer (some ⟨b1, 0, none⟩), .pointer (some ⟨b2, 0, none⟩), .pointer (some ⟨b3, 0, none⟩)] ∧ Mem w [] [(some b1, bc (cellCells (loC a)) 143), (some b3, bc (cellCells (hiC a)) 143), (some b2, bc [.bool (decide (¬ emptyB a))] 4)] w') v w') := by
  refine calls_of_W #[.tmp 2] 13 Tryz.func103 rfl Tryz.results103 Tryz.ntmps103 rfl ?_
  have M0 := Mem.refl w
  refine W_seq ?_
  refine W_region ?_
  refine wl_box (.agg (List.toArray _)) M0 rfl rfl rfl (fun b1 w1 M1 => ?_)
  refine wl_q (r_assign (_) rfl) rfl rfl ?_
  refine wl_nil ?_
  refine thenN ?_
  refine W_seq ?_
  refine W_region ?_
  refine wl_q (r_ldW 0 agg34 M1 rfl rfl rfl) rfl rfl ?_
  refine wl_cal cal118 rfl rfl rfl ?_
  refine (cell_Span _ a).mono ?_
  rintro _ w2 ⟨v2, rfl, ⟨rfl, hb2⟩⟩
  refine ⟨_, rfl, ?_⟩
  have M2 := M1.callB hb2
  refine wl_q (r_move (.tuple (List.toArray _)) rfl) rfl rfl ?_
  refine wl_q (r_ext (.agg (List.toArray _)) rfl rfl) rfl rfl ?_
  refine wl_q (r_ext (.agg (List.toArray _)) rfl rfl) rfl rfl ?_
  refine wl_q (r_ext (.bool (decide _)) rfl rfl) rfl rfl ?_
  refine wl_alloc zero143 M2 rfl rfl (fun b3 w3 M3 => ?_)
  refine wl_alloc zero143 M3 rfl rfl (fun b4 w4 M4 => ?_)
  refine wl_alloc zero4 M4 rfl rfl (fun b5 w5 M5 => ?_)
  refine wl_stW 1 _ agg143 M5 rfl rfl rfl rfl rfl (ones_of rfl) rfl (fun w6 M6 => ?_)
  refine wl_stW 2 _ agg143 M6 rfl rfl rfl rfl rfl (ones_of rfl) rfl (fun w7 M7 => ?_)
  refine wl_st 3 (.bool (decide _)) one4 M7 rfl rfl rfl rfl rfl rfl (fun w8 M8 => ?_)
  refine wl_nil ?_
  refine thenN ?_
  refine W_seq ?_
  refine W_region ?_
  refine wl_q (r_makeFuncV [] [.pointer _, .pointer _, .pointer _] rfl rfl) rfl rfl ?_
  refine wl_q (r_assign (.func _ _ _) rfl) rfl rfl ?_
  refine wl_nil ?_
  refine thenN ?_
  refine W_ret ?_
  skip
  refine fin1 (.func _ _ _) rfl ?_
  exact ⟨b3, b5, b4, rfl, M8.keep [false, true, true, true]⟩

set_option maxHeartbeats 4000000 in
theorem cell_cells1 (w : World) (lo hi : Int × Int) (ok : Bool) (b1 b2 b3 : Nat) (L1 : Rd w 2 (some ⟨b1, 0, none⟩) 1 [cellCells lo]) (L2 : Rd w 1 (some ⟨b2, 0, none⟩) 1 [[.bool ok]]) (L3 : Rd w 2 (some ⟨b3, 0, none⟩) 1 [cellCells hi]) (hlo : Okc lo) (hhi : Okc hi) (lp ob : Nat) (rec : Loop) (hY : YieldApp Tryz.prog lp ob rec 141 143 2 1048576 (fun x => ∃ a b, x = [.int .i32 a, .int .i32 b])) (r0 : Row) (hr0 : RowIs 143 2 r0.A r0.n r0.c [] r0.e) (hO : Own [(some lp, .loop rec), (some ob, bc [.slice r0.A r0.n r0.c] 141), r0.e] w) (hd1 : 0 < 1 → ∀ q off, (some ⟨b1, 0, none⟩ : Option Addr) = some ⟨q, off, none⟩ → q ∉ blks [(some lp, .loop rec), (some ob, bc [.slice r0.A r0.n r0.c] 141), r0.e]) (hd2 : 0 < 1 → ∀ q off, (some ⟨b2, 0, none⟩ : Option Addr) = some ⟨q, off, none⟩ → q ∉ blks [(some lp, .loop rec), (some ob, bc [.slice r0.A r0.n r0.c] 141), r0.e]) (hd3 : 0 < 1 → ∀ q off, (some ⟨b3, 0, none⟩ : Option Addr) = some ⟨q, off, none⟩ → q ∉ blks [(some lp, .loop rec), (some ob, bc [.slice r0.A r0.n r0.c] 141), r0.e]) :
    Calls Tryz.prog 119 #[.func (.yield lp) #[] #[], .pointer (some ⟨b1, 0, none⟩), .pointer (some ⟨b2, 0, none⟩), .pointer (some ⟨b3, 0, none⟩)] w (fun ex w' => ∃ v, ex = .returned v ∧ (fun v w' => v = .tuple #[] ∧ ∃ r : Row, RowIs 143 2 r.A r.n r.c ((cellsL ok lo hi).map cellCells) r.e ∧ Mem w (blks [(some lp, .loop rec), (some ob, bc [.slice r0.A r0.n r0.c] 141), r0.e]) [(some lp, .loop rec), (some ob, bc [.slice r.A r.n r.c] 141), r.e] w') v w') := by
  rw [← elt_zero b1, ← elt_zero b2, ← elt_zero b3]
  have hxd : nX lo hi = (hi.1 - lo.1 + 1).toNat := rfl
  have hyd : nY lo hi = (hi.2 - lo.2 + 1).toNat := rfl
  have hlx := hlo.x
  have hly := hlo.y
  have hhx := hhi.x
  have hhy := hhi.y
  have hnx := nX_le hlo hhi
  have hny := nY_le hlo hhi
  refine calls_of_W #[] 32 Tryz.func119 rfl Tryz.results119 Tryz.ntmps119 rfl ?_
  have M0 := hO.mem
  refine W_seq ?_
  refine W_region ?_
  refine wl_q (r_fieldAddrE 1 fld143_1 (L1.memY M0 hd1) (Nat.lt_of_le_of_lt (Nat.zero_le _) ((L1.memY M0 hd1).below_len (show ([cellCells lo] : List (List Value))[0]? = some (cellCells lo) from rfl))) rfl) rfl rfl ?_
  refine wl_q (r_ldE (o := 1) (.int _ _) one21 (L1.memY M0 hd1) (show ([cellCells lo] : List (List Value))[0]? = some (cellCells lo) from rfl) rfl rfl) rfl rfl ?_
  refine wl_q (r_assign (.int _ _) rfl) rfl rfl ?_
  refine wl_nil ?_
  refine thenN ?_
  refine W_block ?_
  refine W_loop (σ := Nat × Row) [0, 1, 2, 3] (fun (j, r) => [(5, .int .i32 (lo.2 + (j : Int)))]) (fun (j, r) w' => (j ≤ nY lo hi ∧ (ok = false → j = 0) ∧ RowIs 143 2 r.A r.n r.c ((rowsC lo hi j).map cellCells) r.e) ∧ Mem w (blks [(some lp, .loop rec), (some ob, bc [.slice r0.A r0.n r0.c] 141), r0.e]) [(some lp, .loop rec), (some ob, bc [.slice r.A r.n r.c] 141), r.e] w') (fun (j, r) => nY lo hi - j) (0, r0) (agC (iv rfl (by simp)) agN) (⟨⟨by omega, fun _ => rfl, hr0⟩, M0⟩) ?_
  rintro ⟨j, r⟩ ρ1 w1 ⟨⟨hj, hjz, hr⟩, hM1⟩
  refine W_seq ?_
  refine W_seq ?_
  refine W_region ?_
  refine wl_q (r_ldE (o := 0) (.bool _) one4 (L2.memY hM1 hd2) (show ([[.bool ok]] : List (List Value))[0]? = some ([.bool ok]) from rfl) rfl rfl) rfl rfl ?_
  refine wl_q (r_move (.bool _) rfl) rfl rfl ?_
  refine wl_split 10 _ rfl (fun g10 => ?_) (fun g10 => ?_)
  · skip
    refine wl_q (r_move (.int _ _) rfl) rfl rfl ?_
    refine wl_q (r_fieldAddrE 1 fld143_1 (L3.memY hM1 hd3) (Nat.lt_of_le_of_lt (Nat.zero_le _) ((L3.memY hM1 hd3).below_len (show ([cellCells hi] : List (List Value))[0]? = some (cellCells hi) from rfl))) rfl) rfl rfl ?_
    refine wl_q (r_ldE (o := 1) (.int _ _) one21 (L3.memY hM1 hd3) (show ([cellCells hi] : List (List Value))[0]? = some (cellCells hi) from rfl) rfl rfl) rfl rfl ?_
    refine wl_q (r_bin (.bool (decide _)) rfl rfl rfl) rfl rfl ?_
    refine wl_q (r_pick true (.bool (decide _)) rfl rfl) rfl rfl ?_
    refine wl_nil ?_
    refine thenN ?_
    refine W_condD rfl (fun h15 => ?_) (fun h15 => ?_)
    · skip
      refine W_skip ?_
      refine thenN ?_
      refine W_seq ?_
      refine W_block ?_
      refine W_seq ?_
      refine W_region ?_
      refine wl_q (r_fieldAddrE 0 fld143_0 (L1.memY hM1 hd1) (Nat.lt_of_le_of_lt (Nat.zero_le _) ((L1.memY hM1 hd1).below_len (show ([cellCells lo] : List (List Value))[0]? = some (cellCells lo) from rfl))) rfl) rfl rfl ?_
      refine wl_q (r_ldE (o := 0) (.int _ _) one21 (L1.memY hM1 hd1) (show ([cellCells lo] : List (List Value))[0]? = some (cellCells lo) from rfl) rfl rfl) rfl rfl ?_
      refine wl_q (r_assign (.int _ _) rfl) rfl rfl ?_
      refine wl_nil ?_
      refine thenN ?_
      refine W_block ?_
      refine W_loop (σ := Nat × Row) [0, 1, 2, 3, 5] (fun (i, q0) => [(6, .int .i32 (lo.1 + (i : Int)))]) (fun (i, q0) w' => (i ≤ nX lo hi ∧ RowIs 143 2 q0.A q0.n q0.c ((rowsC lo hi j ++ rowC lo i j).map cellCells) q0.e) ∧ Mem w (blks [(some lp, .loop rec), (some ob, bc [.slice r0.A r0.n r0.c] 141), r0.e]) [(some lp, .loop rec), (some ob, bc [.slice q0.A q0.n q0.c] 141), q0.e] w') (fun (i, q0) => nX lo hi - i) (0, r) (agC (iv rfl (by simp)) agN) (⟨⟨by omega, by simpa [rowC] using hr⟩, hM1⟩) ?_
      rintro ⟨i, q0⟩ ρ2 w2 ⟨⟨hi2, hq0⟩, hM2⟩
      have hql : (rowsC lo hi j).length + i = q0.n := by simpa [rowC_len] using hq0.1
      refine W_seq ?_
      refine W_seq ?_
      refine W_region ?_
      refine wl_q (r_move (.int _ _) rfl) rfl rfl ?_
      refine wl_q (r_fieldAddrE 0 fld143_0 (L3.memY hM2 hd3) (Nat.lt_of_le_of_lt (Nat.zero_le _) ((L3.memY hM2 hd3).below_len (show ([cellCells hi] : List (List Value))[0]? = some (cellCells hi) from rfl))) rfl) rfl rfl ?_
      refine wl_q (r_ldE (o := 0) (.int _ _) one21 (L3.memY hM2 hd3) (show ([cellCells hi] : List (List Value))[0]? = some (cellCells hi) from rfl) rfl rfl) rfl rfl ?_
      refine wl_q (r_bin (.bool (decide _)) rfl rfl rfl) rfl rfl ?_
      refine wl_nil ?_
      refine thenN ?_
      refine W_condD rfl (fun h23 => ?_) (fun h23 => ?_)
      · skip
        have hlt6 := rowsC_lt (lo := lo) (hi := hi) (i := i) (j := j) hnx (by omega) (by omega)
        refine W_skip ?_
        refine thenN ?_
        refine W_seq ?_
        refine W_block ?_
        refine W_seq ?_
        refine W_regionY ?_
        refine wlY_q (r_move (.func _ _ _) rfl) rfl rfl ?_
        refine wlY_q (r_move (.int _ _) rfl) rfl rfl ?_
        refine wlY_q (r_move (.int _ _) rfl) rfl rfl ?_
        refine wlY_q (r_build [(0, .int _ _), (1, .int _ _)] _ struct143 rfl rfl) rfl rfl ?_
        obtain ⟨fy, ty, ay, by1, hy1, hy2⟩ := hY _ q0 ((rowsC lo hi j ++ rowC lo i j).map cellCells) (cellCells (lo.1 + (i : Int), lo.2 + (j : Int))) ⟨_, _, rfl⟩ (by omega) hq0 (hM2.ownSeg 0 3)
        refine wlY_yield rfl rfl rfl rfl hy1 (hy2.mono ?_)
        rintro _ w3 ⟨rfl, q3, hqn3, hq3, hM3⟩
        have M3 : Mem _ _ [_, _, _] _ := hM2.seg 0 3 hM3
        refine ⟨_, rfl, ?_⟩
        refine wlY_of rfl (fun _ _ h => h) ?_
        refine wl_q (r_notB false rfl rfl) rfl rfl ?_
        refine wl_nil ?_
        refine thenN ?_
        refine W_condF rfl ?_
        refine W_skip ?_
        refine blkN ?_
        refine thenN ?_
        refine W_region ?_
        refine wl_q (r_move (.int _ _) rfl) rfl rfl ?_
        refine wl_q (r_addK rfl rfl (wr32 _ (by omega) (by omega))) rfl rfl ?_
        refine wl_q (r_assign (.int _ _) rfl) rfl rfl ?_
        refine wl_nil ?_
        refine roundN (i + 1, q3) (agC (iv rfl (by omega)) agN) (akC rfl (akC rfl (akC rfl (akC rfl (akC rfl akN))))) ?_ ?_
        · exact ⟨⟨by omega, by rw [rowC_succ, ← List.append_assoc, List.map_append]; exact hq3⟩, M3⟩
        · (show nX lo hi - (i + 1) < nX lo hi - i; omega)
      · skip
        have hix : i = nX lo hi := by omega
        refine W_exit ?_
        refine thenX ?_
        refine roundX ?_
        refine blkH ?_
        refine blkN ?_
        refine thenN ?_
        refine W_region ?_
        refine wl_q (r_move (.int _ _) rfl) rfl rfl ?_
        refine wl_q (r_addK rfl rfl (wr32 _ (by omega) (by omega))) rfl rfl ?_
        refine wl_q (r_assign (.int _ _) rfl) rfl rfl ?_
        refine wl_nil ?_
        refine roundN (j + 1, q0) (agC (iv rfl (by omega)) agN) (akC rfl (akC rfl (akC rfl (akC rfl akN)))) ?_ ?_
        · exact ⟨⟨by omega, fun h => (by rw [g10] at h; cases h), by rw [rowsC_succ, ← hix]; exact hq0⟩, hM2⟩
        · (show nY lo hi - (j + 1) < nY lo hi - j; omega)
    · skip
      refine W_exit ?_
      refine thenX ?_
      refine roundX ?_
      refine blkH ?_
      refine fin0n ?_
      exact ⟨rfl, r, by unfold cellsL; first | (rw [if_pos g10, show nY lo hi = j by omega]; exact hr) | (rw [if_neg (by rw [g10]; decide)]; rw [hjz g10] at hr; exact hr), hM1⟩
  · skip
    refine wl_skip rfl rfl ?_
    refine wl_skip rfl rfl ?_
    refine wl_skip rfl rfl ?_
    refine wl_skip rfl rfl ?_
    refine wl_q (r_pick false (.bool false) rfl rfl) rfl rfl ?_
    refine wl_nil ?_
    refine thenN ?_
    refine W_condF rfl ?_
    refine W_exit ?_
    refine thenX ?_
    refine roundX ?_
    refine blkH ?_
    refine fin0n ?_
    exact ⟨rfl, r, by unfold cellsL; first | (rw [if_pos g10, show nY lo hi = j by omega]; exact hr) | (rw [if_neg (by rw [g10]; decide)]; rw [hjz g10] at hr; exact hr), hM1⟩

set_option maxHeartbeats 4000000 in
theorem cell_All (w : World) (a : Bx) (ha : Okx a) :
    Calls Tryz.prog 87 #[(.agg (bxCells a).toArray)] w (fun ex w' => ∃ v, ex = .returned v ∧ (fun v w' => ∃ r : Row, v = .slice r.A r.n r.c ∧ RowIs 143 2 r.A r.n r.c ((cellsB a).map cellCells) r.e ∧ Mem w [] [r.e] w') v w') := by
  refine calls_of_W2 #[.tmp 2] 13 Tryz.func87 rfl Tryz.results87 Tryz.ntmps87 rfl ?_
  have M0 := Mem.refl w
  refine W2_seq ?_
  refine W2_region0 ?_
  refine wl_box (.agg (List.toArray _)) M0 rfl rfl rfl (fun b1 w1 M1 => ?_)
  refine wl_q (r_assign (.slice _ _ _) rfl) rfl rfl ?_
  refine wl_nil ?_
  refine then2N ?_
  refine W2_seq ?_
  refine W2_region0 ?_
  refine wl_alloc zero141 M1 rfl rfl (fun b2 w2 M2 => ?_)
  refine wl_nil ?_
  refine then2N ?_
  refine W2_seq ?_
  refine W2_seq ?_
  refine W2_region0 ?_
  refine wl_q (r_ldW 0 agg34 M2 rfl rfl rfl) rfl rfl ?_
  refine wl_cal cal103 rfl rfl rfl ?_
  refine (cell_cells _ a).mono ?_
  rintro _ w3 ⟨v3, rfl, ⟨bl, bk, bh, rfl, hM3⟩⟩
  refine ⟨_, rfl, ?_⟩
  have M3 : Mem _ _ [_, _, _, _, _] _ := M2.call0 hM3
  refine wl_nil ?_
  refine then2N ?_
  refine W2_block ?_
  have M4 : Mem _ _ [_, _, _, _, _] _ := ((M3.keep [false, true, true, true, true]).dummy default).perm (List.Perm.cons _ (List.perm_append_comm (l₁ := [_, _, _]) (l₂ := [_])))
  refine W2_range cal119 M4 rfl (fun fnn B lp tmps w1 hρ hn M1 => ?_)
  refine with_yield (P := Tryz.prog) (ob := b2) (Tsl := 141) (Te := 143) (sz := 2) (N := 1048576) (ok := (fun x => ∃ a b, x = [.int .i32 a, .int .i32 b])) M1 ?_ (fun hY => ?_)
  · skip
    intro wr r ls x hok hlt hrow hO
    obtain ⟨xa, xb, rfl⟩ := hok
    refine ⟨_, _, _, _, round_go hO rfl rfl rfl hn (by decide) hρ ?_⟩
    have MR0 := hO.mem
    refine WR_region rfl (fun _ _ h => nomatch h.1) ?_
    refine wl_alloc zero143 MR0 rfl rfl (fun b5 w5 M5 => ?_)
    refine wl_stW 3 _ agg143 M5 rfl rfl rfl rfl rfl (ones_of rfl) rfl (fun w6 M6 => ?_)
    refine wl_nil ?_
    refine ⟨rfl, _, M6, rfl, fun w7 M7 => ?_⟩
    refine WR_block ?_
    refine WR_region rfl (fun _ _ h => nomatch h.1) ?_
    refine wl_q (r_ld 1 (.slice _ _ _) one141 M7 rfl rfl rfl) rfl rfl ?_
    refine wl_q (r_ldW 3 agg143 M7 rfl rfl rfl) rfl rfl ?_
    refine wl_bslice [.agg (List.toArray _)] [[.int .i32 xa, .int .i32 xb]] rfl sl141 M7 rfl rfl rfl rfl (lens_of rfl) (by decide) (fun b8 w8 M8 => ?_)
    refine wl_append 2 [[.int .i32 xa, .int .i32 xb]] sl141 M8 rfl rfl rfl rfl rfl hrow rfl (by simp [Go.Bil.one]) (Cells.ofMem 4 M8 rfl) (by omega) (fun A9 c9 e9 w9 M9 hR9 => ?_)
    refine wl_st 1 (.slice _ _ _) one141 M9 rfl rfl rfl rfl rfl rfl (fun w10 M10 => ?_)
    refine wl_nil ?_
    refine blkN ?_
    refine ⟨rfl, _, M10, rfl, fun w11 M11 => ?_⟩
    exact ⟨⟨A9, r.n + 1, c9, e9⟩, rfl, hR9, M11.keep [true, true, true, false, false]⟩
  · skip
    refine (cell_cells1 _ (loC a) (hiC a) _ bl bk bh (rdOf 3 M1 rfl rfl) (rdOf 5 M1 rfl rfl) (rdOf 4 M1 rfl rfl) (loC_ok ha) (hiC_ok ha) lp b2 _ hY ⟨none, 0, 0, (none, default)⟩ (RowIs.nil _ _ _) (M1.ownSeg 0 3) (M1.apartTake 3 3 rfl rfl) (M1.apartTake 3 5 rfl rfl) (M1.apartTake 3 4 rfl rfl)).mono ?_
    rintro _ w5 ⟨v5, rfl, rfl, r, hr, hM⟩
    have M5 : Mem _ _ (_ :: [_, _, _, _, _, _]) _ := M1.seg 0 3 hM
    refine ⟨_, rfl, _, M5, fun w6 M6 => ?_⟩
    refine blk2N ?_
    refine then2N ?_
    refine W2_seq ?_
    refine W2_region ?_
    refine wl2_q (r_ld 1 (.slice _ _ _) one141 M6 rfl rfl rfl) rfl rfl ?_
    refine wl2_q (r_assign (.slice _ _ _) rfl) rfl rfl ?_
    refine wl2_nil ?_
    refine then2N ?_
    refine W2_ret ?_
    skip
    refine fin1M (i := 6) (.slice _ _ _) rfl M6 rfl (fun w9 M9 => ?_)
    exact ⟨r, rfl, hr, M9.keep [false, false, true, false, false, false, false]⟩

set_option maxHeartbeats 4000000 in
theorem cell_Bucket (w : World) (F : Rd w 2 (some ⟨1, 0, none⟩) 1 [[.int .u32 73856093, .int .u32 19349663]]) (c : Int × Int) :
    Calls Tryz.prog 88 #[(.agg (cellCells c).toArray)] w (fun ex w' => ∃ v, ex = .returned v ∧ (fun v w' => v = .int .i64 (bucketI c : Int) ∧ Below w.heap.size w w') v w') := by
  refine calls_of_W #[.tmp 2] 20 Tryz.func88 rfl Tryz.results88 Tryz.ntmps88 rfl ?_
  have M0 := Mem.refl w
  refine W_seq ?_
  refine W_region ?_
  refine wl_box (.agg (List.toArray _)) M0 rfl rfl rfl (fun b1 w1 M1 => ?_)
  refine wl_q (r_assign (.int _ _) rfl) rfl rfl ?_
  refine wl_nil ?_
  refine thenN ?_
  refine W_seq ?_
  refine W_region ?_
  refine wl_q (r_fieldAddr 0 fld143_0 rfl) rfl rfl ?_
  refine wl_q (r_ld 0 (.int _ _) one21 M1 rfl rfl rfl) rfl rfl ?_
  refine wl_q (r_conv us21 Tryz.underlying30 rfl) rfl rfl ?_
  refine wl_q (r_idxP (0) arr166 rfl rfl rfl (by decide)) rfl rfl ?_
  refine wl_q (r_ldE (k := 0) (o := 0) (.int _ _) one30 (F.mem M1) (show ([[.int .u32 73856093, .int .u32 19349663]] : List (List Value))[0]? = some [.int .u32 73856093, .int .u32 19349663] from rfl) rfl rfl) rfl rfl ?_
  refine wl_q (r_bin (.int _ _) rfl rfl rfl) rfl rfl ?_
  refine wl_q (r_fieldAddr 1 fld143_1 rfl) rfl rfl ?_
  refine wl_q (r_ld 0 (.int _ _) one21 M1 rfl rfl rfl) rfl rfl ?_
  refine wl_q (r_conv us21 Tryz.underlying30 rfl) rfl rfl ?_
  refine wl_q (r_idxP (1) arr166 rfl rfl rfl (by decide)) rfl rfl ?_
  refine wl_q (r_ldE (k := 0) (o := 1) (.int _ _) one30 (F.mem M1) (show ([[.int .u32 73856093, .int .u32 19349663]] : List (List Value))[0]? = some [.int .u32 73856093, .int .u32 19349663] from rfl) rfl rfl) rfl rfl ?_
  refine wl_q (r_bin (.int _ _) rfl rfl rfl) rfl rfl ?_
  refine wl_q (r_bin (.int _ _) rfl rfl rfl) rfl rfl ?_
  refine wl_q (r_assign (.int _ _) rfl) rfl rfl ?_
  refine wl_nil ?_
  refine thenN ?_
  refine W_seq ?_
  refine W_region ?_
  refine wl_q (r_move (.int _ _) rfl) rfl rfl ?_
  refine wl_q (r_bin (.int _ _) rfl rfl rfl) rfl rfl ?_
  refine wl_re 18 (.int .u32 (bucketZ c)) rfl ?_
  refine wl_q (r_convK us30 Tryz.underlying3 rfl (w64 _ (by have := bucketZ_range c; omega) (by have := bucketZ_range c; omega))) rfl rfl ?_
  refine wl_q (r_assign (.int _ _) rfl) rfl rfl ?_
  refine wl_nil ?_
  refine thenN ?_
  refine W_ret ?_
  skip
  refine fin1 (.int _ _) rfl ?_
  exact ⟨iE (bucket_eq c), M1.below⟩

end Go.Proofs.YtmcddmhkjcgneaaGreatDoor

/- Walks of Go functions over the frame of this claim: what each computes, for every input of the stated types (G10). -/
set_option linter.unusedVariables false
set_option linter.unusedSimpArgs false
set_option linter.unnecessarySimpa false
namespace Go.Proofs.YtmcddmhkjcgneaaGreatDoor
open Go.Bil
open Go.RowKit (Below)
open Go.Proofs

set_option maxHeartbeats 16000000 in
theorem grid_Insert (w : World) (F : Rd w 2 (some ⟨1, 0, none⟩) 1 [[.int .u32 73856093, .int .u32 19349663]]) (b : Nat) (rs : List Row) (cnt : Int) (g : Nat → List Int) (hG : GridRows 30 rs g) (hcnt : 0 ≤ cnt ∧ cnt ≤ 1048576) (hgl : ∀ j, j < 1024 → (g j).length ≤ 1048576) (key : Int) (a : Bx) (ha : Okx a) (hO : Own ((some b, bc (gcells rs cnt) 123) :: rs.map Row.e) w) (hdF : 0 < 1 → ∀ q off, (some ⟨1, 0, none⟩ : Option Addr) = some ⟨q, off, none⟩ → q ∉ blks ((some b, bc (gcells rs cnt) 123) :: rs.map Row.e)) :
    Calls Tryz.prog 73 #[.pointer (some ⟨b, 0, none⟩), .int .u32 key, (.agg (bxCells a).toArray)] w (fun ex w' => ∃ v, ex = .returned v ∧ (fun v w' => v = .tuple #[] ∧ ∃ rs' : List Row, GridRows 30 rs' (addG g key ((cellsB a).map bucketI)) ∧ Mem w (blks ((some b, bc (gcells rs cnt) 123) :: rs.map Row.e)) ((some b, bc (gcells rs' (cnt + 1)) 123) :: rs'.map Row.e) w') v w') := by
  refine calls_of_W #[] 49 Tryz.func73 rfl Tryz.results73 Tryz.ntmps73 rfl ?_
  have M0 := hO.mem
  refine W_seq ?_
  refine W_region ?_
  refine wl_box (.agg (List.toArray _)) M0 rfl rfl rfl (fun b1 w1 M1 => ?_)
  have M2 : Mem _ _ ([_, _] ++ _) _ := Mem.front (L := [_]) M1
  refine wl_nil ?_
  refine thenN ?_
  refine W_seq ?_
  refine W_seq ?_
  refine W_region ?_
  refine wl_q (r_move (.pointer _) rfl) rfl rfl ?_
  refine wl_q (r_eqPtrNil false Tryz.underlying139 rfl rfl) rfl rfl ?_
  refine wl_nil ?_
  refine thenN ?_
  refine W_condF rfl ?_
  refine W_skip ?_
  refine thenN ?_
  refine W_seq ?_
  refine W_region ?_
  refine wl_q (r_move (.pointer _) rfl) rfl rfl ?_
  refine wl_q (r_nilCheck rfl) rfl rfl ?_
  refine wl_q (r_fieldAddr 1024 fld123_1 rfl) rfl rfl ?_
  refine wl_q (r_ld 0 (.int .i64 cnt) one3 M2 rfl rfl (gcells_cnt hG.len)) rfl rfl ?_
  refine wl_q (r_add rfl rfl (by omega) (by omega)) rfl rfl ?_
  refine wl_q (r_nilCheck rfl) rfl rfl ?_
  refine wl_q (r_fieldAddr 1024 fld123_1 rfl) rfl rfl ?_
  refine wl_st 0 (.int _ _) one3 M2 rfl rfl rfl rfl rfl (by rw [gcells_cnt hG.len]; rfl) (fun w3 M3 => ?_)
  have M3b : Mem _ _ ([(some b, bc (gcells rs (cnt + 1)) 123), _] ++ rs.map Row.e) _ := Mem.cells0 M3 (gcells_setcnt hG.len)
  refine wl_nil ?_
  refine thenN ?_
  refine W_seq ?_
  refine W_region ?_
  refine wl_makeMap M3b rfl rfl (fun b4 w4 M4 => ?_)
  have M5 : Mem _ _ ([_, _, _] ++ _) _ := Mem.front (L := [_, _]) M4
  refine wl_q (r_assign (.map _) rfl) rfl rfl ?_
  refine wl_nil ?_
  refine thenN ?_
  refine W_seq ?_
  refine W_region ?_
  refine wl_q (r_ldW 1 agg34 M5 rfl rfl rfl) rfl rfl ?_
  refine wl_cal cal87 rfl rfl rfl ?_
  refine (cell_All _ a ha).mono ?_
  rintro _ w6 ⟨v6, rfl, ⟨r0, rfl, hR0, hM6⟩⟩
  refine ⟨_, rfl, ?_⟩
  have M6 : Mem _ _ ([_, _, _, _] ++ _) _ := Mem.front (L := [_, _, _]) (M5.call0 hM6)
  have hcl : (cellsB a).length = r0.n := by simpa using hR0.1
  have hcb := cellsB_len ha
  refine wl_q (r_lenS Tryz.underlying141 rfl) rfl rfl ?_
  refine wl_q (r_move (.int _ _) rfl) rfl rfl ?_
  refine wl_nil ?_
  refine thenN ?_
  refine W_block ?_
  refine W_loop (σ := Nat × List Row × Ent) [0, 1, 6, 21, 22] (fun (i, rs1, em) => [(23, .int .i64 (i : Int))]) (fun (i, rs1, em) w' => (i ≤ r0.n ∧ GridRows 30 rs1 (addG g key (((cellsB a).map bucketI).take i)) ∧ MapE .i64 Value.bool (doneF (((cellsB a).map bucketI).take i)) (some b4) em) ∧ Mem w (blks ((some b, bc (gcells rs cnt) 123) :: rs.map Row.e)) ([(some b, bc (gcells rs1 (cnt + 1)) 123), (some b1, bc (bxCells a) 34), em, r0.e] ++ rs1.map Row.e) w') (fun (i, rs1, em) => r0.n - i) (0, rs, (some b4, .map #[] 0)) (agC rfl agN) (⟨⟨by omega, by rw [List.take_zero, addG_nil]; exact hG, (MapE.empty _ _ b4).congr (fun q => by rw [List.take_zero]; exact doneF_nil q)⟩, M6⟩) ?_
  rintro ⟨i, rs1, em⟩ ρ7 w7 ⟨⟨hi, hrs, hme⟩, hM7⟩
  refine W_seq ?_
  refine W_region ?_
  refine wl_q (r_bin (.bool (decide _)) rfl rfl rfl) rfl rfl ?_
  refine wl_nil ?_
  refine thenN ?_
  refine W_seq ?_
  refine W_condD rfl (fun h24 => ?_) (fun h24 => ?_)
  · skip
    obtain ⟨xc, hxc⟩ := getSome (xs := cellsB a) (k := i) hcl (by omega)
    have hbb : ((cellsB a).map bucketI)[i]? = some (bucketI xc) := by rw [List.getElem?_map, hxc]; rfl
    refine W_skip ?_
    refine thenN ?_
    refine W_seq ?_
    refine W_block ?_
    refine W_seq ?_
    refine W_region ?_
    refine wl_q (r_idxR (i) sl141 rfl rfl rfl ((hR0.rd hM7 (nthMem (i := 3) rfl)).below_len (mapGet cellCells hxc)) ((hR0.rd hM7 (nthMem (i := 3) rfl)).someK (mapGet cellCells hxc))) rfl rfl ?_
    refine wl_q (r_ldEA _ agg143 (hR0.rd hM7 (nthMem (i := 3) rfl)) (mapGet cellCells hxc) rfl) rfl rfl ?_
    refine wl_alloc zero143 hM7 rfl rfl (fun b8 w8 M8 => ?_)
    have M9 : Mem _ _ ([_, _, _, _, _] ++ _) _ := Mem.front (L := [_, _, _, _]) M8
    refine wl_stW 4 _ agg143 M9 rfl rfl rfl rfl rfl (ones_of rfl) rfl (fun w10 M10 => ?_)
    refine wl_nil ?_
    refine thenN ?_
    refine W_seq ?_
    refine W_region ?_
    refine wl_q (r_ldW 4 agg143 M10 rfl rfl rfl) rfl rfl ?_
    refine wl_cal cal88 rfl rfl rfl ?_
    refine (cell_Bucket _ (F.memY M10 hdF) xc).mono ?_
    rintro _ w11 ⟨v11, rfl, ⟨rfl, hb11⟩⟩
    refine ⟨_, rfl, ?_⟩
    have M11 := M10.callB hb11
    refine wl_q (r_assign (.int _ _) rfl) rfl rfl ?_
    refine wl_nil ?_
    refine thenN ?_
    refine W_seq ?_
    refine W_seq ?_
    refine W_region ?_
    refine wl_q (r_move (.map _) rfl) rfl rfl ?_
    refine wl_q (r_move (.int _ _) rfl) rfl rfl ?_
    refine wl_q (r_lookup1 (enc := Value.bool) false 2 map140 zv4 M11 rfl hme rfl rfl) rfl rfl ?_
    refine wl_nil ?_
    refine thenN ?_
    refine W_cond _ rfl (fun h31 => ?_) (fun h31 => ?_)
    · skip
      refine W_exit ?_
      refine thenX ?_
      refine blkH ?_
      refine thenN ?_
      refine W_region ?_
      refine wl_q (r_add rfl rfl (by omega) (by omega)) rfl rfl ?_
      refine wl_q (r_move (.int _ _) rfl) rfl rfl ?_
      refine wl_nil ?_
      refine roundN (i + 1, rs1, em) (agC rfl agN) (akC rfl (akC rfl (akC rfl (akC rfl (akC rfl akN))))) ?_ ?_
      · exact ⟨⟨by omega, by rw [addG_old hbb (doneF_yes.1 h31)]; exact hrs, by rw [doneF_old hbb (doneF_yes.1 h31)]; exact hme⟩, Mem.keepL (L := [_, _, _, _, _]) [true, true, true, true, false] M11⟩
      · (show r0.n - (i + 1) < r0.n - i; omega)
    · skip
      have hnb : bucketI xc ∉ ((cellsB a).map bucketI).take i := fun h => by have h2 := doneF_yes.2 h; rw [h2] at h31; cases h31
      refine W_skip ?_
      refine thenN ?_
      refine W_seq ?_
      refine W_region ?_
      refine wl_q (r_move (.map _) rfl) rfl rfl ?_
      refine wl_q (r_move (.int _ _) rfl) rfl rfl ?_
      refine wl_mapUpdate (enc := Value.bool) 2 map140 M11 rfl rfl hme rfl rfl rfl rfl (fun e12 w12 hm12 M12 => ?_)
      refine wl_nil ?_
      refine thenN ?_
      refine W_draw [(0, 0), (1, 0), (2, 0), (3, 0), (4, 0), (5, 0), (6, 0), (7, 1), (8, 0), (11, 0), (12, 0), (9, 2), (10, 2), (13, 0), (14, 2)] mixed rfl (by kernel_rfl) (fun w13 hb13 hh13 => ?_)
      have M13 := M12.drew hb13 hh13
      refine D_p rfl rfl rfl (fun _ => r_move (.pointer _) rfl) ?_
      refine D_p rfl rfl rfl (fun _ => r_move (.int _ _) rfl) ?_
      refine D_p rfl rfl rfl (fun _ => r_move (.pointer _) rfl) ?_
      refine D_p rfl rfl rfl (fun _ => r_move (.int _ _) rfl) ?_
      refine D_p rfl rfl rfl (fun _ => r_nilCheck rfl) ?_
      refine D_p rfl rfl rfl (fun _ => r_fieldAddr 0 fld123_0 rfl) ?_
      refine D_p rfl rfl rfl (fun _ => r_idxP (bucketI xc) arr121 rfl rfl rfl (bucket_lt xc)) ?_
      obtain ⟨rb, hrb⟩ := hrs.get (bucket_lt xc)
      have hrowb := hrs.row _ _ hrb
      have hgb : addG g key (((cellsB a).map bucketI).take i) (bucketI xc) = g (bucketI xc) := by unfold addG; rw [if_neg hnb]
      have hrn : (addG g key (((cellsB a).map bucketI).take i) (bucketI xc)).length = rb.n := by simpa using hrowb.1
      have hgl := hgl (bucketI xc) (bucket_lt xc)
      rw [hgb] at hrn
      have M14 : Mem _ _ ([_, _, _, _, _, _] ++ (rs1.eraseIdx (bucketI xc)).map Row.e) _ := Mem.pull (L := [_, _, _, _, _]) (rs := rs1) M13 hrb
      refine D_r rfl rfl rfl (r_ld 0 (.slice _ _ _) one52 M14 rfl rfl (gcells_row hrb)) ?_
      refine D_p rfl rfl rfl (fun _ => r_move (.int _ _) rfl) ?_
      refine D_p rfl rfl rfl (fun _ => r_nilCheck rfl) ?_
      refine D_p rfl rfl rfl (fun _ => r_fieldAddr 0 fld123_0 rfl) ?_
      refine D_e [false] rfl (by kernel_rfl) ?_
      refine wl_bslice [.int _ _] [keyCell key] rfl sl52 M14 rfl rfl rfl rfl (lens_of rfl) (by decide) (fun b15 w15 M15 => ?_)
      have M16 : Mem _ _ ([_, _, _, _, _, _, _] ++ _) _ := Mem.front (L := [_, _, _, _, _, _]) M15
      refine wl_nil (thenN ⟨(alC (Yl_of rfl (r_ld 0 (.slice _ _ _) one52 M16 rfl rfl (gcells_row hrb))) alN), ?_⟩)
      refine D_e [true] rfl (by kernel_rfl) ?_
      refine wl_append 5 [keyCell key] sl52 M16 rfl rfl rfl rfl rfl hrowb rfl (keyCell_ok _) (Cells.ofMem 6 M16 rfl) (by omega) (fun A17 c17 e17 w17 M17 hR17 => ?_)
      refine wl_nil (thenN ⟨alN, ?_⟩)
      refine D_p rfl rfl rfl (fun _ => r_idxP (bucketI xc) arr121 rfl rfl rfl (bucket_lt xc)) ?_
      refine D_e [] rfl (by kernel_rfl) ?_
      refine wl_st 0 (.slice _ _ _) one52 M17 rfl rfl rfl rfl rfl (by rw [gcells_row hrb]; rfl) (fun w18 M18 => ?_)
      have M18b : Mem _ _ ([(some b, bc (gcells (rs1.set (bucketI xc) (⟨A17, rb.n + 1, c17, e17⟩ : Row)) (cnt + 1)) 123), _, _, _, _, _, _] ++ (rs1.eraseIdx (bucketI xc)).map Row.e) _ := Mem.cells0 M18 (gcells_setrow (⟨A17, rb.n + 1, c17, e17⟩ : Row) (by rw [hrs.len]; exact bucket_lt xc))
      refine wl_nil (thenN ⟨alN, ?_⟩)
      refine D_nil ?_
      refine blkN ?_
      refine thenN ?_
      refine W_region ?_
      refine wl_q (r_add rfl rfl (by omega) (by omega)) rfl rfl ?_
      refine wl_q (r_move (.int _ _) rfl) rfl rfl ?_
      refine wl_nil ?_
      refine roundN (i + 1, rs1.set (bucketI xc) (⟨A17, rb.n + 1, c17, e17⟩ : Row), e12) (agC rfl agN) (akC rfl (akC rfl (akC rfl (akC rfl (akC rfl akN))))) ?_ ?_
      · exact ⟨⟨by omega, by rw [addG_new hbb hnb]; exact hrs.put (r := (⟨A17, rb.n + 1, c17, e17⟩ : Row)) (bucket_lt xc) (by simpa using hR17), hm12.congr (fun q => doneF_new hbb q)⟩, Mem.push (L := [_, _, _, _]) (rs := rs1) (⟨A17, rb.n + 1, c17, e17⟩ : Row) (Mem.keepL (L := [_, _, _, _, _, _, _]) [true, true, true, true, false, true, false] M18b) (by rw [hrs.len]; exact bucket_lt xc)⟩
      · (show r0.n - (i + 1) < r0.n - i; omega)
  · skip
    have hin : i = r0.n := by omega
    rw [List.take_of_length_le (by simp; omega)] at hrs
    refine W_exit ?_
    refine thenX ?_
    refine roundX ?_
    refine blkH ?_
    refine fin0n ?_
    exact ⟨rfl, rs1, hrs, Mem.keepL (L := [_, _, _, _]) [true, false, false, false] hM7⟩

end Go.Proofs.YtmcddmhkjcgneaaGreatDoor
