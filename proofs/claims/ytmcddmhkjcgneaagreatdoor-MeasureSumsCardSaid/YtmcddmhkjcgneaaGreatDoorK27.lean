/- Part of the proof of the laws of this seat: M26, Aw26, R26. No conditions. -/
import Derived.Test.YtmcddmhkjcgneaaGreatDoorK5
import Derived.Test.YtmcddmhkjcgneaaGreatDoorK25
import Derived.Test.YtmcddmhkjcgneaaGreatDoorK16
import Derived.Test.YtmcddmhkjcgneaaGreatDoorK26
import Derived.Test.YtmcddmhkjcgneaaGreatDoorK23
import Derived.Test.YtmcddmhkjcgneaaGreatDoorK24
/- Walks of Go functions over the frame of this claim: what each computes, for every input of the stated types (M26). -/
set_option linter.unusedVariables false
set_option linter.unusedSimpArgs false
set_option linter.unnecessarySimpa false
namespace Go.Proofs.YtmcddmhkjcgneaaGreatDoor
open Go.Bil
open Go.RowKit (Below)
open Go.Proofs

theorem eqMe (a b : Meas) : EqA Tryz.prog 36 (meCells a) (meCells b) (decide (a = b)) := by
  have h := eqA36 a.nb a.ns (a.sp : Int) a.sx a.sy a.bx.x0 a.bx.y0 a.bx.x1 a.bx.y1 a.ov b.nb b.ns (b.sp : Int) b.sx b.sy b.bx.x0 b.bx.y0 b.bx.x1 b.bx.y1 b.ov
  rw [decide_eq_decide.2 (me_ext (a := a) (b := b))]
  exact h

set_option maxHeartbeats 4000000 in
theorem box_Union (w : World) (N : Rd w 4 (some ⟨0, 0, none⟩) 1 [bxCells noneB]) (a b : Bx) :
    Calls Tryz.prog 45 #[(.agg (bxCells a).toArray), (.agg (bxCells b).toArray)] w (fun ex w' => ∃ v, ex = .returned v ∧ (fun v w' => v = (.agg (bxCells (unionB a b)).toArray) ∧ Below w.heap.size w w') v w') := by
  refine calls_of_W #[.cell 4 34] 42 Tryz.func45 rfl Tryz.results45 Tryz.ntmps45 rfl ?_
  have M0 := Mem.refl w
  refine W_seq ?_
  refine W_region ?_
  refine wl_box (.agg (List.toArray _)) M0 rfl rfl rfl (fun b1 w1 M1 => ?_)
  refine wl_box (.agg (List.toArray _)) M1 rfl rfl rfl (fun b2 w2 M2 => ?_)
  refine wl_alloc zero34 M2 rfl rfl (fun b3 w3 M3 => ?_)
  refine wl_nil ?_
  refine thenN ?_
  refine W_seq ?_
  refine W_block ?_
  refine W_seq ?_
  refine W_region ?_
  refine wl_q (r_ldW 0 agg34 M3 rfl rfl rfl) rfl rfl ?_
  refine wl_cal cal64 rfl rfl rfl ?_
  refine (box_Empty _ a).mono ?_
  rintro _ w4 ⟨v4, rfl, ⟨rfl, hb4⟩⟩
  refine ⟨_, rfl, ?_⟩
  have M4 := M3.callB hb4
  refine wl_q (r_move (.bool (decide _)) rfl) rfl rfl ?_
  refine wl_splitD 8 rfl (fun g8 => ?_) (fun g8 => ?_)
  · skip
    refine wl_q (r_ldW 1 agg34 M4 rfl rfl rfl) rfl rfl ?_
    refine wl_cal cal64 rfl rfl rfl ?_
    refine (box_Empty _ b).mono ?_
    rintro _ w5 ⟨v5, rfl, ⟨rfl, hb5⟩⟩
    refine ⟨_, rfl, ?_⟩
    have M5 := M4.callB hb5
    refine wl_q (r_pick true (.bool (decide _)) rfl rfl) rfl rfl ?_
    refine wl_q (r_assign (.bool (decide _)) rfl) rfl rfl ?_
    refine wl_nil ?_
    refine thenN ?_
    refine W_condD rfl (fun h5 => ?_) (fun h5 => ?_)
    · skip
      refine W_seq ?_
      refine W_region ?_
      refine wl_q (r_ldEP (k := 0) (o := 0) _ agg34 (N.mem M5) (show ([bxCells noneB] : List (List Value))[0]? = some (bxCells noneB) from rfl) rfl rfl rfl) rfl rfl ?_
      refine wl_stW 2 _ agg34 M5 rfl rfl rfl rfl rfl (ones_of rfl) rfl (fun w6 M6 => ?_)
      refine wl_nil ?_
      refine thenN ?_
      refine W_ret ?_
      refine blkR ?_
      refine thenR ?_
      skip
      refine finC1 2 agg34 M6 rfl rfl rfl ?_
      exact ⟨by unfold unionB; (repeat' split) <;> first | rfl | (exfalso; omega), M6.below⟩
    · skip
      refine W_seq ?_
      refine W_region ?_
      refine wl_q (r_ldW 0 agg34 M5 rfl rfl rfl) rfl rfl ?_
      refine wl_cal cal64 rfl rfl rfl ?_
      refine (box_Empty _ a).mono ?_
      rintro _ w7 ⟨v7, rfl, ⟨rfl, hb7⟩⟩
      refine ⟨_, rfl, ?_⟩
      have M7 := M5.callB hb7
      refine wl_q (r_assign (.bool (decide _)) rfl) rfl rfl ?_
      refine wl_nil ?_
      refine thenN ?_
      refine W_condD rfl (fun h13 => ?_) (fun h13 => ?_)
      · skip
        refine W_seq ?_
        refine W_region ?_
        refine wl_q (r_ldW 1 agg34 M7 rfl rfl rfl) rfl rfl ?_
        refine wl_stW 2 _ agg34 M7 rfl rfl rfl rfl rfl (ones_of rfl) rfl (fun w8 M8 => ?_)
        refine wl_nil ?_
        refine thenN ?_
        refine W_ret ?_
        refine blkR ?_
        refine thenR ?_
        skip
        refine finC1 2 agg34 M8 rfl rfl rfl ?_
        exact ⟨by unfold unionB; (repeat' split) <;> first | rfl | (exfalso; omega), M8.below⟩
      · skip
        refine W_seq ?_
        refine W_region ?_
        refine wl_q (r_ldW 1 agg34 M7 rfl rfl rfl) rfl rfl ?_
        refine wl_cal cal64 rfl rfl rfl ?_
        refine (box_Empty _ b).mono ?_
        rintro _ w9 ⟨v9, rfl, ⟨rfl, hb9⟩⟩
        refine ⟨_, rfl, ?_⟩
        have M9 := M7.callB hb9
        refine wl_q (r_assign (.bool (decide _)) rfl) rfl rfl ?_
        refine wl_nil ?_
        refine thenN ?_
        refine W_condD rfl (fun h17 => ?_) (fun h17 => ?_)
        · skip
          refine W_seq ?_
          refine W_region ?_
          refine wl_q (r_ldW 0 agg34 M9 rfl rfl rfl) rfl rfl ?_
          refine wl_stW 2 _ agg34 M9 rfl rfl rfl rfl rfl (ones_of rfl) rfl (fun w10 M10 => ?_)
          refine wl_nil ?_
          refine thenN ?_
          refine W_ret ?_
          refine blkR ?_
          refine thenR ?_
          skip
          refine finC1 2 agg34 M10 rfl rfl rfl ?_
          exact ⟨by unfold unionB; (repeat' split) <;> first | rfl | (exfalso; omega), M10.below⟩
        · skip
          refine W_skip ?_
          refine blkN ?_
          refine thenN ?_
          refine W_seq ?_
          refine W_region ?_
          refine wl_q (r_fieldAddr 0 fld34_0 rfl) rfl rfl ?_
          refine wl_q (r_ld 0 (.int _ _) one21 M9 rfl rfl rfl) rfl rfl ?_
          refine wl_q (r_fieldAddr 0 fld34_0 rfl) rfl rfl ?_
          refine wl_q (r_ld 1 (.int _ _) one21 M9 rfl rfl rfl) rfl rfl ?_
          refine wl_q (r_min2 rfl rfl ) rfl rfl ?_
          refine wl_q (r_fieldAddr 1 fld34_1 rfl) rfl rfl ?_
          refine wl_q (r_ld 0 (.int _ _) one21 M9 rfl rfl rfl) rfl rfl ?_
          refine wl_q (r_fieldAddr 1 fld34_1 rfl) rfl rfl ?_
          refine wl_q (r_ld 1 (.int _ _) one21 M9 rfl rfl rfl) rfl rfl ?_
          refine wl_q (r_min2 rfl rfl ) rfl rfl ?_
          refine wl_q (r_fieldAddr 2 fld34_2 rfl) rfl rfl ?_
          refine wl_q (r_ld 0 (.int _ _) one21 M9 rfl rfl rfl) rfl rfl ?_
          refine wl_q (r_fieldAddr 2 fld34_2 rfl) rfl rfl ?_
          refine wl_q (r_ld 1 (.int _ _) one21 M9 rfl rfl rfl) rfl rfl ?_
          refine wl_q (r_max2 rfl rfl ) rfl rfl ?_
          refine wl_q (r_fieldAddr 3 fld34_3 rfl) rfl rfl ?_
          refine wl_q (r_ld 0 (.int _ _) one21 M9 rfl rfl rfl) rfl rfl ?_
          refine wl_q (r_fieldAddr 3 fld34_3 rfl) rfl rfl ?_
          refine wl_q (r_ld 1 (.int _ _) one21 M9 rfl rfl rfl) rfl rfl ?_
          refine wl_q (r_max2 rfl rfl ) rfl rfl ?_
          refine wl_q (r_build [(0, .int _ _), (1, .int _ _), (2, .int _ _), (3, .int _ _)] _ struct34 rfl rfl) rfl rfl ?_
          refine wl_stW 2 _ agg34 M9 rfl rfl rfl rfl rfl (ones_of rfl) rfl (fun w11 M11 => ?_)
          refine wl_nil ?_
          refine thenN ?_
          refine W_ret ?_
          skip
          refine finC1 2 agg34 M11 rfl rfl rfl ?_
          exact ⟨by unfold unionB; (repeat' split) <;> first | rfl | (exfalso; omega), M11.below⟩
  · skip
    refine wl_skip rfl rfl ?_
    refine wl_skip rfl rfl ?_
    refine wl_q (r_pick false (.bool false) rfl rfl) rfl rfl ?_
    refine wl_q (r_assign (.bool false) rfl) rfl rfl ?_
    refine wl_nil ?_
    refine thenN ?_
    refine W_condF rfl ?_
    refine W_seq ?_
    refine W_region ?_
    refine wl_q (r_ldW 0 agg34 M4 rfl rfl rfl) rfl rfl ?_
    refine wl_cal cal64 rfl rfl rfl ?_
    refine (box_Empty _ a).mono ?_
    rintro _ w12 ⟨v12, rfl, ⟨rfl, hb12⟩⟩
    refine ⟨_, rfl, ?_⟩
    have M12 := M4.callB hb12
    refine wl_q (r_assign (.bool (decide _)) rfl) rfl rfl ?_
    refine wl_nil ?_
    refine thenN ?_
    refine W_condD rfl (fun h13 => ?_) (fun h13 => ?_)
    · skip
      refine W_seq ?_
      refine W_region ?_
      refine wl_q (r_ldW 1 agg34 M12 rfl rfl rfl) rfl rfl ?_
      refine wl_stW 2 _ agg34 M12 rfl rfl rfl rfl rfl (ones_of rfl) rfl (fun w13 M13 => ?_)
      refine wl_nil ?_
      refine thenN ?_
      refine W_ret ?_
      refine blkR ?_
      refine thenR ?_
      skip
      refine finC1 2 agg34 M13 rfl rfl rfl ?_
      exact ⟨by unfold unionB; (repeat' split) <;> first | rfl | (exfalso; omega), M13.below⟩
    · skip
      refine W_seq ?_
      refine W_region ?_
      refine wl_q (r_ldW 1 agg34 M12 rfl rfl rfl) rfl rfl ?_
      refine wl_cal cal64 rfl rfl rfl ?_
      refine (box_Empty _ b).mono ?_
      rintro _ w14 ⟨v14, rfl, ⟨rfl, hb14⟩⟩
      refine ⟨_, rfl, ?_⟩
      have M14 := M12.callB hb14
      refine wl_q (r_assign (.bool (decide _)) rfl) rfl rfl ?_
      refine wl_nil ?_
      refine thenN ?_
      refine W_condD rfl (fun h17 => ?_) (fun h17 => ?_)
      · skip
        refine W_seq ?_
        refine W_region ?_
        refine wl_q (r_ldW 0 agg34 M14 rfl rfl rfl) rfl rfl ?_
        refine wl_stW 2 _ agg34 M14 rfl rfl rfl rfl rfl (ones_of rfl) rfl (fun w15 M15 => ?_)
        refine wl_nil ?_
        refine thenN ?_
        refine W_ret ?_
        refine blkR ?_
        refine thenR ?_
        skip
        refine finC1 2 agg34 M15 rfl rfl rfl ?_
        exact ⟨by unfold unionB; (repeat' split) <;> first | rfl | (exfalso; omega), M15.below⟩
      · skip
        refine W_skip ?_
        refine blkN ?_
        refine thenN ?_
        refine W_seq ?_
        refine W_region ?_
        refine wl_q (r_fieldAddr 0 fld34_0 rfl) rfl rfl ?_
        refine wl_q (r_ld 0 (.int _ _) one21 M14 rfl rfl rfl) rfl rfl ?_
        refine wl_q (r_fieldAddr 0 fld34_0 rfl) rfl rfl ?_
        refine wl_q (r_ld 1 (.int _ _) one21 M14 rfl rfl rfl) rfl rfl ?_
        refine wl_q (r_min2 rfl rfl ) rfl rfl ?_
        refine wl_q (r_fieldAddr 1 fld34_1 rfl) rfl rfl ?_
        refine wl_q (r_ld 0 (.int _ _) one21 M14 rfl rfl rfl) rfl rfl ?_
        refine wl_q (r_fieldAddr 1 fld34_1 rfl) rfl rfl ?_
        refine wl_q (r_ld 1 (.int _ _) one21 M14 rfl rfl rfl) rfl rfl ?_
        refine wl_q (r_min2 rfl rfl ) rfl rfl ?_
        refine wl_q (r_fieldAddr 2 fld34_2 rfl) rfl rfl ?_
        refine wl_q (r_ld 0 (.int _ _) one21 M14 rfl rfl rfl) rfl rfl ?_
        refine wl_q (r_fieldAddr 2 fld34_2 rfl) rfl rfl ?_
        refine wl_q (r_ld 1 (.int _ _) one21 M14 rfl rfl rfl) rfl rfl ?_
        refine wl_q (r_max2 rfl rfl ) rfl rfl ?_
        refine wl_q (r_fieldAddr 3 fld34_3 rfl) rfl rfl ?_
        refine wl_q (r_ld 0 (.int _ _) one21 M14 rfl rfl rfl) rfl rfl ?_
        refine wl_q (r_fieldAddr 3 fld34_3 rfl) rfl rfl ?_
        refine wl_q (r_ld 1 (.int _ _) one21 M14 rfl rfl rfl) rfl rfl ?_
        refine wl_q (r_max2 rfl rfl ) rfl rfl ?_
        refine wl_q (r_build [(0, .int _ _), (1, .int _ _), (2, .int _ _), (3, .int _ _)] _ struct34 rfl rfl) rfl rfl ?_
        refine wl_stW 2 _ agg34 M14 rfl rfl rfl rfl rfl (ones_of rfl) rfl (fun w16 M16 => ?_)
        refine wl_nil ?_
        refine thenN ?_
        refine W_ret ?_
        skip
        refine finC1 2 agg34 M16 rfl rfl rfl ?_
        exact ⟨by unfold unionB; (repeat' split) <;> first | rfl | (exfalso; omega), M16.below⟩

set_option maxHeartbeats 4000000 in
theorem body_IsStatic (w : World) (b : Body) :
    Calls Tryz.prog 50 #[(.agg (bodyCells b).toArray)] w (fun ex w' => ∃ v, ex = .returned v ∧ (fun v w' => v = .bool (decide (b.mass = 0)) ∧ Below w.heap.size w w') v w') := by
  refine calls_of_W #[.tmp 2] 6 Tryz.func50 rfl Tryz.results50 Tryz.ntmps50 rfl ?_
  have M0 := Mem.refl w
  refine W_seq ?_
  refine W_region ?_
  refine wl_box (.agg (List.toArray _)) M0 rfl rfl rfl (fun b1 w1 M1 => ?_)
  refine wl_q (r_assign (.bool false) rfl) rfl rfl ?_
  refine wl_nil ?_
  refine thenN ?_
  refine W_seq ?_
  refine W_region ?_
  refine wl_q (r_fieldAddr 4 fld32_3 rfl) rfl rfl ?_
  refine wl_q (r_ld 0 (.int _ _) one21 M1 rfl rfl rfl) rfl rfl ?_
  refine wl_q (r_bin (.bool (decide _)) rfl rfl rfl) rfl rfl ?_
  refine wl_q (r_assign (.bool (decide _)) rfl) rfl rfl ?_
  refine wl_nil ?_
  refine thenN ?_
  refine W_ret ?_
  skip
  refine fin1 (.bool (decide _)) rfl ?_
  exact ⟨rfl, M1.below⟩

set_option maxHeartbeats 4000000 in
theorem me_speedSq (w : World) (b : Body) (hb : Okb b) :
    Calls Tryz.prog 43 #[(.agg (bodyCells b).toArray)] w (fun ex w' => ∃ v, ex = .returned v ∧ (fun v w' => v = .int .u64 ((lsq b.vx b.vy : Nat) : Int) ∧ Below w.heap.size w w') v w') := by
  have hv := hb.v
  refine calls_of_W #[.tmp 2] 12 Tryz.func43 rfl Tryz.results43 Tryz.ntmps43 rfl ?_
  have M0 := Mem.refl w
  refine W_seq ?_
  refine W_region ?_
  refine wl_box (.agg (List.toArray _)) M0 rfl rfl rfl (fun b1 w1 M1 => ?_)
  refine wl_q (r_assign (.int _ _) rfl) rfl rfl ?_
  refine wl_nil ?_
  refine thenN ?_
  refine W_seq ?_
  refine W_region ?_
  refine wl_q (r_fieldAddr 8 fld32_6 rfl) rfl rfl ?_
  refine wl_q (r_fieldAddr 0 fld29_0 rfl) rfl rfl ?_
  refine wl_q (r_ld 0 (.int _ _) one21 M1 rfl rfl rfl) rfl rfl ?_
  refine wl_q (r_convK us21 Tryz.underlying2 rfl (w64 _ (by omega) (by omega))) rfl rfl ?_
  refine wl_q (r_fieldAddr 8 fld32_6 rfl) rfl rfl ?_
  refine wl_q (r_fieldAddr 1 fld29_1 rfl) rfl rfl ?_
  refine wl_q (r_ld 0 (.int _ _) one21 M1 rfl rfl rfl) rfl rfl ?_
  refine wl_q (r_convK us21 Tryz.underlying2 rfl (w64 _ (by omega) (by omega))) rfl rfl ?_
  refine wl_cal cal63 rfl rfl rfl ?_
  refine (vec_LengthSq _ b.vx b.vy (vel_in hb).1 (vel_in hb).2).mono ?_
  rintro _ w2 ⟨v2, rfl, ⟨rfl, hb2⟩⟩
  refine ⟨_, rfl, ?_⟩
  have M2 := M1.callB hb2
  refine wl_q (r_assign (.int _ _) rfl) rfl rfl ?_
  refine wl_nil ?_
  refine thenN ?_
  refine W_ret ?_
  skip
  refine fin1 (.int _ _) rfl ?_
  exact ⟨rfl, M2.below⟩

set_option maxHeartbeats 4000000 in
theorem me_single (w : World) (b : Body) (hb : Okb b) :
    Calls Tryz.prog 36 #[(.agg (bodyCells b).toArray)] w (fun ex w' => ∃ v, ex = .returned v ∧ (fun v w' => v = (.agg (meCells (singleM b)).toArray) ∧ Below w.heap.size w w') v w') := by
  have hv := hb.v
  refine calls_of_W #[.cell 2 36] 21 Tryz.func36 rfl Tryz.results36 Tryz.ntmps36 rfl ?_
  have M0 := Mem.refl w
  refine W_seq ?_
  refine W_region ?_
  refine wl_box (.agg (List.toArray _)) M0 rfl rfl rfl (fun b1 w1 M1 => ?_)
  refine wl_alloc zero36 M1 rfl rfl (fun b2 w2 M2 => ?_)
  refine wl_nil ?_
  refine thenN ?_
  refine W_seq ?_
  refine W_tree (.op 0 1 (.op 2 0 (.op 3 0 (.op 4 1 (.op 5 0 (.op 6 0 (.op 7 0 (.op 8 1 (.op 9 0 (.op 10 1 (.fork 1 13 (.fork 11 13 (.op 12 0 (.op 13 2 (.op 14 2 .done))) (.op 11 2 (.op 12 0 (.op 14 2 .done)))) (.op 1 2 (.op 11 2 (.op 12 0 (.op 14 2 .done))))))))))))))) mixed rfl (by kernel_rfl) (fun w3 hb3 hh3 => ?_)
  have M3 := M2.drew hb3 hh3
  refine T_r rfl rfl rfl (r_ldW 0 agg32 M3 rfl rfl rfl) ?_
  refine T_p rfl rfl rfl (fun _ => r_fieldAddr 8 fld32_6 rfl) ?_
  refine T_p rfl rfl rfl (fun _ => r_fieldAddr 0 fld29_0 rfl) ?_
  refine T_r rfl rfl rfl (r_ld 0 (.int _ _) one21 M3 rfl rfl rfl) ?_
  refine T_p rfl rfl rfl (fun _ => r_convK us21 Tryz.underlying2 rfl (w64 _ (by omega) (by omega))) ?_
  refine T_p rfl rfl rfl (fun _ => r_fieldAddr 8 fld32_6 rfl) ?_
  refine T_p rfl rfl rfl (fun _ => r_fieldAddr 1 fld29_1 rfl) ?_
  refine T_r rfl rfl rfl (r_ld 0 (.int _ _) one21 M3 rfl rfl rfl) ?_
  refine T_p rfl rfl rfl (fun _ => r_convK us21 Tryz.underlying2 rfl (w64 _ (by omega) (by omega))) ?_
  refine T_r rfl rfl rfl (r_ldW 0 agg32 M3 rfl rfl rfl) ?_
  refine T_fork (Ac_mk [false, false, false, true] rfl (by kernel_rfl) ?_) (Ac_mk [false, false, false, false] rfl (by kernel_rfl) ?_)
  · skip
    refine wl_cal cal43 rfl rfl rfl ?_
    refine (me_speedSq _ b hb).mono ?_
    rintro _ w4 ⟨v4, rfl, ⟨rfl, hb4⟩⟩
    refine ⟨_, rfl, ?_⟩
    have M4 := M3.callB hb4
    refine wl_nil (thenN ⟨(alC (Yl_of rfl (r_ldW 0 agg32 M4 rfl rfl rfl)) (alC (Yl_of rfl (r_ld 0 (.int _ _) one21 M4 rfl rfl rfl)) (alC (Yl_of rfl (r_ld 0 (.int _ _) one21 M4 rfl rfl rfl)) alN))), ?_⟩)
    refine T_fork (Ac_mk [true, false, false] rfl (by kernel_rfl) ?_) (Ac_mk [false, false, false] rfl (by kernel_rfl) ?_)
    · skip
      refine wl_cal cal61 rfl rfl rfl ?_
      refine (box_Of _ b hb).mono ?_
      rintro _ w5 ⟨v5, rfl, ⟨rfl, hb5⟩⟩
      refine ⟨_, rfl, ?_⟩
      have M5 := M4.callB hb5
      refine wl_nil (thenN ⟨(alC (Yl_of rfl (r_ld 0 (.int _ _) one21 M5 rfl rfl rfl)) (alC (Yl_of rfl (r_ld 0 (.int _ _) one21 M5 rfl rfl rfl)) alN)), ?_⟩)
      refine T_p rfl rfl rfl (fun _ => r_build [(0, .int _ _), (2, .int _ _), (3, .int _ _), (4, .int _ _), (5, .agg (List.toArray _))] _ struct36 rfl rfl) ?_
      refine T_e (Ac_mk [false, false] rfl (by kernel_rfl) ?_)
      refine wl_alloc zero36 M5 rfl rfl (fun b6 w6 M6 => ?_)
      refine wl_nil (thenN ⟨(alC (Yl_of rfl (r_ld 0 (.int _ _) one21 M6 rfl rfl rfl)) (alC (Yl_of rfl (r_ld 0 (.int _ _) one21 M6 rfl rfl rfl)) alN)), ?_⟩)
      refine T_e (Ac_mk [true, true] rfl (by kernel_rfl) ?_)
      refine wl_stW 2 _ agg36 M6 rfl rfl rfl rfl rfl (ones_of rfl) rfl (fun w7 M7 => ?_)
      refine wl_nil (thenN ⟨alN, ?_⟩)
      refine T_nil ?_
      refine thenN ?_
      refine W_seq ?_
      refine W_seq ?_
      refine W_region ?_
      refine wl_q (r_ldW 0 agg32 M7 rfl rfl rfl) rfl rfl ?_
      refine wl_cal cal50 rfl rfl rfl ?_
      refine (body_IsStatic _ b).mono ?_
      rintro _ w8 ⟨v8, rfl, ⟨rfl, hb8⟩⟩
      refine ⟨_, rfl, ?_⟩
      have M8 := M7.callB hb8
      refine wl_nil ?_
      refine thenN ?_
      refine W_condD rfl (fun h18 => ?_) (fun h18 => ?_)
      · skip
        refine W_region ?_
        refine wl_q (r_fieldAddr 1 fld36_1 rfl) rfl rfl ?_
        refine wl_st 2 (.int _ _) one3 M8 rfl rfl rfl rfl rfl rfl (fun w9 M9 => ?_)
        refine wl_nil ?_
        refine thenN ?_
        refine W_seq ?_
        refine W_region ?_
        refine wl_q (r_ldW 2 agg36 M9 rfl rfl rfl) rfl rfl ?_
        refine wl_stW 1 _ agg36 M9 rfl rfl rfl rfl rfl (ones_of rfl) rfl (fun w10 M10 => ?_)
        refine wl_nil ?_
        refine thenN ?_
        refine W_ret ?_
        skip
        refine finC1 1 agg36 M10 rfl rfl rfl ?_
        exact ⟨by unfold singleM; first | (rw [if_pos h18]; rfl) | (rw [if_neg h18]; rfl), M10.below⟩
      · skip
        refine W_skip ?_
        refine thenN ?_
        refine W_seq ?_
        refine W_region ?_
        refine wl_q (r_ldW 2 agg36 M8 rfl rfl rfl) rfl rfl ?_
        refine wl_stW 1 _ agg36 M8 rfl rfl rfl rfl rfl (ones_of rfl) rfl (fun w11 M11 => ?_)
        refine wl_nil ?_
        refine thenN ?_
        refine W_ret ?_
        skip
        refine finC1 1 agg36 M11 rfl rfl rfl ?_
        exact ⟨by unfold singleM; first | (rw [if_pos h18]; rfl) | (rw [if_neg h18]; rfl), M11.below⟩
    · skip
      refine wl_alloc zero36 M4 rfl rfl (fun b12 w12 M12 => ?_)
      refine wl_nil (thenN ⟨(alC (Yl_of rfl (r_ldW 0 agg32 M12 rfl rfl rfl)) (alC (Yl_of rfl (r_ld 0 (.int _ _) one21 M12 rfl rfl rfl)) (alC (Yl_of rfl (r_ld 0 (.int _ _) one21 M12 rfl rfl rfl)) alN))), ?_⟩)
      refine T_e (Ac_mk [true, false, false] rfl (by kernel_rfl) ?_)
      refine wl_cal cal61 rfl rfl rfl ?_
      refine (box_Of _ b hb).mono ?_
      rintro _ w13 ⟨v13, rfl, ⟨rfl, hb13⟩⟩
      refine ⟨_, rfl, ?_⟩
      have M13 := M12.callB hb13
      refine wl_nil (thenN ⟨(alC (Yl_of rfl (r_ld 0 (.int _ _) one21 M13 rfl rfl rfl)) (alC (Yl_of rfl (r_ld 0 (.int _ _) one21 M13 rfl rfl rfl)) alN)), ?_⟩)
      refine T_p rfl rfl rfl (fun _ => r_build [(0, .int _ _), (2, .int _ _), (3, .int _ _), (4, .int _ _), (5, .agg (List.toArray _))] _ struct36 rfl rfl) ?_
      refine T_e (Ac_mk [true, true] rfl (by kernel_rfl) ?_)
      refine wl_stW 2 _ agg36 M13 rfl rfl rfl rfl rfl (ones_of rfl) rfl (fun w14 M14 => ?_)
      refine wl_nil (thenN ⟨alN, ?_⟩)
      refine T_nil ?_
      refine thenN ?_
      refine W_seq ?_
      refine W_seq ?_
      refine W_region ?_
      refine wl_q (r_ldW 0 agg32 M14 rfl rfl rfl) rfl rfl ?_
      refine wl_cal cal50 rfl rfl rfl ?_
      refine (body_IsStatic _ b).mono ?_
      rintro _ w15 ⟨v15, rfl, ⟨rfl, hb15⟩⟩
      refine ⟨_, rfl, ?_⟩
      have M15 := M14.callB hb15
      refine wl_nil ?_
      refine thenN ?_
      refine W_condD rfl (fun h18 => ?_) (fun h18 => ?_)
      · skip
        refine W_region ?_
        refine wl_q (r_fieldAddr 1 fld36_1 rfl) rfl rfl ?_
        refine wl_st 2 (.int _ _) one3 M15 rfl rfl rfl rfl rfl rfl (fun w16 M16 => ?_)
        refine wl_nil ?_
        refine thenN ?_
        refine W_seq ?_
        refine W_region ?_
        refine wl_q (r_ldW 2 agg36 M16 rfl rfl rfl) rfl rfl ?_
        refine wl_stW 1 _ agg36 M16 rfl rfl rfl rfl rfl (ones_of rfl) rfl (fun w17 M17 => ?_)
        refine wl_nil ?_
        refine thenN ?_
        refine W_ret ?_
        skip
        refine finC1 1 agg36 M17 rfl rfl rfl ?_
        exact ⟨by unfold singleM; first | (rw [if_pos h18]; rfl) | (rw [if_neg h18]; rfl), M17.below⟩
      · skip
        refine W_skip ?_
        refine thenN ?_
        refine W_seq ?_
        refine W_region ?_
        refine wl_q (r_ldW 2 agg36 M15 rfl rfl rfl) rfl rfl ?_
        refine wl_stW 1 _ agg36 M15 rfl rfl rfl rfl rfl (ones_of rfl) rfl (fun w18 M18 => ?_)
        refine wl_nil ?_
        refine thenN ?_
        refine W_ret ?_
        skip
        refine finC1 1 agg36 M18 rfl rfl rfl ?_
        exact ⟨by unfold singleM; first | (rw [if_pos h18]; rfl) | (rw [if_neg h18]; rfl), M18.below⟩
  · skip
    refine wl_alloc zero36 M3 rfl rfl (fun b19 w19 M19 => ?_)
    refine wl_nil (thenN ⟨(alC (Yl_of rfl (r_ldW 0 agg32 M19 rfl rfl rfl)) (alC (Yl_of rfl (r_ld 0 (.int _ _) one21 M19 rfl rfl rfl)) (alC (Yl_of rfl (r_ld 0 (.int _ _) one21 M19 rfl rfl rfl)) (alC (Yl_of rfl (r_ldW 0 agg32 M19 rfl rfl rfl)) alN)))), ?_⟩)
    refine T_e (Ac_mk [false, false, false, true] rfl (by kernel_rfl) ?_)
    refine wl_cal cal43 rfl rfl rfl ?_
    refine (me_speedSq _ b hb).mono ?_
    rintro _ w20 ⟨v20, rfl, ⟨rfl, hb20⟩⟩
    refine ⟨_, rfl, ?_⟩
    have M20 := M19.callB hb20
    refine wl_nil (thenN ⟨(alC (Yl_of rfl (r_ldW 0 agg32 M20 rfl rfl rfl)) (alC (Yl_of rfl (r_ld 0 (.int _ _) one21 M20 rfl rfl rfl)) (alC (Yl_of rfl (r_ld 0 (.int _ _) one21 M20 rfl rfl rfl)) alN))), ?_⟩)
    refine T_e (Ac_mk [true, false, false] rfl (by kernel_rfl) ?_)
    refine wl_cal cal61 rfl rfl rfl ?_
    refine (box_Of _ b hb).mono ?_
    rintro _ w21 ⟨v21, rfl, ⟨rfl, hb21⟩⟩
    refine ⟨_, rfl, ?_⟩
    have M21 := M20.callB hb21
    refine wl_nil (thenN ⟨(alC (Yl_of rfl (r_ld 0 (.int _ _) one21 M21 rfl rfl rfl)) (alC (Yl_of rfl (r_ld 0 (.int _ _) one21 M21 rfl rfl rfl)) alN)), ?_⟩)
    refine T_p rfl rfl rfl (fun _ => r_build [(0, .int _ _), (2, .int _ _), (3, .int _ _), (4, .int _ _), (5, .agg (List.toArray _))] _ struct36 rfl rfl) ?_
    refine T_e (Ac_mk [true, true] rfl (by kernel_rfl) ?_)
    refine wl_stW 2 _ agg36 M21 rfl rfl rfl rfl rfl (ones_of rfl) rfl (fun w22 M22 => ?_)
    refine wl_nil (thenN ⟨alN, ?_⟩)
    refine T_nil ?_
    refine thenN ?_
    refine W_seq ?_
    refine W_seq ?_
    refine W_region ?_
    refine wl_q (r_ldW 0 agg32 M22 rfl rfl rfl) rfl rfl ?_
    refine wl_cal cal50 rfl rfl rfl ?_
    refine (body_IsStatic _ b).mono ?_
    rintro _ w23 ⟨v23, rfl, ⟨rfl, hb23⟩⟩
    refine ⟨_, rfl, ?_⟩
    have M23 := M22.callB hb23
    refine wl_nil ?_
    refine thenN ?_
    refine W_condD rfl (fun h18 => ?_) (fun h18 => ?_)
    · skip
      refine W_region ?_
      refine wl_q (r_fieldAddr 1 fld36_1 rfl) rfl rfl ?_
      refine wl_st 2 (.int _ _) one3 M23 rfl rfl rfl rfl rfl rfl (fun w24 M24 => ?_)
      refine wl_nil ?_
      refine thenN ?_
      refine W_seq ?_
      refine W_region ?_
      refine wl_q (r_ldW 2 agg36 M24 rfl rfl rfl) rfl rfl ?_
      refine wl_stW 1 _ agg36 M24 rfl rfl rfl rfl rfl (ones_of rfl) rfl (fun w25 M25 => ?_)
      refine wl_nil ?_
      refine thenN ?_
      refine W_ret ?_
      skip
      refine finC1 1 agg36 M25 rfl rfl rfl ?_
      exact ⟨by unfold singleM; first | (rw [if_pos h18]; rfl) | (rw [if_neg h18]; rfl), M25.below⟩
    · skip
      refine W_skip ?_
      refine thenN ?_
      refine W_seq ?_
      refine W_region ?_
      refine wl_q (r_ldW 2 agg36 M23 rfl rfl rfl) rfl rfl ?_
      refine wl_stW 1 _ agg36 M23 rfl rfl rfl rfl rfl (ones_of rfl) rfl (fun w26 M26 => ?_)
      refine wl_nil ?_
      refine thenN ?_
      refine W_ret ?_
      skip
      refine finC1 1 agg36 M26 rfl rfl rfl ?_
      exact ⟨by unfold singleM; first | (rw [if_pos h18]; rfl) | (rw [if_neg h18]; rfl), M26.below⟩

set_option maxHeartbeats 4000000 in
theorem me_Merge (w : World) (N : Rd w 4 (some ⟨0, 0, none⟩) 1 [bxCells noneB]) (a b : Meas) (j k : Nat) (ha : OkM j a) (hb : OkM k b) (hj : j ≤ 32768) (hk : k ≤ 32768) :
    Calls Tryz.prog 21 #[(.agg (meCells a).toArray), (.agg (meCells b).toArray)] w (fun ex w' => ∃ v, ex = .returned v ∧ (fun v w' => v = (.agg (meCells (mergeM a b)).toArray) ∧ Below w.heap.size w w') v w') := by
  have h1 := okM_bnd ha hj
  have h2 := okM_bnd hb hk
  refine calls_of_W #[.cell 4 36] 41 Tryz.func21 rfl Tryz.results21 Tryz.ntmps21 rfl ?_
  have M0 := Mem.refl w
  refine W_seq ?_
  refine W_region ?_
  refine wl_box (.agg (List.toArray _)) M0 rfl rfl rfl (fun b1 w1 M1 => ?_)
  refine wl_box (.agg (List.toArray _)) M1 rfl rfl rfl (fun b2 w2 M2 => ?_)
  refine wl_alloc zero36 M2 rfl rfl (fun b3 w3 M3 => ?_)
  refine wl_nil ?_
  refine thenN ?_
  refine W_seq ?_
  refine W_draw [(0, 0), (1, 1), (2, 0), (3, 1), (4, 0), (5, 0), (6, 1), (7, 0), (8, 1), (9, 0), (10, 0), (11, 1), (12, 0), (13, 1), (14, 0), (15, 0), (16, 1), (17, 0), (18, 1), (19, 0), (20, 0), (21, 1), (22, 0), (23, 1), (24, 0), (25, 0), (26, 1), (27, 0), (28, 1), (30, 0), (31, 1), (32, 0), (33, 1), (34, 0), (29, 2), (35, 0), (36, 2)] mixed rfl (by kernel_rfl) (fun w4 hb4 hh4 => ?_)
  have M4 := M3.drew hb4 hh4
  refine D_p rfl rfl rfl (fun _ => r_fieldAddr 0 fld36_0 rfl) ?_
  refine D_r rfl rfl rfl (r_ld 0 (.int _ _) one3 M4 rfl rfl rfl) ?_
  refine D_p rfl rfl rfl (fun _ => r_fieldAddr 0 fld36_0 rfl) ?_
  refine D_r rfl rfl rfl (r_ld 1 (.int _ _) one3 M4 rfl rfl rfl) ?_
  refine D_p rfl rfl rfl (fun _ => r_add rfl rfl (by omega) (by omega)) ?_
  refine D_p rfl rfl rfl (fun _ => r_fieldAddr 1 fld36_1 rfl) ?_
  refine D_r rfl rfl rfl (r_ld 0 (.int _ _) one3 M4 rfl rfl rfl) ?_
  refine D_p rfl rfl rfl (fun _ => r_fieldAddr 1 fld36_1 rfl) ?_
  refine D_r rfl rfl rfl (r_ld 1 (.int _ _) one3 M4 rfl rfl rfl) ?_
  refine D_p rfl rfl rfl (fun _ => r_add rfl rfl (by omega) (by omega)) ?_
  refine D_p rfl rfl rfl (fun _ => r_fieldAddr 2 fld36_2 rfl) ?_
  refine D_r rfl rfl rfl (r_ld 0 (.int _ _) one26 M4 rfl rfl rfl) ?_
  refine D_p rfl rfl rfl (fun _ => r_fieldAddr 2 fld36_2 rfl) ?_
  refine D_r rfl rfl rfl (r_ld 1 (.int _ _) one26 M4 rfl rfl rfl) ?_
  refine D_p rfl rfl rfl (fun _ => r_max2 rfl rfl ) ?_
  refine D_re 19 (.int .u64 ((max a.sp b.sp : Nat) : Int)) (iE (by omega)) ?_
  refine D_p rfl rfl rfl (fun _ => r_fieldAddr 3 fld36_3 rfl) ?_
  refine D_r rfl rfl rfl (r_ld 0 (.int _ _) one2 M4 rfl rfl rfl) ?_
  refine D_p rfl rfl rfl (fun _ => r_fieldAddr 3 fld36_3 rfl) ?_
  refine D_r rfl rfl rfl (r_ld 1 (.int _ _) one2 M4 rfl rfl rfl) ?_
  refine D_p rfl rfl rfl (fun _ => r_add rfl rfl (by omega) (by omega)) ?_
  refine D_p rfl rfl rfl (fun _ => r_fieldAddr 4 fld36_4 rfl) ?_
  refine D_r rfl rfl rfl (r_ld 0 (.int _ _) one2 M4 rfl rfl rfl) ?_
  refine D_p rfl rfl rfl (fun _ => r_fieldAddr 4 fld36_4 rfl) ?_
  refine D_r rfl rfl rfl (r_ld 1 (.int _ _) one2 M4 rfl rfl rfl) ?_
  refine D_p rfl rfl rfl (fun _ => r_add rfl rfl (by omega) (by omega)) ?_
  refine D_p rfl rfl rfl (fun _ => r_fieldAddr 5 fld36_5 rfl) ?_
  refine D_r rfl rfl rfl (r_ldA 0 _ agg34 M4 rfl rfl rfl rfl) ?_
  refine D_p rfl rfl rfl (fun _ => r_fieldAddr 5 fld36_5 rfl) ?_
  refine D_r rfl rfl rfl (r_ldA 1 _ agg34 M4 rfl rfl rfl rfl) ?_
  refine D_p rfl rfl rfl (fun _ => r_fieldAddr 9 fld36_6 rfl) ?_
  refine D_r rfl rfl rfl (r_ld 0 (.int _ _) one2 M4 rfl rfl rfl) ?_
  refine D_p rfl rfl rfl (fun _ => r_fieldAddr 9 fld36_6 rfl) ?_
  refine D_r rfl rfl rfl (r_ld 1 (.int _ _) one2 M4 rfl rfl rfl) ?_
  refine D_p rfl rfl rfl (fun _ => r_add rfl rfl (by omega) (by omega)) ?_
  refine D_e [false, false, true, true, false, false, false, false, false, false, false, false, false, false] rfl (by kernel_rfl) ?_
  refine wl_cal cal45 rfl rfl rfl ?_
  refine (box_Union _ (N.mem M4) a.bx b.bx).mono ?_
  rintro _ w5 ⟨v5, rfl, ⟨rfl, hb5⟩⟩
  refine ⟨_, rfl, ?_⟩
  have M5 := M4.callB hb5
  refine wl_nil (thenN ⟨(alC (Yl_of rfl (r_ld 1 (.int _ _) one2 M5 rfl rfl rfl)) (alC (Yl_of rfl (r_ld 0 (.int _ _) one2 M5 rfl rfl rfl)) (alC (Yl_of rfl (r_ld 1 (.int _ _) one2 M5 rfl rfl rfl)) (alC (Yl_of rfl (r_ld 0 (.int _ _) one2 M5 rfl rfl rfl)) (alC (Yl_of rfl (r_ld 1 (.int _ _) one2 M5 rfl rfl rfl)) (alC (Yl_of rfl (r_ld 0 (.int _ _) one2 M5 rfl rfl rfl)) (alC (Yl_of rfl (r_ld 1 (.int _ _) one26 M5 rfl rfl rfl)) (alC (Yl_of rfl (r_ld 0 (.int _ _) one26 M5 rfl rfl rfl)) (alC (Yl_of rfl (r_ld 1 (.int _ _) one3 M5 rfl rfl rfl)) (alC (Yl_of rfl (r_ld 0 (.int _ _) one3 M5 rfl rfl rfl)) (alC (Yl_of rfl (r_ld 1 (.int _ _) one3 M5 rfl rfl rfl)) (alC (Yl_of rfl (r_ld 0 (.int _ _) one3 M5 rfl rfl rfl)) alN)))))))))))), ?_⟩)
  refine D_p rfl rfl rfl (fun _ => r_build [(0, .int _ _), (1, .int _ _), (2, .int _ _), (3, .int _ _), (4, .int _ _), (5, .agg (List.toArray _)), (6, .int _ _)] _ struct36 rfl rfl) ?_
  refine D_e [true, true, true, true, true, true, true, true, true, true, true, true] rfl (by kernel_rfl) ?_
  refine wl_stW 2 _ agg36 M5 rfl rfl rfl rfl rfl (ones_of rfl) rfl (fun w6 M6 => ?_)
  refine wl_nil (thenN ⟨alN, ?_⟩)
  refine D_nil ?_
  refine thenN ?_
  refine W_ret ?_
  skip
  refine finC1 2 agg36 M6 rfl rfl rfl ?_
  exact ⟨rfl, M6.below⟩

set_option maxHeartbeats 8000000 in
theorem me_fold (w : World) (N : Rd w 4 (some ⟨0, 0, none⟩) 1 [bxCells noneB]) (A : Option Addr) (n c : Nat) (xs : List Body) (R : Rd w 10 A n (xs.map bodyCells)) (hb : ∀ b ∈ xs, Okb b) (m : Meas) (j : Nat) (hm : OkM j m) (hj : j + n < 32768) :
    Calls Tryz.prog 35 #[.slice A n c, (.agg (meCells m).toArray), .func (.func 36) #[] #[], .func (.func 21) #[] #[]] w (fun ex w' => ∃ v, ex = .returned v ∧ (fun v w' => v = (.agg (meCells (xs.foldl (fun m b => mergeM m (singleM b)) m)).toArray) ∧ Below w.heap.size w w') v w') := by
  have hlen : xs.length = n := by simpa using R.len
  have hbd := R.bound
  refine calls_of_W #[.cell 8 36] 25 Tryz.func35 rfl Tryz.results35 Tryz.ntmps35 rfl ?_
  have M0 := Mem.refl w
  refine W_seq ?_
  refine W_region ?_
  refine wl_box (.agg (List.toArray _)) M0 rfl rfl rfl (fun b1 w1 M1 => ?_)
  refine wl_alloc zero36 M1 rfl rfl (fun b2 w2 M2 => ?_)
  refine wl_nil ?_
  refine thenN ?_
  refine W_seq ?_
  refine W_seq ?_
  refine W_region ?_
  refine wl_q (r_move (.slice _ _ _) rfl) rfl rfl ?_
  refine wl_q (r_lenS Tryz.underlying22 rfl) rfl rfl ?_
  refine wl_q (r_move (.int _ _) rfl) rfl rfl ?_
  refine wl_nil ?_
  refine thenN ?_
  refine W_block ?_
  refine W_loop (σ := Nat) [2, 3, 5, 8, 11, 12] (fun k => [(13, .int .i64 (k : Int))]) (fun k w' => (k ≤ n ∧ OkM (j + k) ((xs.take k).foldl (fun m b => mergeM m (singleM b)) m)) ∧ Mem w [] [(some b1, bc (meCells ((xs.take k).foldl (fun m b => mergeM m (singleM b)) m)) 36), (some b2, bc [.int .i64 0, .int .i64 0, .int .u64 0, .int .i64 0, .int .i64 0, .int .i32 0, .int .i32 0, .int .i32 0, .int .i32 0, .int .i64 0] 36)] w') (fun k => n - k) 0 (agC rfl agN) (⟨⟨by omega, hm⟩, M2⟩) ?_
  rintro k ρ3 w3 ⟨⟨hk, hok⟩, hM3⟩
  refine W_seq ?_
  refine W_region ?_
  refine wl_q (r_bin (.bool (decide _)) rfl rfl rfl) rfl rfl ?_
  refine wl_nil ?_
  refine thenN ?_
  refine W_seq ?_
  refine W_condD rfl (fun h14 => ?_) (fun h14 => ?_)
  · skip
    obtain ⟨xb, hxb⟩ := getSome (k := k) hlen (by omega)
    have hfs : ((xs.take (k + 1)).foldl (fun m b => mergeM m (singleM b)) m) = mergeM ((xs.take k).foldl (fun m b => mergeM m (singleM b)) m) (singleM xb) := by rw [take_snoc hxb, List.foldl_append]; rfl
    refine W_skip ?_
    refine thenN ?_
    refine W_seq ?_
    refine W_block ?_
    refine W_seq ?_
    refine W_region ?_
    refine wl_q (r_idxR (k) sl22 rfl rfl rfl ((R.mem hM3).below_len (mapGet bodyCells hxb)) ((R.mem hM3).someK (mapGet bodyCells hxb))) rfl rfl ?_
    refine wl_q (r_ldEA _ agg32 (R.mem hM3) (mapGet bodyCells hxb) rfl) rfl rfl ?_
    refine wl_alloc zero32 hM3 rfl rfl (fun b4 w4 M4 => ?_)
    refine wl_stW 2 _ agg32 M4 rfl rfl rfl rfl rfl (ones_of rfl) rfl (fun w5 M5 => ?_)
    refine wl_nil ?_
    refine thenN ?_
    refine W_draw [(0, 0), (1, 1), (2, 0), (3, 1), (4, 2), (5, 2), (6, 2)] mixed rfl (by kernel_rfl) (fun w6 hb6 hh6 => ?_)
    have M6 := M5.drew hb6 hh6
    refine D_p rfl rfl rfl (fun _ => r_move (.func _ _ _) rfl) ?_
    refine D_r rfl rfl rfl (r_ldW 0 agg36 M6 rfl rfl rfl) ?_
    refine D_p rfl rfl rfl (fun _ => r_move (.func _ _ _) rfl) ?_
    refine D_r rfl rfl rfl (r_ldW 2 agg32 M6 rfl rfl rfl) ?_
    refine D_e [true, false] rfl (by kernel_rfl) ?_
    refine wl_cal cal36 rfl rfl rfl ?_
    refine (me_single _ xb (hb xb (List.mem_of_getElem? hxb))).mono ?_
    rintro _ w7 ⟨v7, rfl, ⟨rfl, hb7⟩⟩
    refine ⟨_, rfl, ?_⟩
    have M7 := M6.callB hb7
    refine wl_nil (thenN ⟨(alC (Yl_of rfl (r_ldW 0 agg36 M7 rfl rfl rfl)) alN), ?_⟩)
    refine D_e [true] rfl (by kernel_rfl) ?_
    refine wl_cal cal21 rfl rfl rfl ?_
    refine (me_Merge _ (N.mem M7) ((xs.take k).foldl (fun m b => mergeM m (singleM b)) m) (singleM xb) (j + k) 1 hok (okM_single (hb xb (List.mem_of_getElem? hxb))) (by omega) (by omega)).mono ?_
    rintro _ w8 ⟨v8, rfl, ⟨rfl, hb8⟩⟩
    refine ⟨_, rfl, ?_⟩
    have M8 := M7.callB hb8
    refine wl_nil (thenN ⟨alN, ?_⟩)
    refine D_e [] rfl (by kernel_rfl) ?_
    refine wl_stW 0 _ agg36 M8 rfl rfl rfl rfl rfl (ones_of rfl) rfl (fun w9 M9 => ?_)
    refine wl_nil (thenN ⟨alN, ?_⟩)
    refine D_nil ?_
    refine blkN ?_
    refine thenN ?_
    refine W_region ?_
    refine wl_q (r_add rfl rfl (by omega) (by omega)) rfl rfl ?_
    refine wl_q (r_move (.int _ _) rfl) rfl rfl ?_
    refine wl_nil ?_
    refine roundN (k + 1) (agC rfl agN) (akC rfl (akC rfl (akC rfl (akC rfl (akC rfl (akC rfl akN)))))) ?_ ?_
    · exact ⟨⟨by omega, by rw [hfs]; exact (show OkM (j + k + 1) _ from okM_merge hok (okM_single (hb xb (List.mem_of_getElem? hxb))))⟩, by rw [hfs]; exact M9.keep [true, true, false]⟩
    · omega
  · skip
    have hkn : k = n := by omega
    rw [List.take_of_length_le (by omega)] at hM3
    refine W_exit ?_
    refine thenX ?_
    refine roundX ?_
    refine blkH ?_
    refine thenN ?_
    refine W_seq ?_
    refine W_region ?_
    refine wl_q (r_ldW 0 agg36 hM3 rfl rfl rfl) rfl rfl ?_
    refine wl_stW 1 _ agg36 hM3 rfl rfl rfl rfl rfl (ones_of rfl) rfl (fun w10 M10 => ?_)
    refine wl_nil ?_
    refine thenN ?_
    refine W_ret ?_
    skip
    refine finC1 1 agg36 M10 rfl rfl rfl ?_
    exact ⟨rfl, M10.below⟩

set_option maxHeartbeats 4000000 in
theorem me_depth (w : World) (c : Con) (hd : -2147483648 ≤ c.depth ∧ c.depth ≤ 2147483647) :
    Calls Tryz.prog 38 #[(.agg (conCells c).toArray)] w (fun ex w' => ∃ v, ex = .returned v ∧ (fun v w' => v = .int .i64 c.depth ∧ Below w.heap.size w w') v w') := by
  refine calls_of_W #[.tmp 2] 6 Tryz.func38 rfl Tryz.results38 Tryz.ntmps38 rfl ?_
  have M0 := Mem.refl w
  refine W_seq ?_
  refine W_region ?_
  refine wl_box (.agg (List.toArray _)) M0 rfl rfl rfl (fun b1 w1 M1 => ?_)
  refine wl_q (r_assign (.int _ _) rfl) rfl rfl ?_
  refine wl_nil ?_
  refine thenN ?_
  refine W_seq ?_
  refine W_region ?_
  refine wl_q (r_fieldAddr 4 fld63_2 rfl) rfl rfl ?_
  refine wl_q (r_ld 0 (.int _ _) one21 M1 rfl rfl rfl) rfl rfl ?_
  refine wl_q (r_convK us21 Tryz.underlying2 rfl (w64 _ (by omega) (by omega))) rfl rfl ?_
  refine wl_q (r_assign (.int _ _) rfl) rfl rfl ?_
  refine wl_nil ?_
  refine thenN ?_
  refine W_ret ?_
  skip
  refine fin1 (.int _ _) rfl ?_
  exact ⟨rfl, M1.below⟩

set_option maxHeartbeats 4000000 in
theorem me_plus (w : World) (x y : Int) (h : -9223372036854775808 ≤ x + y ∧ x + y ≤ 9223372036854775807) :
    Calls Tryz.prog 39 #[.int .i64 x, .int .i64 y] w (fun ex w' => ∃ v, ex = .returned v ∧ (fun v w' => v = .int .i64 (x + y) ∧ Below w.heap.size w w') v w') := by
  refine calls_of_W #[.tmp 4] 8 Tryz.func39 rfl Tryz.results39 Tryz.ntmps39 rfl ?_
  have M0 := Mem.refl w
  refine W_seq ?_
  refine W_region ?_
  refine wl_q (r_assign (.int _ _) rfl) rfl rfl ?_
  refine wl_nil ?_
  refine thenN ?_
  refine W_seq ?_
  refine W_region ?_
  refine wl_q (r_move (.int _ _) rfl) rfl rfl ?_
  refine wl_q (r_move (.int _ _) rfl) rfl rfl ?_
  refine wl_q (r_add rfl rfl (by omega) (by omega)) rfl rfl ?_
  refine wl_q (r_assign (.int _ _) rfl) rfl rfl ?_
  refine wl_nil ?_
  refine thenN ?_
  refine W_ret ?_
  skip
  refine fin1 (.int _ _) rfl ?_
  exact ⟨rfl, M0.below⟩

set_option maxHeartbeats 4000000 in
theorem me_foldC (w : World) (A : Option Addr) (n c : Nat) (xs : List Con) (R : Rd w 5 A n (xs.map conCells)) (hd : ∀ c ∈ xs, -2147483648 ≤ c.depth ∧ c.depth ≤ 2147483647) (hn : n ≤ 1073741824) :
    Calls Tryz.prog 37 #[.slice A n c, .int .i64 0, .func (.func 38) #[] #[], .func (.func 39) #[] #[]] w (fun ex w' => ∃ v, ex = .returned v ∧ (fun v w' => v = .int .i64 (dsum xs) ∧ Below w.heap.size w w') v w') := by
  have hlen : xs.length = n := by simpa using R.len
  have hbd := R.bound
  refine calls_of_W #[.tmp 8] 25 Tryz.func37 rfl Tryz.results37 Tryz.ntmps37 rfl ?_
  have M0 := Mem.refl w
  refine W_seq ?_
  refine W_region ?_
  refine wl_q (r_assign (.int _ _) rfl) rfl rfl ?_
  refine wl_nil ?_
  refine thenN ?_
  refine W_seq ?_
  refine W_seq ?_
  refine W_region ?_
  refine wl_q (r_move (.slice _ _ _) rfl) rfl rfl ?_
  refine wl_q (r_lenS Tryz.underlying45 rfl) rfl rfl ?_
  refine wl_q (r_move (.int _ _) rfl) rfl rfl ?_
  refine wl_nil ?_
  refine thenN ?_
  refine W_block ?_
  refine W_loop (σ := Nat) [2, 3, 8, 11, 12] (fun k => [(1, .int .i64 (dsum (xs.take k))), (13, .int .i64 (k : Int))]) (fun k w' => k ≤ n ∧ Mem w [] [] w') (fun k => n - k) 0 (agC (iv rfl (by simp [dsum])) (agC rfl agN)) (⟨by omega, M0⟩) ?_
  rintro k ρ1 w1 ⟨hk, hM1⟩
  have hdb := dsum_le (l := xs.take k) (fun c hc => hd c ((List.take_sublist _ _).subset hc))
  have htl := List.length_take_le k xs
  refine W_seq ?_
  refine W_region ?_
  refine wl_q (r_bin (.bool (decide _)) rfl rfl rfl) rfl rfl ?_
  refine wl_nil ?_
  refine thenN ?_
  refine W_seq ?_
  refine W_condD rfl (fun h14 => ?_) (fun h14 => ?_)
  · skip
    obtain ⟨xc, hxc⟩ := getSome (k := k) hlen (by omega)
    have hcd := hd xc (List.mem_of_getElem? hxc)
    refine W_skip ?_
    refine thenN ?_
    refine W_seq ?_
    refine W_block ?_
    refine W_seq ?_
    refine W_region ?_
    refine wl_q (r_idxR (k) sl45 rfl rfl rfl ((R.mem hM1).below_len (mapGet conCells hxc)) ((R.mem hM1).someK (mapGet conCells hxc))) rfl rfl ?_
    refine wl_q (r_ldEA _ agg63 (R.mem hM1) (mapGet conCells hxc) rfl) rfl rfl ?_
    refine wl_alloc zero63 hM1 rfl rfl (fun b2 w2 M2 => ?_)
    refine wl_stW 0 _ agg63 M2 rfl rfl rfl rfl rfl (ones_of rfl) rfl (fun w3 M3 => ?_)
    refine wl_nil ?_
    refine thenN ?_
    refine W_region ?_
    refine wl_q (r_move (.func _ _ _) rfl) rfl rfl ?_
    refine wl_q (r_move (.int _ _) rfl) rfl rfl ?_
    refine wl_q (r_move (.func _ _ _) rfl) rfl rfl ?_
    refine wl_q (r_ldW 0 agg63 M3 rfl rfl rfl) rfl rfl ?_
    refine wl_cal cal38 rfl rfl rfl ?_
    refine (me_depth _ xc hcd).mono ?_
    rintro _ w4 ⟨v4, rfl, ⟨rfl, hb4⟩⟩
    refine ⟨_, rfl, ?_⟩
    have M4 := M3.callB hb4
    refine wl_cal cal39 rfl rfl rfl ?_
    refine (me_plus _ (dsum (xs.take k)) xc.depth (by omega)).mono ?_
    rintro _ w5 ⟨v5, rfl, ⟨rfl, hb5⟩⟩
    refine ⟨_, rfl, ?_⟩
    have M5 := M4.callB hb5
    refine wl_q (r_assign (.int _ _) rfl) rfl rfl ?_
    refine wl_nil ?_
    refine blkN ?_
    refine thenN ?_
    refine W_region ?_
    refine wl_q (r_add rfl rfl (by omega) (by omega)) rfl rfl ?_
    refine wl_q (r_move (.int _ _) rfl) rfl rfl ?_
    refine wl_nil ?_
    refine roundN (k + 1) (agC (iv rfl (dsum_snoc hxc).symm) (agC rfl agN)) (akC rfl (akC rfl (akC rfl (akC rfl (akC rfl akN))))) ?_ ?_
    · exact ⟨by omega, M5.keep [false]⟩
    · omega
  · skip
    have hkn : k = n := by omega
    refine W_exit ?_
    refine thenX ?_
    refine roundX ?_
    refine blkH ?_
    refine thenN ?_
    refine W_seq ?_
    refine W_region ?_
    refine wl_q (r_move (.int _ _) rfl) rfl rfl ?_
    refine wl_q (r_assign (.int _ _) rfl) rfl rfl ?_
    refine wl_nil ?_
    refine thenN ?_
    refine W_ret ?_
    skip
    refine fin1 (.int _ _) rfl ?_
    exact ⟨iE (by rw [List.take_of_length_le (by omega)]), hM1.below⟩

set_option maxHeartbeats 8000000 in
theorem me_Of (w : World) (F : Rd w 2 (some ⟨1, 0, none⟩) 1 [[.int .u32 73856093, .int .u32 19349663]]) (N : Rd w 4 (some ⟨0, 0, none⟩) 1 [bxCells noneB]) (A : Option Addr) (n c : Nat) (xs : List Body) (R : Rd w 10 A n (xs.map bodyCells)) (hb : ∀ b ∈ xs, Okb b) (hs : Sorted xs) (hn : n ≤ 4096) :
    Calls Tryz.prog 17 #[.slice A n c] w (fun ex w' => ∃ v, ex = .returned v ∧ (fun v w' => v = (.agg (meCells (meOf xs)).toArray) ∧ Below w.heap.size w w') v w') := by
  have hlen : xs.length = n := by simpa using R.len
  have hbd := R.bound
  refine calls_of_W #[.cell 2 36] 21 Tryz.func17 rfl Tryz.results17 Tryz.ntmps17 rfl ?_
  have M0 := Mem.refl w
  refine W_seq ?_
  refine W_region ?_
  refine wl_alloc zero36 M0 rfl rfl (fun b1 w1 M1 => ?_)
  refine wl_nil ?_
  refine thenN ?_
  refine W_seq ?_
  refine W_region ?_
  refine wl_q (r_build [(0, .int _ _)] _ struct34 rfl rfl) rfl rfl ?_
  refine wl_q (r_build [(5, .agg (List.toArray _))] _ struct36 rfl rfl) rfl rfl ?_
  refine wl_alloc zero36 M1 rfl rfl (fun b2 w2 M2 => ?_)
  refine wl_stW 1 _ agg36 M2 rfl rfl rfl rfl rfl (ones_of rfl) rfl (fun w3 M3 => ?_)
  refine wl_nil ?_
  refine thenN ?_
  refine W_seq ?_
  refine W_region ?_
  refine wl_q (r_move (.slice _ _ _) rfl) rfl rfl ?_
  refine wl_cal cal34 rfl rfl rfl ?_
  refine (contacts_All _ (F.mem M3) (N.mem M3) _ _ _ xs (R.mem M3) hb hs (by first | decide | omega)).mono ?_
  rintro _ w4 ⟨v4, rfl, ⟨r0, m0, rfl, hfm0, hgm0, hr0, hM4⟩⟩
  refine ⟨_, rfl, ?_⟩
  have M4 : Mem _ _ [_, _, _] _ := M3.call0 hM4
  have hcl : (allC xs).length = r0.n := by simpa using hr0.1
  have hsq := allC_sq (xs := xs)
  have hnn : xs.length * xs.length ≤ 4096 * 4096 := Nat.mul_le_mul (by omega) (by omega)
  refine wl_q (r_move (.tuple (List.toArray _)) rfl) rfl rfl ?_
  refine wl_q (r_ext (.slice _ _ _) rfl rfl) rfl rfl ?_
  refine wl_q (r_ext (.int _ _) rfl rfl) rfl rfl ?_
  refine wl_q (r_assign (.slice _ _ _) rfl) rfl rfl ?_
  refine wl_q (r_assign (.int _ _) rfl) rfl rfl ?_
  refine wl_nil ?_
  refine thenN ?_
  refine W_seq ?_
  refine W_region ?_
  refine wl_q (r_move (.slice _ _ _) rfl) rfl rfl ?_
  refine wl_q (r_ldW 1 agg36 M4 rfl rfl rfl) rfl rfl ?_
  refine wl_cal cal35 rfl rfl rfl ?_
  refine (me_fold _ (N.mem M4) _ _ _ xs (R.mem M4) hb none0 0 okM_none (by omega)).mono ?_
  rintro _ w5 ⟨v5, rfl, ⟨rfl, hb5⟩⟩
  refine ⟨_, rfl, ?_⟩
  have M5 := M4.callB hb5
  refine wl_re 16 ((.agg (meCells (meF xs)).toArray)) rfl ?_
  refine wl_alloc zero36 M5 rfl rfl (fun b6 w6 M6 => ?_)
  refine wl_stW 3 _ agg36 M6 rfl rfl rfl rfl rfl (ones_of rfl) rfl (fun w7 M7 => ?_)
  refine wl_nil ?_
  refine thenN ?_
  refine W_seq ?_
  refine W_region ?_
  refine wl_q (r_move (.slice _ _ _) rfl) rfl rfl ?_
  refine wl_cal cal37 rfl rfl rfl ?_
  refine (me_foldC _ _ _ _ (allC xs) (hr0.rd M7 (nthMem (i := 2) rfl)) (allC_depth hs) (by omega)).mono ?_
  rintro _ w8 ⟨v8, rfl, ⟨rfl, hb8⟩⟩
  refine ⟨_, rfl, ?_⟩
  have M8 := M7.callB hb8
  refine wl_q (r_fieldAddr 9 fld36_6 rfl) rfl rfl ?_
  refine wl_st 3 (.int _ _) one2 M8 rfl rfl rfl rfl rfl rfl (fun w9 M9 => ?_)
  refine wl_nil ?_
  refine thenN ?_
  refine W_seq ?_
  refine W_region ?_
  refine wl_q (r_ldW 3 agg36 M9 rfl rfl rfl) rfl rfl ?_
  refine wl_stW 0 _ agg36 M9 rfl rfl rfl rfl rfl (ones_of rfl) rfl (fun w10 M10 => ?_)
  refine wl_nil ?_
  refine thenN ?_
  refine W_ret ?_
  skip
  refine finC1 0 agg36 M10 rfl rfl rfl ?_
  exact ⟨rfl, M10.below⟩

set_option maxHeartbeats 4000000 in
theorem me_quiet1 (w : World) (b : Body) (hb : Okb b) (bl L : Nat) (K : Rd w 1 (some ⟨bl, 0, none⟩) 1 [[.int .u64 (L : Int)]]) :
    Calls Tryz.prog 42 #[(.agg (bodyCells b).toArray), .pointer (some ⟨bl, 0, none⟩)] w (fun ex w' => ∃ v, ex = .returned v ∧ (fun v w' => v = .bool (decide (lsq b.vx b.vy ≤ L)) ∧ Below w.heap.size w w') v w') := by
  rw [← elt_zero bl]
  refine calls_of_W #[.tmp 3] 8 Tryz.func42 rfl Tryz.results42 Tryz.ntmps42 rfl ?_
  have M0 := Mem.refl w
  refine W_seq ?_
  refine W_region ?_
  refine wl_box (.agg (List.toArray _)) M0 rfl rfl rfl (fun b1 w1 M1 => ?_)
  refine wl_q (r_assign (.bool false) rfl) rfl rfl ?_
  refine wl_nil ?_
  refine thenN ?_
  refine W_seq ?_
  refine W_draw [(0, 1), (2, 1), (1, 2), (3, 0), (4, 0)] mixed rfl (by kernel_rfl) (fun w2 hb2 hh2 => ?_)
  have M2 := M1.drew hb2 hh2
  refine D_r rfl rfl rfl (r_ldW 0 agg32 M2 rfl rfl rfl) ?_
  refine D_r rfl rfl rfl (r_ldE (o := 0) (.int _ _) one26 (K.mem M2) (show ([[.int .u64 (L : Int)]] : List (List Value))[0]? = some [.int .u64 (L : Int)] from rfl) rfl rfl) ?_
  refine D_e [false, true] rfl (by kernel_rfl) ?_
  refine wl_cal cal43 rfl rfl rfl ?_
  refine (me_speedSq _ b hb).mono ?_
  rintro _ w3 ⟨v3, rfl, ⟨rfl, hb3⟩⟩
  refine ⟨_, rfl, ?_⟩
  have M3 := M2.callB hb3
  refine wl_nil (thenN ⟨(alC (Yl_of rfl (r_ldE (o := 0) (.int _ _) one26 (K.mem M3) (show ([[.int .u64 (L : Int)]] : List (List Value))[0]? = some [.int .u64 (L : Int)] from rfl) rfl rfl)) alN), ?_⟩)
  refine D_p rfl rfl rfl (fun _ => r_bin (.bool (decide _)) rfl rfl rfl) ?_
  refine D_p rfl rfl rfl (fun _ => r_assign (.bool (decide _)) rfl) ?_
  refine D_nil ?_
  refine thenN ?_
  refine W_ret ?_
  skip
  refine fin1 (.bool (decide _)) rfl ?_
  exact ⟨bD (by omega), M3.below⟩

set_option maxHeartbeats 4000000 in
theorem me_quiet2 (w : World) (x y : Bool) :
    Calls Tryz.prog 44 #[.bool x, .bool y] w (fun ex w' => ∃ v, ex = .returned v ∧ (fun v w' => v = .bool (x && y) ∧ Below w.heap.size w w') v w') := by
  refine calls_of_W #[.tmp 4] 9 Tryz.func44 rfl Tryz.results44 Tryz.ntmps44 rfl ?_
  have M0 := Mem.refl w
  refine W_seq ?_
  refine W_region ?_
  refine wl_q (r_assign (.bool false) rfl) rfl rfl ?_
  refine wl_nil ?_
  refine thenN ?_
  refine W_seq ?_
  refine W_region ?_
  refine wl_q (r_move (.bool _) rfl) rfl rfl ?_
  refine wl_q (r_move (.bool _) rfl) rfl rfl ?_
  refine wl_split 6 _ rfl (fun g6 => ?_) (fun g6 => ?_)
  · skip
    refine wl_q (r_move (.bool _) rfl) rfl rfl ?_
    refine wl_q (r_pick true (.bool _) rfl rfl) rfl rfl ?_
    refine wl_q (r_assign (.bool _) rfl) rfl rfl ?_
    refine wl_nil ?_
    refine thenN ?_
    refine W_ret ?_
    skip
    refine fin1 (.bool _) rfl ?_
    exact ⟨by rw [g6]; rfl, M0.below⟩
  · skip
    refine wl_skip rfl rfl ?_
    refine wl_q (r_pick false (.bool false) rfl rfl) rfl rfl ?_
    refine wl_q (r_assign (.bool false) rfl) rfl rfl ?_
    refine wl_nil ?_
    refine thenN ?_
    refine W_ret ?_
    skip
    refine fin1 (.bool false) rfl ?_
    exact ⟨by rw [g6]; rfl, M0.below⟩

set_option maxHeartbeats 4000000 in
theorem me_foldQ (w : World) (A : Option Addr) (n c : Nat) (xs : List Body) (R : Rd w 10 A n (xs.map bodyCells)) (hb : ∀ b ∈ xs, Okb b) (bl L : Nat) (K : Rd w 1 (some ⟨bl, 0, none⟩) 1 [[.int .u64 (L : Int)]]) :
    Calls Tryz.prog 41 #[.slice A n c, .bool true, .func (.func 42) #[] #[.pointer (some ⟨bl, 0, none⟩)], .func (.func 44) #[] #[]] w (fun ex w' => ∃ v, ex = .returned v ∧ (fun v w' => v = .bool (quietP L xs) ∧ Below w.heap.size w w') v w') := by
  have hlen : xs.length = n := by simpa using R.len
  have hbd := R.bound
  refine calls_of_W #[.tmp 8] 25 Tryz.func41 rfl Tryz.results41 Tryz.ntmps41 rfl ?_
  have M0 := Mem.refl w
  refine W_seq ?_
  refine W_region ?_
  refine wl_q (r_assign (.bool false) rfl) rfl rfl ?_
  refine wl_nil ?_
  refine thenN ?_
  refine W_seq ?_
  refine W_seq ?_
  refine W_region ?_
  refine wl_q (r_move (.slice _ _ _) rfl) rfl rfl ?_
  refine wl_q (r_lenS Tryz.underlying22 rfl) rfl rfl ?_
  refine wl_q (r_move (.int _ _) rfl) rfl rfl ?_
  refine wl_nil ?_
  refine thenN ?_
  refine W_block ?_
  refine W_loop (σ := Nat) [2, 3, 8, 11, 12] (fun k => [(1, .bool (quietP L (xs.take k))), (13, .int .i64 (k : Int))]) (fun k w' => k ≤ n ∧ Mem w [] [] w') (fun k => n - k) 0 (agC (bv rfl (by simp [quietP])) (agC rfl agN)) (⟨by omega, M0⟩) ?_
  rintro k ρ1 w1 ⟨hk, hM1⟩
  refine W_seq ?_
  refine W_region ?_
  refine wl_q (r_bin (.bool (decide _)) rfl rfl rfl) rfl rfl ?_
  refine wl_nil ?_
  refine thenN ?_
  refine W_seq ?_
  refine W_condD rfl (fun h14 => ?_) (fun h14 => ?_)
  · skip
    obtain ⟨xb, hxb⟩ := getSome (k := k) hlen (by omega)
    refine W_skip ?_
    refine thenN ?_
    refine W_seq ?_
    refine W_block ?_
    refine W_seq ?_
    refine W_region ?_
    refine wl_q (r_idxR (k) sl22 rfl rfl rfl ((R.mem hM1).below_len (mapGet bodyCells hxb)) ((R.mem hM1).someK (mapGet bodyCells hxb))) rfl rfl ?_
    refine wl_q (r_ldEA _ agg32 (R.mem hM1) (mapGet bodyCells hxb) rfl) rfl rfl ?_
    refine wl_alloc zero32 hM1 rfl rfl (fun b2 w2 M2 => ?_)
    refine wl_stW 0 _ agg32 M2 rfl rfl rfl rfl rfl (ones_of rfl) rfl (fun w3 M3 => ?_)
    refine wl_nil ?_
    refine thenN ?_
    refine W_region ?_
    refine wl_q (r_move (.func _ _ _) rfl) rfl rfl ?_
    refine wl_q (r_move (.bool _) rfl) rfl rfl ?_
    refine wl_q (r_move (.func _ _ _) rfl) rfl rfl ?_
    refine wl_q (r_ldW 0 agg32 M3 rfl rfl rfl) rfl rfl ?_
    refine wl_cal cal42 rfl rfl rfl ?_
    refine (me_quiet1 _ xb (hb xb (List.mem_of_getElem? hxb)) bl L (K.mem M3)).mono ?_
    rintro _ w4 ⟨v4, rfl, ⟨rfl, hb4⟩⟩
    refine ⟨_, rfl, ?_⟩
    have M4 := M3.callB hb4
    refine wl_cal cal44 rfl rfl rfl ?_
    refine (me_quiet2 _ (quietP L (xs.take k)) (decide (lsq xb.vx xb.vy ≤ L))).mono ?_
    rintro _ w5 ⟨v5, rfl, ⟨rfl, hb5⟩⟩
    refine ⟨_, rfl, ?_⟩
    have M5 := M4.callB hb5
    refine wl_q (r_assign (.bool _) rfl) rfl rfl ?_
    refine wl_nil ?_
    refine blkN ?_
    refine thenN ?_
    refine W_region ?_
    refine wl_q (r_add rfl rfl (by omega) (by omega)) rfl rfl ?_
    refine wl_q (r_move (.int _ _) rfl) rfl rfl ?_
    refine wl_nil ?_
    refine roundN (k + 1) (agC (bv rfl (quietP_snoc hxb).symm) (agC rfl agN)) (akC rfl (akC rfl (akC rfl (akC rfl (akC rfl akN))))) ?_ ?_
    · exact ⟨by omega, M5.keep [false]⟩
    · omega
  · skip
    have hkn : k = n := by omega
    refine W_exit ?_
    refine thenX ?_
    refine roundX ?_
    refine blkH ?_
    refine thenN ?_
    refine W_seq ?_
    refine W_region ?_
    refine wl_q (r_move (.bool _) rfl) rfl rfl ?_
    refine wl_q (r_assign (.bool _) rfl) rfl rfl ?_
    refine wl_nil ?_
    refine thenN ?_
    refine W_ret ?_
    skip
    refine fin1 (.bool _) rfl ?_
    exact ⟨by rw [List.take_of_length_le (by omega)], hM1.below⟩

set_option maxHeartbeats 4000000 in
theorem me_Quiet (w : World) (A : Option Addr) (n c : Nat) (xs : List Body) (R : Rd w 10 A n (xs.map bodyCells)) (hb : ∀ b ∈ xs, Okb b) (s : Int) (hs : -2147483648 ≤ s ∧ s ≤ 2147483647) :
    Calls Tryz.prog 20 #[.slice A n c, .int .i32 s] w (fun ex w' => ∃ v, ex = .returned v ∧ (fun v w' => v = .bool (decide (0 ≤ s) && quietP (s.natAbs * s.natAbs : Nat) xs) ∧ Below w.heap.size w w') v w') := by
  have hlen : xs.length = n := by simpa using R.len
  have hbd := R.bound
  have hsm : s.natAbs * s.natAbs ≤ 2147483648 * 2147483648 := Nat.mul_le_mul (by omega) (by omega)
  refine calls_of_W #[.tmp 4] 16 Tryz.func20 rfl Tryz.results20 Tryz.ntmps20 rfl ?_
  have M0 := Mem.refl w
  refine W_seq ?_
  refine W_region ?_
  refine wl_q (r_assign (.bool false) rfl) rfl rfl ?_
  refine wl_nil ?_
  refine thenN ?_
  refine W_seq ?_
  refine W_seq ?_
  refine W_region ?_
  refine wl_q (r_move (.int _ _) rfl) rfl rfl ?_
  refine wl_q (r_bin (.bool (decide _)) rfl rfl rfl) rfl rfl ?_
  refine wl_nil ?_
  refine thenN ?_
  refine W_condD rfl (fun h7 => ?_) (fun h7 => ?_)
  · skip
    refine W_seq ?_
    refine W_region ?_
    refine wl_q (r_assign (.bool false) rfl) rfl rfl ?_
    refine wl_nil ?_
    refine thenN ?_
    refine W_ret ?_
    refine thenR ?_
    skip
    refine fin1 (.bool false) rfl ?_
    exact ⟨by first | (rw [decide_eq_false (by omega : ¬ 0 ≤ s)]; rfl) | (rw [decide_eq_true (by omega : 0 ≤ s)]; rfl), M0.below⟩
  · skip
    refine W_skip ?_
    refine thenN ?_
    refine W_seq ?_
    refine W_region ?_
    refine wl_q (r_move (.int _ _) rfl) rfl rfl ?_
    refine wl_q (r_conv us21 Tryz.underlying26 rfl) rfl rfl ?_
    refine wl_re 9 (.int .u64 ((s.natAbs : Nat) : Int)) (iE (by rw [wrU]; omega)) ?_
    refine wl_q (r_move (.int _ _) rfl) rfl rfl ?_
    refine wl_q (r_conv us21 Tryz.underlying26 rfl) rfl rfl ?_
    refine wl_re 11 (.int .u64 ((s.natAbs : Nat) : Int)) (iE (by rw [wrU]; omega)) ?_
    refine wl_q (r_bin (.int _ _) rfl rfl rfl) rfl rfl ?_
    refine wl_re 12 (.int .u64 ((s.natAbs * s.natAbs : Nat) : Int)) (iE (mulU _ _ (by omega))) ?_
    refine wl_alloc zero26 M0 rfl rfl (fun b1 w1 M1 => ?_)
    refine wl_st 0 (.int _ _) one26 M1 rfl rfl rfl rfl rfl rfl (fun w2 M2 => ?_)
    refine wl_nil ?_
    refine thenN ?_
    refine W_seq ?_
    refine W_region ?_
    refine wl_q (r_move (.slice _ _ _) rfl) rfl rfl ?_
    refine wl_q (r_makeFuncV [] [.pointer _] rfl rfl) rfl rfl ?_
    refine wl_cal cal41 rfl rfl rfl ?_
    refine (me_foldQ _ _ _ _ xs (R.mem M2) hb b1 (s.natAbs * s.natAbs : Nat) (rdOf 0 M2 rfl rfl)).mono ?_
    rintro _ w3 ⟨v3, rfl, ⟨rfl, hb3⟩⟩
    refine ⟨_, rfl, ?_⟩
    have M3 := M2.callB hb3
    refine wl_q (r_assign (.bool _) rfl) rfl rfl ?_
    refine wl_nil ?_
    refine thenN ?_
    refine W_ret ?_
    skip
    refine fin1 (.bool _) rfl ?_
    exact ⟨by first | (rw [decide_eq_false (by omega : ¬ 0 ≤ s)]; rfl) | (rw [decide_eq_true (by omega : 0 ≤ s)]; rfl), M3.below⟩

end Go.Proofs.YtmcddmhkjcgneaaGreatDoor

/- Walks of Go functions over the frame of this claim: what each computes, for every input of the stated types (Aw26). -/
set_option linter.unusedVariables false
set_option linter.unusedSimpArgs false
set_option linter.unnecessarySimpa false
namespace Go.Proofs.YtmcddmhkjcgneaaGreatDoor
open Go.Bil
open Go.RowKit (Below)
open Go.Proofs

theorem aw26_0 : ∀ b ∈ ([⟨1, 65536, 0, 0, 0, 0, 0, 0, 3, -4⟩, ⟨2, 65536, 0, 0, 1, 0, 65536, 0, 1, 0⟩] : List Body), Okb b := fun b hb => check_ok ((by decide : ∀ b ∈ ([⟨1, 65536, 0, 0, 0, 0, 0, 0, 3, -4⟩, ⟨2, 65536, 0, 0, 1, 0, 65536, 0, 1, 0⟩] : List Body), check b = 0) b hb)
theorem aw26_i : isq 4294967296 = 65536 := (isq_eq (by decide) (by decide)).symm
theorem aw26_l : len 65536 0 = 65536 := by
  unfold len
  rw [show lsq 65536 0 = 4294967296 by decide, aw26_i]
  rfl
theorem aw26_c : conOf ⟨1, 65536, 0, 0, 0, 0, 0, 0, 3, -4⟩ ⟨2, 65536, 0, 0, 1, 0, 65536, 0, 1, 0⟩ = some ⟨1, 2, 65536, 0, 65536⟩ := by
  have e : chB ⟨1, 65536, 0, 0, 0, 0, 0, 0, 3, -4⟩ ⟨2, 65536, 0, 0, 1, 0, 65536, 0, 1, 0⟩ = ((0, 0), (65536, 0), 4294967296) := by decide
  have hu : unitV 65536 0 = (65536, 0) := by unfold unitV; rw [aw26_l]; decide
  unfold conOf
  rw [if_neg (by decide)]
  unfold conLow
  rw [e]
  show (if ((65536 : Int) + 65536).natAbs * ((65536 : Int) + 65536).natAbs ≤ lsq 65536 0 then none else some (⟨1, 2, (unitV 65536 0).1, (unitV 65536 0).2, IntKind.wrap .i32 (65536 + 65536 - len 65536 0)⟩ : Con)) = _
  rw [if_neg (by decide), hu, aw26_l]
  decide
theorem aw26_f : findP [⟨1, 65536, 0, 0, 0, 0, 0, 0, 3, -4⟩, ⟨2, 65536, 0, 0, 1, 0, 65536, 0, 1, 0⟩] = [(1, 2)] := by decide
theorem aw26_a : allC [⟨1, 65536, 0, 0, 0, 0, 0, 0, 3, -4⟩, ⟨2, 65536, 0, 0, 1, 0, 65536, 0, 1, 0⟩] = [⟨1, 2, 65536, 0, 65536⟩] := by
  have h : conP (boM [⟨1, 65536, 0, 0, 0, 0, 0, 0, 3, -4⟩, ⟨2, 65536, 0, 0, 1, 0, 65536, 0, 1, 0⟩]) (1, 2) = some ⟨1, 2, 65536, 0, 65536⟩ := (conP_eq (show boM [⟨1, 65536, 0, 0, 0, 0, 0, 0, 3, -4⟩, ⟨2, 65536, 0, 0, 1, 0, 65536, 0, 1, 0⟩] 1 = some ⟨1, 65536, 0, 0, 0, 0, 0, 0, 3, -4⟩ from by decide) (show boM [⟨1, 65536, 0, 0, 0, 0, 0, 0, 3, -4⟩, ⟨2, 65536, 0, 0, 1, 0, 65536, 0, 1, 0⟩] 2 = some ⟨2, 65536, 0, 0, 1, 0, 65536, 0, 1, 0⟩ from by decide)).trans aw26_c
  unfold allC
  rw [aw26_f]
  simp only [List.filterMap_cons, List.filterMap_nil, h]
theorem aw26_1 : meOf [⟨1, 65536, 0, 0, 0, 0, 0, 0, 3, -4⟩, ⟨2, 65536, 0, 0, 1, 0, 65536, 0, 1, 0⟩] = (⟨2, 1, 25, 4, -4, ⟨-65536, -65536, 131072, 65536⟩, 65536⟩ : Meas) := by
  unfold meOf
  rw [aw26_a, show meF [⟨1, 65536, 0, 0, 0, 0, 0, 0, 3, -4⟩, ⟨2, 65536, 0, 0, 1, 0, 65536, 0, 1, 0⟩] = ⟨2, 1, 25, 4, -4, ⟨-65536, -65536, 131072, 65536⟩, 0⟩ by decide]
  rfl
theorem aw26_2 : meOf [] = none0 := by decide
theorem aw26_3 : (decide ((0 : Int) ≤ 5) && quietP ((5 : Int).natAbs * (5 : Int).natAbs) [⟨1, 65536, 0, 0, 0, 0, 0, 0, 3, -4⟩, ⟨2, 65536, 0, 0, 1, 0, 65536, 0, 1, 0⟩]) = true := by decide
theorem aw26_4 : (decide ((0 : Int) ≤ 4) && quietP ((4 : Int).natAbs * (4 : Int).natAbs) [⟨1, 65536, 0, 0, 0, 0, 0, 0, 3, -4⟩, ⟨2, 65536, 0, 0, 1, 0, 65536, 0, 1, 0⟩]) = false := by decide
theorem aw26_5 : (decide ((0 : Int) ≤ -1) && quietP ((-1 : Int).natAbs * (-1 : Int).natAbs) []) = false := by decide
theorem okNil : ∀ b ∈ ([] : List Body), Okb b := fun b hb => by cases hb
theorem sNil : Sorted [] := List.Pairwise.nil

set_option maxHeartbeats 16000000 in
theorem aw26 (w : World) (F : Rd w 2 (some ⟨1, 0, none⟩) 1 [[.int .u32 73856093, .int .u32 19349663]]) (N : Rd w 4 (some ⟨0, 0, none⟩) 1 [bxCells noneB]) :
    Calls Tryz.prog 15 #[] w (fun ex w' => ∃ v, ex = .returned v ∧ (fun v w' => v = .bool true ∧ Below w.heap.size w w') v w') := by
  refine calls_of_W #[.tmp 0] 40 Tryz.func15 rfl Tryz.results15 Tryz.ntmps15 rfl ?_
  have M0 := Mem.refl w
  refine W_seq ?_
  refine W_region ?_
  refine wl_q (r_assign (.bool false) rfl) rfl rfl ?_
  refine wl_nil ?_
  refine thenN ?_
  refine W_seq ?_
  refine W_region ?_
  refine wl_q (r_build [(0, .int _ _), (1, .int _ _)] _ struct29 rfl rfl) rfl rfl ?_
  refine wl_q (r_build [(0, .int _ _), (1, .int _ _), (6, .agg (List.toArray _))] _ struct32 rfl rfl) rfl rfl ?_
  refine wl_alloc zero32 M0 rfl rfl (fun b1 w1 M1 => ?_)
  refine wl_stW 0 _ agg32 M1 rfl rfl rfl rfl rfl (ones_of rfl) rfl (fun w2 M2 => ?_)
  refine wl_nil ?_
  refine thenN ?_
  refine W_seq ?_
  refine W_region ?_
  refine wl_q (r_build [(0, .int _ _)] _ struct29 rfl rfl) rfl rfl ?_
  refine wl_q (r_build [(0, .int _ _)] _ struct29 rfl rfl) rfl rfl ?_
  refine wl_q (r_build [(0, .int _ _), (1, .int _ _), (3, .int _ _), (5, .agg (List.toArray _)), (6, .agg (List.toArray _))] _ struct32 rfl rfl) rfl rfl ?_
  refine wl_alloc zero32 M2 rfl rfl (fun b3 w3 M3 => ?_)
  refine wl_stW 1 _ agg32 M3 rfl rfl rfl rfl rfl (ones_of rfl) rfl (fun w4 M4 => ?_)
  refine wl_nil ?_
  refine thenN ?_
  refine W_seq ?_
  refine W_region ?_
  refine wl_q (r_ldW 0 agg32 M4 rfl rfl rfl) rfl rfl ?_
  refine wl_q (r_ldW 1 agg32 M4 rfl rfl rfl) rfl rfl ?_
  refine wl_bslice [.agg (List.toArray _), .agg (List.toArray _)] [bodyCells ⟨1, 65536, 0, 0, 0, 0, 0, 0, 3, -4⟩, bodyCells ⟨2, 65536, 0, 0, 1, 0, 65536, 0, 1, 0⟩] rfl sl22 M4 rfl rfl rfl rfl (lens_of rfl) (by decide) (fun b5 w5 M5 => ?_)
  have hlit11 := rowLit (T := 32) (b := b5) ([⟨1, 65536, 0, 0, 0, 0, 0, 0, 3, -4⟩, ⟨2, 65536, 0, 0, 1, 0, 65536, 0, 1, 0⟩].map bodyCells) (bodies_len _) rfl (by decide)
  refine wl_cal cal17 rfl rfl rfl ?_
  refine (me_Of _ (F.mem M5) (N.mem M5) _ _ _ [⟨1, 65536, 0, 0, 0, 0, 0, 0, 3, -4⟩, ⟨2, 65536, 0, 0, 1, 0, 65536, 0, 1, 0⟩] (hlit11.rd M5 (nthMem (i := 2) rfl)) aw26_0 (adjB_sorted (by decide)) (by first | decide | omega)).mono ?_
  rintro _ w6 ⟨v6, rfl, ⟨rfl, hb6⟩⟩
  refine ⟨_, rfl, ?_⟩
  have M6 := M5.callB hb6
  refine wl_re 12 ((.agg (meCells (⟨2, 1, 25, 4, -4, ⟨-65536, -65536, 131072, 65536⟩, 65536⟩ : Meas)).toArray)) (congrArg (fun m => Value.agg (meCells m).toArray) aw26_1) ?_
  refine wl_alloc zero36 M6 rfl rfl (fun b7 w7 M7 => ?_)
  refine wl_stW 3 _ agg36 M7 rfl rfl rfl rfl rfl (ones_of rfl) rfl (fun w8 M8 => ?_)
  refine wl_nil ?_
  refine thenN ?_
  refine W_seq ?_
  refine W_region ?_
  refine wl_cal cal17 rfl rfl rfl ?_
  refine (me_Of _ (F.mem M8) (N.mem M8) none 0 0 [] (Rd.nil _ _ _) okNil sNil (by decide)).mono ?_
  rintro _ w9 ⟨v9, rfl, ⟨rfl, hb9⟩⟩
  refine ⟨_, rfl, ?_⟩
  have M9 := M8.callB hb9
  refine wl_re 13 ((.agg (meCells none0).toArray)) (congrArg (fun m => Value.agg (meCells m).toArray) aw26_2) ?_
  refine wl_q (r_build [(0, .int _ _)] _ struct34 rfl rfl) rfl rfl ?_
  refine wl_q (r_build [(5, .agg (List.toArray _))] _ struct36 rfl rfl) rfl rfl ?_
  refine wl_q (r_eqA (eqMe none0 none0) rfl rfl) rfl rfl ?_
  refine wl_re 16 (.bool true) (bT rfl).symm ?_
  refine wl_q (r_move (.bool true) rfl) rfl rfl ?_
  refine wl_q (r_ldW 3 agg36 M9 rfl rfl rfl) rfl rfl ?_
  refine wl_q (r_build [(0, .int _ _), (1, .int _ _), (2, .int _ _), (3, .int _ _)] _ struct34 rfl rfl) rfl rfl ?_
  refine wl_q (r_build [(0, .int _ _), (1, .int _ _), (2, .int _ _), (3, .int _ _), (4, .int _ _), (5, .agg (List.toArray _)), (6, .int _ _)] _ struct36 rfl rfl) rfl rfl ?_
  refine wl_q (r_eqA (eqMe (⟨2, 1, 25, 4, -4, ⟨-65536, -65536, 131072, 65536⟩, 65536⟩ : Meas) (⟨2, 1, 25, 4, -4, ⟨-65536, -65536, 131072, 65536⟩, 65536⟩ : Meas)) rfl rfl) rfl rfl ?_
  refine wl_re 21 (.bool true) (bT rfl).symm ?_
  refine wl_q (r_pick true (.bool true) rfl rfl) rfl rfl ?_
  refine wl_q (r_move (.bool true) rfl) rfl rfl ?_
  refine wl_q (r_ldW 0 agg32 M9 rfl rfl rfl) rfl rfl ?_
  refine wl_q (r_ldW 1 agg32 M9 rfl rfl rfl) rfl rfl ?_
  refine wl_bslice [.agg (List.toArray _), .agg (List.toArray _)] [bodyCells ⟨1, 65536, 0, 0, 0, 0, 0, 0, 3, -4⟩, bodyCells ⟨2, 65536, 0, 0, 1, 0, 65536, 0, 1, 0⟩] rfl sl22 M9 rfl rfl rfl rfl (lens_of rfl) (by decide) (fun b10 w10 M10 => ?_)
  have hlit26 := rowLit (T := 32) (b := b10) ([⟨1, 65536, 0, 0, 0, 0, 0, 0, 3, -4⟩, ⟨2, 65536, 0, 0, 1, 0, 65536, 0, 1, 0⟩].map bodyCells) (bodies_len _) rfl (by decide)
  refine wl_cal cal20 rfl rfl rfl ?_
  refine (me_Quiet _ _ _ _ [⟨1, 65536, 0, 0, 0, 0, 0, 0, 3, -4⟩, ⟨2, 65536, 0, 0, 1, 0, 65536, 0, 1, 0⟩] (hlit26.rd M10 (nthMem (i := 4) rfl)) aw26_0 5 (by decide)).mono ?_
  rintro _ w11 ⟨v11, rfl, ⟨rfl, hb11⟩⟩
  refine ⟨_, rfl, ?_⟩
  have M11 := M10.callB hb11
  refine wl_re 27 (.bool true) (congrArg Value.bool aw26_3) ?_
  refine wl_q (r_pick true (.bool true) rfl rfl) rfl rfl ?_
  refine wl_q (r_move (.bool true) rfl) rfl rfl ?_
  refine wl_q (r_ldW 0 agg32 M11 rfl rfl rfl) rfl rfl ?_
  refine wl_q (r_ldW 1 agg32 M11 rfl rfl rfl) rfl rfl ?_
  refine wl_bslice [.agg (List.toArray _), .agg (List.toArray _)] [bodyCells ⟨1, 65536, 0, 0, 0, 0, 0, 0, 3, -4⟩, bodyCells ⟨2, 65536, 0, 0, 1, 0, 65536, 0, 1, 0⟩] rfl sl22 M11 rfl rfl rfl rfl (lens_of rfl) (by decide) (fun b12 w12 M12 => ?_)
  have hlit32 := rowLit (T := 32) (b := b12) ([⟨1, 65536, 0, 0, 0, 0, 0, 0, 3, -4⟩, ⟨2, 65536, 0, 0, 1, 0, 65536, 0, 1, 0⟩].map bodyCells) (bodies_len _) rfl (by decide)
  refine wl_cal cal20 rfl rfl rfl ?_
  refine (me_Quiet _ _ _ _ [⟨1, 65536, 0, 0, 0, 0, 0, 0, 3, -4⟩, ⟨2, 65536, 0, 0, 1, 0, 65536, 0, 1, 0⟩] (hlit32.rd M12 (nthMem (i := 5) rfl)) aw26_0 4 (by decide)).mono ?_
  rintro _ w13 ⟨v13, rfl, ⟨rfl, hb13⟩⟩
  refine ⟨_, rfl, ?_⟩
  have M13 := M12.callB hb13
  refine wl_re 33 (.bool false) (congrArg Value.bool aw26_4) ?_
  refine wl_q (r_notB true rfl rfl) rfl rfl ?_
  refine wl_q (r_pick true (.bool true) rfl rfl) rfl rfl ?_
  refine wl_q (r_move (.bool true) rfl) rfl rfl ?_
  refine wl_cal cal20 rfl rfl rfl ?_
  refine (me_Quiet _ none 0 0 [] (Rd.nil _ _ _) okNil (-1) (by decide)).mono ?_
  rintro _ w14 ⟨v14, rfl, ⟨rfl, hb14⟩⟩
  refine ⟨_, rfl, ?_⟩
  have M14 := M13.callB hb14
  refine wl_re 37 (.bool false) (congrArg Value.bool aw26_5) ?_
  refine wl_q (r_notB true rfl rfl) rfl rfl ?_
  refine wl_q (r_pick true (.bool true) rfl rfl) rfl rfl ?_
  refine wl_q (r_assign (.bool true) rfl) rfl rfl ?_
  refine wl_nil ?_
  refine thenN ?_
  refine W_ret ?_
  skip
  refine fin1 (.bool true) rfl ?_
  exact ⟨rfl, M14.below⟩

end Go.Proofs.YtmcddmhkjcgneaaGreatDoor

/- Walks of Go functions over the frame of this claim: what each computes, for every input of the stated types (R26). -/
set_option linter.unusedVariables false
set_option linter.unusedSimpArgs false
set_option linter.unnecessarySimpa false
namespace Go.Proofs.YtmcddmhkjcgneaaGreatDoor
open Go.Bil
open Go.RowKit (Below)
open Go.Proofs

set_option maxHeartbeats 16000000 in
theorem ref26_Of (w : World) (A : Option Addr) (n c : Nat) (xs : List Body) (R : Rd w 10 A n (xs.map bodyCells)) (hb : ∀ b ∈ xs, Okb b) (hs : Sorted xs) (hn : n ≤ 4096) :
    Calls Tryz.prog 19 #[.slice A n c] w (fun ex w' => ∃ v, ex = .returned v ∧ (fun v w' => v = (.agg (meCells (meOf xs)).toArray) ∧ Below w.heap.size w w') v w') := by
  have hlen : xs.length = n := by simpa using R.len
  have hbd := R.bound
  refine calls_of_W #[.cell 2 41] 110 Tryz.func19 rfl Tryz.results19 Tryz.ntmps19 rfl ?_
  have M0 := Mem.refl w
  refine W_seq ?_
  refine W_region ?_
  refine wl_alloc zero41 M0 rfl rfl (fun b1 w1 M1 => ?_)
  refine wl_nil ?_
  refine thenN ?_
  refine W_seq ?_
  refine W_region ?_
  refine wl_q (r_move (.slice _ _ _) rfl) rfl rfl ?_
  refine wl_q (r_lenS Tryz.underlying22 rfl) rfl rfl ?_
  refine wl_q (r_build [(0, .int _ _)] _ struct39 rfl rfl) rfl rfl ?_
  refine wl_q (r_build [(0, .int _ _), (5, .agg (List.toArray _))] _ struct41 rfl rfl) rfl rfl ?_
  refine wl_alloc zero41 M1 rfl rfl (fun b2 w2 M2 => ?_)
  refine wl_stW 1 _ agg41 M2 rfl rfl rfl rfl rfl (ones_of rfl) rfl (fun w3 M3 => ?_)
  refine wl_nil ?_
  refine thenN ?_
  refine W_seq ?_
  refine W_seq ?_
  refine W_region ?_
  refine wl_q (r_assign (.int _ _) rfl) rfl rfl ?_
  refine wl_nil ?_
  refine thenN ?_
  refine W_block ?_
  refine W_loop (σ := Nat) [0, 2, 3] (fun k => [(4, .int .i64 (k : Int))]) (fun k w' => k ≤ n ∧ Mem w [] [(some b1, bc [.int .i64 0, .int .i64 0, .int .u64 0, .int .i64 0, .int .i64 0, .int .i32 0, .int .i32 0, .int .i32 0, .int .i32 0, .int .i64 0] 41), (some b2, bc (meCells { meF (xs.take k) with nb := (n : Int) }) 41)] w') (fun k => n - k) 0 (agC rfl agN) (⟨by omega, M3⟩) ?_
  rintro k ρ4 w4 ⟨hk, hM4⟩
  have hbt : ∀ b ∈ xs.take k, Okb b := fun b h => hb b ((List.take_sublist _ _).subset h)
  have htl := List.length_take_le k xs
  have hom := okM_bnd (okM_meF hbt) (by omega)
  refine W_seq ?_
  refine W_seq ?_
  refine W_region ?_
  refine wl_q (r_move (.int _ _) rfl) rfl rfl ?_
  refine wl_q (r_move (.slice _ _ _) rfl) rfl rfl ?_
  refine wl_q (r_lenS Tryz.underlying22 rfl) rfl rfl ?_
  refine wl_q (r_bin (.bool (decide _)) rfl rfl rfl) rfl rfl ?_
  refine wl_nil ?_
  refine thenN ?_
  refine W_condD rfl (fun h16 => ?_) (fun h16 => ?_)
  · skip
    obtain ⟨xb, hxb⟩ := getSome (k := k) hlen (by omega)
    have hbk := (hb xb (List.mem_of_getElem? hxb))
    have hv := hbk.v
    have hfull := box_full hbk
    refine W_skip ?_
    refine thenN ?_
    refine W_seq ?_
    refine W_block ?_
    refine W_seq ?_
    refine W_region ?_
    refine wl_q (r_move (.slice _ _ _) rfl) rfl rfl ?_
    refine wl_q (r_move (.int _ _) rfl) rfl rfl ?_
    refine wl_q (r_idxR (k) sl22 rfl rfl rfl ((R.mem hM4).below_len (mapGet bodyCells hxb)) ((R.mem hM4).someK (mapGet bodyCells hxb))) rfl rfl ?_
    refine wl_q (r_ldEA _ agg32 (R.mem hM4) (mapGet bodyCells hxb) rfl) rfl rfl ?_
    refine wl_alloc zero32 hM4 rfl rfl (fun b5 w5 M5 => ?_)
    refine wl_stW 2 _ agg32 M5 rfl rfl rfl rfl rfl (ones_of rfl) rfl (fun w6 M6 => ?_)
    refine wl_nil ?_
    refine thenN ?_
    refine W_seq ?_
    refine W_region ?_
    refine wl_q (r_ldW 2 agg32 M6 rfl rfl rfl) rfl rfl ?_
    refine wl_cal cal40 rfl rfl rfl ?_
    refine (ref08_Of _ xb hbk).mono ?_
    rintro _ w7 ⟨v7, rfl, ⟨rfl, hb7⟩⟩
    refine ⟨_, rfl, ?_⟩
    have M7 := M6.callB hb7
    refine wl_alloc zero39 M7 rfl rfl (fun b8 w8 M8 => ?_)
    refine wl_stW 3 _ agg39 M8 rfl rfl rfl rfl rfl (ones_of rfl) rfl (fun w9 M9 => ?_)
    refine wl_nil ?_
    refine thenN ?_
    refine W_seq ?_
    refine W_seq ?_
    refine W_region ?_
    refine wl_q (r_move (.int _ _) rfl) rfl rfl ?_
    refine wl_q (r_bin (.bool (decide _)) rfl rfl rfl) rfl rfl ?_
    refine wl_nil ?_
    refine thenN ?_
    refine W_condD rfl (fun h26 => ?_) (fun h26 => ?_)
    · skip
      have hU : (unionB (meF (xs.take k)).bx (boxOf xb)) = boxOf xb := by rw [show k = 0 by omega, List.take_zero]; exact (union_cases good_none (good_box hbk)).1 rfl
      refine W_region ?_
      refine wl_q (r_ldW 3 agg39 M9 rfl rfl rfl) rfl rfl ?_
      refine wl_q (r_fieldAddr 5 fld41_5 rfl) rfl rfl ?_
      refine wl_stA 1 _ agg39 M9 rfl rfl rfl rfl rfl (ones_of rfl) (Nat.le_of_ble_eq_true rfl) (fun w10 M10 => ?_)
      refine wl_nil ?_
      refine thenN ?_
      refine W_seq ?_
      refine W_region ?_
      refine wl_q (r_fieldAddr 5 fld41_5 rfl) rfl rfl ?_
      refine wl_q (r_fieldAddr 0 fld39_0 rfl) rfl rfl ?_
      refine wl_q (r_ld 1 (.int _ _) one21 M10 rfl rfl rfl) rfl rfl ?_
      refine wl_q (r_fieldAddr 0 fld39_0 rfl) rfl rfl ?_
      refine wl_q (r_ld 3 (.int _ _) one21 M10 rfl rfl rfl) rfl rfl ?_
      refine wl_q (r_min2 rfl rfl ) rfl rfl ?_
      refine wl_re 34 (.int .i32 (unionB (meF (xs.take k)).bx (boxOf xb)).x0) (iE (by rw [hU]; first | done | rfl | omega)) ?_
      refine wl_q (r_fieldAddr 5 fld41_5 rfl) rfl rfl ?_
      refine wl_q (r_fieldAddr 1 fld39_1 rfl) rfl rfl ?_
      refine wl_q (r_ld 1 (.int _ _) one21 M10 rfl rfl rfl) rfl rfl ?_
      refine wl_q (r_fieldAddr 1 fld39_1 rfl) rfl rfl ?_
      refine wl_q (r_ld 3 (.int _ _) one21 M10 rfl rfl rfl) rfl rfl ?_
      refine wl_q (r_min2 rfl rfl ) rfl rfl ?_
      refine wl_re 40 (.int .i32 (unionB (meF (xs.take k)).bx (boxOf xb)).y0) (iE (by rw [hU]; first | done | rfl | omega)) ?_
      refine wl_q (r_fieldAddr 5 fld41_5 rfl) rfl rfl ?_
      refine wl_q (r_fieldAddr 2 fld39_2 rfl) rfl rfl ?_
      refine wl_q (r_ld 1 (.int _ _) one21 M10 rfl rfl rfl) rfl rfl ?_
      refine wl_q (r_fieldAddr 2 fld39_2 rfl) rfl rfl ?_
      refine wl_q (r_ld 3 (.int _ _) one21 M10 rfl rfl rfl) rfl rfl ?_
      refine wl_q (r_max2 rfl rfl ) rfl rfl ?_
      refine wl_re 46 (.int .i32 (unionB (meF (xs.take k)).bx (boxOf xb)).x1) (iE (by rw [hU]; first | done | rfl | omega)) ?_
      refine wl_q (r_fieldAddr 5 fld41_5 rfl) rfl rfl ?_
      refine wl_q (r_fieldAddr 3 fld39_3 rfl) rfl rfl ?_
      refine wl_q (r_ld 1 (.int _ _) one21 M10 rfl rfl rfl) rfl rfl ?_
      refine wl_q (r_fieldAddr 3 fld39_3 rfl) rfl rfl ?_
      refine wl_q (r_ld 3 (.int _ _) one21 M10 rfl rfl rfl) rfl rfl ?_
      refine wl_q (r_max2 rfl rfl ) rfl rfl ?_
      refine wl_re 52 (.int .i32 (unionB (meF (xs.take k)).bx (boxOf xb)).y1) (iE (by rw [hU]; first | done | rfl | omega)) ?_
      refine wl_q (r_build [(0, .int _ _), (1, .int _ _), (2, .int _ _), (3, .int _ _)] _ struct39 rfl rfl) rfl rfl ?_
      refine wl_q (r_fieldAddr 5 fld41_5 rfl) rfl rfl ?_
      refine wl_stA 1 _ agg39 M10 rfl rfl rfl rfl rfl (ones_of rfl) (Nat.le_of_ble_eq_true rfl) (fun w11 M11 => ?_)
      refine wl_nil ?_
      refine thenN ?_
      refine W_seq ?_
      refine W_seq ?_
      refine W_region ?_
      refine wl_q (r_fieldAddr 4 fld32_3 rfl) rfl rfl ?_
      refine wl_q (r_ld 2 (.int _ _) one21 M11 rfl rfl rfl) rfl rfl ?_
      refine wl_q (r_bin (.bool (decide _)) rfl rfl rfl) rfl rfl ?_
      refine wl_nil ?_
      refine thenN ?_
      refine W_condD rfl (fun h57 => ?_) (fun h57 => ?_)
      · skip
        refine W_region ?_
        refine wl_q (r_fieldAddr 1 fld41_1 rfl) rfl rfl ?_
        refine wl_q (r_ld 1 (.int _ _) one3 M11 rfl rfl rfl) rfl rfl ?_
        refine wl_re 59 (.int .i64 (meF (xs.take k)).ns) rfl ?_
        refine wl_q (r_add rfl rfl (by omega) (by omega)) rfl rfl ?_
        refine wl_q (r_fieldAddr 1 fld41_1 rfl) rfl rfl ?_
        refine wl_st 1 (.int _ _) one3 M11 rfl rfl rfl rfl rfl rfl (fun w12 M12 => ?_)
        refine wl_nil ?_
        refine thenN ?_
        refine W_seq ?_
        refine W_draw [(0, 0), (1, 1), (2, 0), (3, 0), (4, 1), (5, 0), (6, 0), (7, 0), (8, 1), (9, 0), (10, 2), (11, 0), (12, 0), (13, 2)] mixed rfl (by kernel_rfl) (fun w13 hb13 hh13 => ?_)
        have M13 := M12.drew hb13 hh13
        refine D_p rfl rfl rfl (fun _ => r_fieldAddr 2 fld41_2 rfl) ?_
        refine D_r rfl rfl rfl (r_ld 1 (.int _ _) one26 M13 rfl rfl rfl) ?_
        refine D_re 63 (.int .u64 ((meF (xs.take k)).sp : Int)) rfl ?_
        refine D_p rfl rfl rfl (fun _ => r_fieldAddr 8 fld32_6 rfl) ?_
        refine D_p rfl rfl rfl (fun _ => r_fieldAddr 0 fld29_0 rfl) ?_
        refine D_r rfl rfl rfl (r_ld 2 (.int _ _) one21 M13 rfl rfl rfl) ?_
        refine D_p rfl rfl rfl (fun _ => r_convK us21 Tryz.underlying2 rfl (w64 _ (by omega) (by omega))) ?_
        refine D_p rfl rfl rfl (fun _ => r_fieldAddr 8 fld32_6 rfl) ?_
        refine D_p rfl rfl rfl (fun _ => r_fieldAddr 1 fld29_1 rfl) ?_
        refine D_r rfl rfl rfl (r_ld 2 (.int _ _) one21 M13 rfl rfl rfl) ?_
        refine D_p rfl rfl rfl (fun _ => r_convK us21 Tryz.underlying2 rfl (w64 _ (by omega) (by omega))) ?_
        refine D_e [true, true, false] rfl (by kernel_rfl) ?_
        refine wl_cal cal16 rfl rfl rfl ?_
        refine (ref04_LengthSq _ xb.vx xb.vy (vel_in hbk).1 (vel_in hbk).2).mono ?_
        rintro _ w14 ⟨v14, rfl, ⟨rfl, hb14⟩⟩
        refine ⟨_, rfl, ?_⟩
        have M14 := M13.callB hb14
        refine wl_nil (thenN ⟨(alC (Yl_of rfl (r_ld 1 (.int _ _) one26 M14 rfl rfl rfl)) alN), ?_⟩)
        refine D_p rfl rfl rfl (fun _ => r_max2 rfl rfl ) ?_
        refine D_re 73 (.int .u64 ((max (meF (xs.take k)).sp (lsq xb.vx xb.vy) : Nat) : Int)) (iE (by omega)) ?_
        refine D_p rfl rfl rfl (fun _ => r_fieldAddr 2 fld41_2 rfl) ?_
        refine D_e [true] rfl (by kernel_rfl) ?_
        refine wl_st 1 (.int _ _) one26 M14 rfl rfl rfl rfl rfl rfl (fun w15 M15 => ?_)
        refine wl_nil (thenN ⟨alN, ?_⟩)
        refine D_nil ?_
        refine thenN ?_
        refine W_seq ?_
        refine W_region ?_
        refine wl_q (r_fieldAddr 3 fld41_3 rfl) rfl rfl ?_
        refine wl_q (r_ld 1 (.int _ _) one2 M15 rfl rfl rfl) rfl rfl ?_
        refine wl_re 76 (.int .i64 (meF (xs.take k)).sx) rfl ?_
        refine wl_q (r_fieldAddr 8 fld32_6 rfl) rfl rfl ?_
        refine wl_q (r_fieldAddr 0 fld29_0 rfl) rfl rfl ?_
        refine wl_q (r_ld 2 (.int _ _) one21 M15 rfl rfl rfl) rfl rfl ?_
        refine wl_q (r_convK us21 Tryz.underlying2 rfl (w64 _ (by omega) (by omega))) rfl rfl ?_
        refine wl_q (r_add rfl rfl (by omega) (by omega)) rfl rfl ?_
        refine wl_q (r_fieldAddr 3 fld41_3 rfl) rfl rfl ?_
        refine wl_st 1 (.int _ _) one2 M15 rfl rfl rfl rfl rfl rfl (fun w16 M16 => ?_)
        refine wl_nil ?_
        refine thenN ?_
        refine W_region ?_
        refine wl_q (r_fieldAddr 4 fld41_4 rfl) rfl rfl ?_
        refine wl_q (r_ld 1 (.int _ _) one2 M16 rfl rfl rfl) rfl rfl ?_
        refine wl_re 84 (.int .i64 (meF (xs.take k)).sy) rfl ?_
        refine wl_q (r_fieldAddr 8 fld32_6 rfl) rfl rfl ?_
        refine wl_q (r_fieldAddr 1 fld29_1 rfl) rfl rfl ?_
        refine wl_q (r_ld 2 (.int _ _) one21 M16 rfl rfl rfl) rfl rfl ?_
        refine wl_q (r_convK us21 Tryz.underlying2 rfl (w64 _ (by omega) (by omega))) rfl rfl ?_
        refine wl_q (r_add rfl rfl (by omega) (by omega)) rfl rfl ?_
        refine wl_q (r_fieldAddr 4 fld41_4 rfl) rfl rfl ?_
        refine wl_st 1 (.int _ _) one2 M16 rfl rfl rfl rfl rfl rfl (fun w17 M17 => ?_)
        refine wl_nil ?_
        refine blkN ?_
        refine thenN ?_
        refine W_region ?_
        refine wl_q (r_move (.int _ _) rfl) rfl rfl ?_
        refine wl_q (r_add rfl rfl (by omega) (by omega)) rfl rfl ?_
        refine wl_q (r_assign (.int _ _) rfl) rfl rfl ?_
        refine wl_nil ?_
        have hme : ({ meF (xs.take (k + 1)) with nb := (n : Int) } : Meas) = ⟨(n : Int), (meF (xs.take k)).ns + 1, max (meF (xs.take k)).sp (lsq xb.vx xb.vy), (meF (xs.take k)).sx + xb.vx, (meF (xs.take k)).sy + xb.vy, (unionB (meF (xs.take k)).bx (boxOf xb)), (meF (xs.take k)).ov⟩ := by rw [meF_snoc hxb]; simp only [mergeM, singleM, if_pos h57, Int.add_zero]
        refine roundN (k + 1) (agC rfl agN) (akC rfl (akC rfl (akC rfl akN))) ?_ ?_
        · exact ⟨by omega, by rw [hme]; exact M17.keep [true, true, false, false]⟩
        · omega
      · skip
        refine W_skip ?_
        refine thenN ?_
        refine W_seq ?_
        refine W_draw [(0, 0), (1, 1), (2, 0), (3, 0), (4, 1), (5, 0), (6, 0), (7, 0), (8, 1), (9, 0), (10, 2), (11, 0), (12, 0), (13, 2)] mixed rfl (by kernel_rfl) (fun w18 hb18 hh18 => ?_)
        have M18 := M11.drew hb18 hh18
        refine D_p rfl rfl rfl (fun _ => r_fieldAddr 2 fld41_2 rfl) ?_
        refine D_r rfl rfl rfl (r_ld 1 (.int _ _) one26 M18 rfl rfl rfl) ?_
        refine D_re 63 (.int .u64 ((meF (xs.take k)).sp : Int)) rfl ?_
        refine D_p rfl rfl rfl (fun _ => r_fieldAddr 8 fld32_6 rfl) ?_
        refine D_p rfl rfl rfl (fun _ => r_fieldAddr 0 fld29_0 rfl) ?_
        refine D_r rfl rfl rfl (r_ld 2 (.int _ _) one21 M18 rfl rfl rfl) ?_
        refine D_p rfl rfl rfl (fun _ => r_convK us21 Tryz.underlying2 rfl (w64 _ (by omega) (by omega))) ?_
        refine D_p rfl rfl rfl (fun _ => r_fieldAddr 8 fld32_6 rfl) ?_
        refine D_p rfl rfl rfl (fun _ => r_fieldAddr 1 fld29_1 rfl) ?_
        refine D_r rfl rfl rfl (r_ld 2 (.int _ _) one21 M18 rfl rfl rfl) ?_
        refine D_p rfl rfl rfl (fun _ => r_convK us21 Tryz.underlying2 rfl (w64 _ (by omega) (by omega))) ?_
        refine D_e [true, true, false] rfl (by kernel_rfl) ?_
        refine wl_cal cal16 rfl rfl rfl ?_
        refine (ref04_LengthSq _ xb.vx xb.vy (vel_in hbk).1 (vel_in hbk).2).mono ?_
        rintro _ w19 ⟨v19, rfl, ⟨rfl, hb19⟩⟩
        refine ⟨_, rfl, ?_⟩
        have M19 := M18.callB hb19
        refine wl_nil (thenN ⟨(alC (Yl_of rfl (r_ld 1 (.int _ _) one26 M19 rfl rfl rfl)) alN), ?_⟩)
        refine D_p rfl rfl rfl (fun _ => r_max2 rfl rfl ) ?_
        refine D_re 73 (.int .u64 ((max (meF (xs.take k)).sp (lsq xb.vx xb.vy) : Nat) : Int)) (iE (by omega)) ?_
        refine D_p rfl rfl rfl (fun _ => r_fieldAddr 2 fld41_2 rfl) ?_
        refine D_e [true] rfl (by kernel_rfl) ?_
        refine wl_st 1 (.int _ _) one26 M19 rfl rfl rfl rfl rfl rfl (fun w20 M20 => ?_)
        refine wl_nil (thenN ⟨alN, ?_⟩)
        refine D_nil ?_
        refine thenN ?_
        refine W_seq ?_
        refine W_region ?_
        refine wl_q (r_fieldAddr 3 fld41_3 rfl) rfl rfl ?_
        refine wl_q (r_ld 1 (.int _ _) one2 M20 rfl rfl rfl) rfl rfl ?_
        refine wl_re 76 (.int .i64 (meF (xs.take k)).sx) rfl ?_
        refine wl_q (r_fieldAddr 8 fld32_6 rfl) rfl rfl ?_
        refine wl_q (r_fieldAddr 0 fld29_0 rfl) rfl rfl ?_
        refine wl_q (r_ld 2 (.int _ _) one21 M20 rfl rfl rfl) rfl rfl ?_
        refine wl_q (r_convK us21 Tryz.underlying2 rfl (w64 _ (by omega) (by omega))) rfl rfl ?_
        refine wl_q (r_add rfl rfl (by omega) (by omega)) rfl rfl ?_
        refine wl_q (r_fieldAddr 3 fld41_3 rfl) rfl rfl ?_
        refine wl_st 1 (.int _ _) one2 M20 rfl rfl rfl rfl rfl rfl (fun w21 M21 => ?_)
        refine wl_nil ?_
        refine thenN ?_
        refine W_region ?_
        refine wl_q (r_fieldAddr 4 fld41_4 rfl) rfl rfl ?_
        refine wl_q (r_ld 1 (.int _ _) one2 M21 rfl rfl rfl) rfl rfl ?_
        refine wl_re 84 (.int .i64 (meF (xs.take k)).sy) rfl ?_
        refine wl_q (r_fieldAddr 8 fld32_6 rfl) rfl rfl ?_
        refine wl_q (r_fieldAddr 1 fld29_1 rfl) rfl rfl ?_
        refine wl_q (r_ld 2 (.int _ _) one21 M21 rfl rfl rfl) rfl rfl ?_
        refine wl_q (r_convK us21 Tryz.underlying2 rfl (w64 _ (by omega) (by omega))) rfl rfl ?_
        refine wl_q (r_add rfl rfl (by omega) (by omega)) rfl rfl ?_
        refine wl_q (r_fieldAddr 4 fld41_4 rfl) rfl rfl ?_
        refine wl_st 1 (.int _ _) one2 M21 rfl rfl rfl rfl rfl rfl (fun w22 M22 => ?_)
        refine wl_nil ?_
        refine blkN ?_
        refine thenN ?_
        refine W_region ?_
        refine wl_q (r_move (.int _ _) rfl) rfl rfl ?_
        refine wl_q (r_add rfl rfl (by omega) (by omega)) rfl rfl ?_
        refine wl_q (r_assign (.int _ _) rfl) rfl rfl ?_
        refine wl_nil ?_
        have hme : ({ meF (xs.take (k + 1)) with nb := (n : Int) } : Meas) = ⟨(n : Int), (meF (xs.take k)).ns, max (meF (xs.take k)).sp (lsq xb.vx xb.vy), (meF (xs.take k)).sx + xb.vx, (meF (xs.take k)).sy + xb.vy, (unionB (meF (xs.take k)).bx (boxOf xb)), (meF (xs.take k)).ov⟩ := by rw [meF_snoc hxb]; simp only [mergeM, singleM, if_neg h57, Int.add_zero]
        refine roundN (k + 1) (agC rfl agN) (akC rfl (akC rfl (akC rfl akN))) ?_ ?_
        · exact ⟨by omega, by rw [hme]; exact M22.keep [true, true, false, false]⟩
        · omega
    · skip
      have hU := (union_cases (okM_meF hbt).g (good_box hbk)).2.2 (meF_ne hbt (fun h => by have h2 := congrArg List.length h; rw [List.length_take, List.length_nil] at h2; omega)) (full_ne hfull)
      refine W_skip ?_
      refine thenN ?_
      refine W_seq ?_
      refine W_region ?_
      refine wl_q (r_fieldAddr 5 fld41_5 rfl) rfl rfl ?_
      refine wl_q (r_fieldAddr 0 fld39_0 rfl) rfl rfl ?_
      refine wl_q (r_ld 1 (.int _ _) one21 M9 rfl rfl rfl) rfl rfl ?_
      refine wl_q (r_fieldAddr 0 fld39_0 rfl) rfl rfl ?_
      refine wl_q (r_ld 3 (.int _ _) one21 M9 rfl rfl rfl) rfl rfl ?_
      refine wl_q (r_min2 rfl rfl ) rfl rfl ?_
      refine wl_re 34 (.int .i32 (unionB (meF (xs.take k)).bx (boxOf xb)).x0) (iE (by rw [hU]; first | done | rfl | omega)) ?_
      refine wl_q (r_fieldAddr 5 fld41_5 rfl) rfl rfl ?_
      refine wl_q (r_fieldAddr 1 fld39_1 rfl) rfl rfl ?_
      refine wl_q (r_ld 1 (.int _ _) one21 M9 rfl rfl rfl) rfl rfl ?_
      refine wl_q (r_fieldAddr 1 fld39_1 rfl) rfl rfl ?_
      refine wl_q (r_ld 3 (.int _ _) one21 M9 rfl rfl rfl) rfl rfl ?_
      refine wl_q (r_min2 rfl rfl ) rfl rfl ?_
      refine wl_re 40 (.int .i32 (unionB (meF (xs.take k)).bx (boxOf xb)).y0) (iE (by rw [hU]; first | done | rfl | omega)) ?_
      refine wl_q (r_fieldAddr 5 fld41_5 rfl) rfl rfl ?_
      refine wl_q (r_fieldAddr 2 fld39_2 rfl) rfl rfl ?_
      refine wl_q (r_ld 1 (.int _ _) one21 M9 rfl rfl rfl) rfl rfl ?_
      refine wl_q (r_fieldAddr 2 fld39_2 rfl) rfl rfl ?_
      refine wl_q (r_ld 3 (.int _ _) one21 M9 rfl rfl rfl) rfl rfl ?_
      refine wl_q (r_max2 rfl rfl ) rfl rfl ?_
      refine wl_re 46 (.int .i32 (unionB (meF (xs.take k)).bx (boxOf xb)).x1) (iE (by rw [hU]; first | done | rfl | omega)) ?_
      refine wl_q (r_fieldAddr 5 fld41_5 rfl) rfl rfl ?_
      refine wl_q (r_fieldAddr 3 fld39_3 rfl) rfl rfl ?_
      refine wl_q (r_ld 1 (.int _ _) one21 M9 rfl rfl rfl) rfl rfl ?_
      refine wl_q (r_fieldAddr 3 fld39_3 rfl) rfl rfl ?_
      refine wl_q (r_ld 3 (.int _ _) one21 M9 rfl rfl rfl) rfl rfl ?_
      refine wl_q (r_max2 rfl rfl ) rfl rfl ?_
      refine wl_re 52 (.int .i32 (unionB (meF (xs.take k)).bx (boxOf xb)).y1) (iE (by rw [hU]; first | done | rfl | omega)) ?_
      refine wl_q (r_build [(0, .int _ _), (1, .int _ _), (2, .int _ _), (3, .int _ _)] _ struct39 rfl rfl) rfl rfl ?_
      refine wl_q (r_fieldAddr 5 fld41_5 rfl) rfl rfl ?_
      refine wl_stA 1 _ agg39 M9 rfl rfl rfl rfl rfl (ones_of rfl) (Nat.le_of_ble_eq_true rfl) (fun w23 M23 => ?_)
      refine wl_nil ?_
      refine thenN ?_
      refine W_seq ?_
      refine W_seq ?_
      refine W_region ?_
      refine wl_q (r_fieldAddr 4 fld32_3 rfl) rfl rfl ?_
      refine wl_q (r_ld 2 (.int _ _) one21 M23 rfl rfl rfl) rfl rfl ?_
      refine wl_q (r_bin (.bool (decide _)) rfl rfl rfl) rfl rfl ?_
      refine wl_nil ?_
      refine thenN ?_
      refine W_condD rfl (fun h57 => ?_) (fun h57 => ?_)
      · skip
        refine W_region ?_
        refine wl_q (r_fieldAddr 1 fld41_1 rfl) rfl rfl ?_
        refine wl_q (r_ld 1 (.int _ _) one3 M23 rfl rfl rfl) rfl rfl ?_
        refine wl_re 59 (.int .i64 (meF (xs.take k)).ns) rfl ?_
        refine wl_q (r_add rfl rfl (by omega) (by omega)) rfl rfl ?_
        refine wl_q (r_fieldAddr 1 fld41_1 rfl) rfl rfl ?_
        refine wl_st 1 (.int _ _) one3 M23 rfl rfl rfl rfl rfl rfl (fun w24 M24 => ?_)
        refine wl_nil ?_
        refine thenN ?_
        refine W_seq ?_
        refine W_draw [(0, 0), (1, 1), (2, 0), (3, 0), (4, 1), (5, 0), (6, 0), (7, 0), (8, 1), (9, 0), (10, 2), (11, 0), (12, 0), (13, 2)] mixed rfl (by kernel_rfl) (fun w25 hb25 hh25 => ?_)
        have M25 := M24.drew hb25 hh25
        refine D_p rfl rfl rfl (fun _ => r_fieldAddr 2 fld41_2 rfl) ?_
        refine D_r rfl rfl rfl (r_ld 1 (.int _ _) one26 M25 rfl rfl rfl) ?_
        refine D_re 63 (.int .u64 ((meF (xs.take k)).sp : Int)) rfl ?_
        refine D_p rfl rfl rfl (fun _ => r_fieldAddr 8 fld32_6 rfl) ?_
        refine D_p rfl rfl rfl (fun _ => r_fieldAddr 0 fld29_0 rfl) ?_
        refine D_r rfl rfl rfl (r_ld 2 (.int _ _) one21 M25 rfl rfl rfl) ?_
        refine D_p rfl rfl rfl (fun _ => r_convK us21 Tryz.underlying2 rfl (w64 _ (by omega) (by omega))) ?_
        refine D_p rfl rfl rfl (fun _ => r_fieldAddr 8 fld32_6 rfl) ?_
        refine D_p rfl rfl rfl (fun _ => r_fieldAddr 1 fld29_1 rfl) ?_
        refine D_r rfl rfl rfl (r_ld 2 (.int _ _) one21 M25 rfl rfl rfl) ?_
        refine D_p rfl rfl rfl (fun _ => r_convK us21 Tryz.underlying2 rfl (w64 _ (by omega) (by omega))) ?_
        refine D_e [true, true, false] rfl (by kernel_rfl) ?_
        refine wl_cal cal16 rfl rfl rfl ?_
        refine (ref04_LengthSq _ xb.vx xb.vy (vel_in hbk).1 (vel_in hbk).2).mono ?_
        rintro _ w26 ⟨v26, rfl, ⟨rfl, hb26⟩⟩
        refine ⟨_, rfl, ?_⟩
        have M26 := M25.callB hb26
        refine wl_nil (thenN ⟨(alC (Yl_of rfl (r_ld 1 (.int _ _) one26 M26 rfl rfl rfl)) alN), ?_⟩)
        refine D_p rfl rfl rfl (fun _ => r_max2 rfl rfl ) ?_
        refine D_re 73 (.int .u64 ((max (meF (xs.take k)).sp (lsq xb.vx xb.vy) : Nat) : Int)) (iE (by omega)) ?_
        refine D_p rfl rfl rfl (fun _ => r_fieldAddr 2 fld41_2 rfl) ?_
        refine D_e [true] rfl (by kernel_rfl) ?_
        refine wl_st 1 (.int _ _) one26 M26 rfl rfl rfl rfl rfl rfl (fun w27 M27 => ?_)
        refine wl_nil (thenN ⟨alN, ?_⟩)
        refine D_nil ?_
        refine thenN ?_
        refine W_seq ?_
        refine W_region ?_
        refine wl_q (r_fieldAddr 3 fld41_3 rfl) rfl rfl ?_
        refine wl_q (r_ld 1 (.int _ _) one2 M27 rfl rfl rfl) rfl rfl ?_
        refine wl_re 76 (.int .i64 (meF (xs.take k)).sx) rfl ?_
        refine wl_q (r_fieldAddr 8 fld32_6 rfl) rfl rfl ?_
        refine wl_q (r_fieldAddr 0 fld29_0 rfl) rfl rfl ?_
        refine wl_q (r_ld 2 (.int _ _) one21 M27 rfl rfl rfl) rfl rfl ?_
        refine wl_q (r_convK us21 Tryz.underlying2 rfl (w64 _ (by omega) (by omega))) rfl rfl ?_
        refine wl_q (r_add rfl rfl (by omega) (by omega)) rfl rfl ?_
        refine wl_q (r_fieldAddr 3 fld41_3 rfl) rfl rfl ?_
        refine wl_st 1 (.int _ _) one2 M27 rfl rfl rfl rfl rfl rfl (fun w28 M28 => ?_)
        refine wl_nil ?_
        refine thenN ?_
        refine W_region ?_
        refine wl_q (r_fieldAddr 4 fld41_4 rfl) rfl rfl ?_
        refine wl_q (r_ld 1 (.int _ _) one2 M28 rfl rfl rfl) rfl rfl ?_
        refine wl_re 84 (.int .i64 (meF (xs.take k)).sy) rfl ?_
        refine wl_q (r_fieldAddr 8 fld32_6 rfl) rfl rfl ?_
        refine wl_q (r_fieldAddr 1 fld29_1 rfl) rfl rfl ?_
        refine wl_q (r_ld 2 (.int _ _) one21 M28 rfl rfl rfl) rfl rfl ?_
        refine wl_q (r_convK us21 Tryz.underlying2 rfl (w64 _ (by omega) (by omega))) rfl rfl ?_
        refine wl_q (r_add rfl rfl (by omega) (by omega)) rfl rfl ?_
        refine wl_q (r_fieldAddr 4 fld41_4 rfl) rfl rfl ?_
        refine wl_st 1 (.int _ _) one2 M28 rfl rfl rfl rfl rfl rfl (fun w29 M29 => ?_)
        refine wl_nil ?_
        refine blkN ?_
        refine thenN ?_
        refine W_region ?_
        refine wl_q (r_move (.int _ _) rfl) rfl rfl ?_
        refine wl_q (r_add rfl rfl (by omega) (by omega)) rfl rfl ?_
        refine wl_q (r_assign (.int _ _) rfl) rfl rfl ?_
        refine wl_nil ?_
        have hme : ({ meF (xs.take (k + 1)) with nb := (n : Int) } : Meas) = ⟨(n : Int), (meF (xs.take k)).ns + 1, max (meF (xs.take k)).sp (lsq xb.vx xb.vy), (meF (xs.take k)).sx + xb.vx, (meF (xs.take k)).sy + xb.vy, (unionB (meF (xs.take k)).bx (boxOf xb)), (meF (xs.take k)).ov⟩ := by rw [meF_snoc hxb]; simp only [mergeM, singleM, if_pos h57, Int.add_zero]
        refine roundN (k + 1) (agC rfl agN) (akC rfl (akC rfl (akC rfl akN))) ?_ ?_
        · exact ⟨by omega, by rw [hme]; exact M29.keep [true, true, false, false]⟩
        · omega
      · skip
        refine W_skip ?_
        refine thenN ?_
        refine W_seq ?_
        refine W_draw [(0, 0), (1, 1), (2, 0), (3, 0), (4, 1), (5, 0), (6, 0), (7, 0), (8, 1), (9, 0), (10, 2), (11, 0), (12, 0), (13, 2)] mixed rfl (by kernel_rfl) (fun w30 hb30 hh30 => ?_)
        have M30 := M23.drew hb30 hh30
        refine D_p rfl rfl rfl (fun _ => r_fieldAddr 2 fld41_2 rfl) ?_
        refine D_r rfl rfl rfl (r_ld 1 (.int _ _) one26 M30 rfl rfl rfl) ?_
        refine D_re 63 (.int .u64 ((meF (xs.take k)).sp : Int)) rfl ?_
        refine D_p rfl rfl rfl (fun _ => r_fieldAddr 8 fld32_6 rfl) ?_
        refine D_p rfl rfl rfl (fun _ => r_fieldAddr 0 fld29_0 rfl) ?_
        refine D_r rfl rfl rfl (r_ld 2 (.int _ _) one21 M30 rfl rfl rfl) ?_
        refine D_p rfl rfl rfl (fun _ => r_convK us21 Tryz.underlying2 rfl (w64 _ (by omega) (by omega))) ?_
        refine D_p rfl rfl rfl (fun _ => r_fieldAddr 8 fld32_6 rfl) ?_
        refine D_p rfl rfl rfl (fun _ => r_fieldAddr 1 fld29_1 rfl) ?_
        refine D_r rfl rfl rfl (r_ld 2 (.int _ _) one21 M30 rfl rfl rfl) ?_
        refine D_p rfl rfl rfl (fun _ => r_convK us21 Tryz.underlying2 rfl (w64 _ (by omega) (by omega))) ?_
        refine D_e [true, true, false] rfl (by kernel_rfl) ?_
        refine wl_cal cal16 rfl rfl rfl ?_
        refine (ref04_LengthSq _ xb.vx xb.vy (vel_in hbk).1 (vel_in hbk).2).mono ?_
        rintro _ w31 ⟨v31, rfl, ⟨rfl, hb31⟩⟩
        refine ⟨_, rfl, ?_⟩
        have M31 := M30.callB hb31
        refine wl_nil (thenN ⟨(alC (Yl_of rfl (r_ld 1 (.int _ _) one26 M31 rfl rfl rfl)) alN), ?_⟩)
        refine D_p rfl rfl rfl (fun _ => r_max2 rfl rfl ) ?_
        refine D_re 73 (.int .u64 ((max (meF (xs.take k)).sp (lsq xb.vx xb.vy) : Nat) : Int)) (iE (by omega)) ?_
        refine D_p rfl rfl rfl (fun _ => r_fieldAddr 2 fld41_2 rfl) ?_
        refine D_e [true] rfl (by kernel_rfl) ?_
        refine wl_st 1 (.int _ _) one26 M31 rfl rfl rfl rfl rfl rfl (fun w32 M32 => ?_)
        refine wl_nil (thenN ⟨alN, ?_⟩)
        refine D_nil ?_
        refine thenN ?_
        refine W_seq ?_
        refine W_region ?_
        refine wl_q (r_fieldAddr 3 fld41_3 rfl) rfl rfl ?_
        refine wl_q (r_ld 1 (.int _ _) one2 M32 rfl rfl rfl) rfl rfl ?_
        refine wl_re 76 (.int .i64 (meF (xs.take k)).sx) rfl ?_
        refine wl_q (r_fieldAddr 8 fld32_6 rfl) rfl rfl ?_
        refine wl_q (r_fieldAddr 0 fld29_0 rfl) rfl rfl ?_
        refine wl_q (r_ld 2 (.int _ _) one21 M32 rfl rfl rfl) rfl rfl ?_
        refine wl_q (r_convK us21 Tryz.underlying2 rfl (w64 _ (by omega) (by omega))) rfl rfl ?_
        refine wl_q (r_add rfl rfl (by omega) (by omega)) rfl rfl ?_
        refine wl_q (r_fieldAddr 3 fld41_3 rfl) rfl rfl ?_
        refine wl_st 1 (.int _ _) one2 M32 rfl rfl rfl rfl rfl rfl (fun w33 M33 => ?_)
        refine wl_nil ?_
        refine thenN ?_
        refine W_region ?_
        refine wl_q (r_fieldAddr 4 fld41_4 rfl) rfl rfl ?_
        refine wl_q (r_ld 1 (.int _ _) one2 M33 rfl rfl rfl) rfl rfl ?_
        refine wl_re 84 (.int .i64 (meF (xs.take k)).sy) rfl ?_
        refine wl_q (r_fieldAddr 8 fld32_6 rfl) rfl rfl ?_
        refine wl_q (r_fieldAddr 1 fld29_1 rfl) rfl rfl ?_
        refine wl_q (r_ld 2 (.int _ _) one21 M33 rfl rfl rfl) rfl rfl ?_
        refine wl_q (r_convK us21 Tryz.underlying2 rfl (w64 _ (by omega) (by omega))) rfl rfl ?_
        refine wl_q (r_add rfl rfl (by omega) (by omega)) rfl rfl ?_
        refine wl_q (r_fieldAddr 4 fld41_4 rfl) rfl rfl ?_
        refine wl_st 1 (.int _ _) one2 M33 rfl rfl rfl rfl rfl rfl (fun w34 M34 => ?_)
        refine wl_nil ?_
        refine blkN ?_
        refine thenN ?_
        refine W_region ?_
        refine wl_q (r_move (.int _ _) rfl) rfl rfl ?_
        refine wl_q (r_add rfl rfl (by omega) (by omega)) rfl rfl ?_
        refine wl_q (r_assign (.int _ _) rfl) rfl rfl ?_
        refine wl_nil ?_
        have hme : ({ meF (xs.take (k + 1)) with nb := (n : Int) } : Meas) = ⟨(n : Int), (meF (xs.take k)).ns, max (meF (xs.take k)).sp (lsq xb.vx xb.vy), (meF (xs.take k)).sx + xb.vx, (meF (xs.take k)).sy + xb.vy, (unionB (meF (xs.take k)).bx (boxOf xb)), (meF (xs.take k)).ov⟩ := by rw [meF_snoc hxb]; simp only [mergeM, singleM, if_neg h57, Int.add_zero]
        refine roundN (k + 1) (agC rfl agN) (akC rfl (akC rfl (akC rfl akN))) ?_ ?_
        · exact ⟨by omega, by rw [hme]; exact M34.keep [true, true, false, false]⟩
        · omega
  · skip
    have hkn : k = n := by omega
    rw [List.take_of_length_le (by omega)] at hM4
    have hom2 := okM_bnd (okM_meF hb) (by omega)
    have hnbe := (meF_nb xs)
    refine W_exit ?_
    refine thenX ?_
    refine roundX ?_
    refine blkH ?_
    refine thenN ?_
    refine W_seq ?_
    refine W_region ?_
    refine wl_q (r_move (.slice _ _ _) rfl) rfl rfl ?_
    refine wl_cal cal22 rfl rfl rfl ?_
    refine (ref15_All _ _ _ _ xs (R.mem hM4) hb hs (by first | decide | omega)).mono ?_
    rintro _ w35 ⟨v35, rfl, ⟨r4, rfl, hr4, hM35⟩⟩
    refine ⟨_, rfl, ?_⟩
    have M35 : Mem _ _ [_, _, _] _ := hM4.call0 hM35
    have hcl : (allC xs).length = r4.n := by simpa using hr4.1
    have hsq := allC_sq (xs := xs)
    have hnn : xs.length * xs.length ≤ 4096 * 4096 := Nat.mul_le_mul (by omega) (by omega)
    have hme0 : ({ meF xs with nb := (n : Int) } : Meas) = { meF xs with nb := (n : Int), ov := dsum ((allC xs).take 0) } := by rw [me_ext]; simp [dsum, hnbe.2]
    rw [hme0] at M35
    refine wl_q (r_assign (.slice _ _ _) rfl) rfl rfl ?_
    refine wl_nil ?_
    refine thenN ?_
    refine W_seq ?_
    refine W_seq ?_
    refine W_region ?_
    refine wl_q (r_assign (.int _ _) rfl) rfl rfl ?_
    refine wl_nil ?_
    refine thenN ?_
    refine W_block ?_
    refine W_loop (σ := Nat) [2, 3, 7] (fun k2 => [(8, .int .i64 (k2 : Int))]) (fun k2 w' => k2 ≤ r4.n ∧ Mem w [] [(some b1, bc [.int .i64 0, .int .i64 0, .int .u64 0, .int .i64 0, .int .i64 0, .int .i32 0, .int .i32 0, .int .i32 0, .int .i32 0, .int .i64 0] 41), (some b2, bc (meCells { meF xs with nb := (n : Int), ov := dsum ((allC xs).take k2) }) 41), r4.e] w') (fun k2 => r4.n - k2) 0 (agC rfl agN) (⟨by omega, M35⟩) ?_
    rintro k2 ρ36 w36 ⟨hk2, hM36⟩
    have hdb := dsum_le (l := (allC xs).take k2) (fun c hc => allC_depth hs c ((List.take_sublist _ _).subset hc))
    have htl2 := List.length_take_le k2 (allC xs)
    refine W_seq ?_
    refine W_seq ?_
    refine W_region ?_
    refine wl_q (r_move (.int _ _) rfl) rfl rfl ?_
    refine wl_q (r_move (.slice _ _ _) rfl) rfl rfl ?_
    refine wl_q (r_lenS Tryz.underlying45 rfl) rfl rfl ?_
    refine wl_q (r_bin (.bool (decide _)) rfl rfl rfl) rfl rfl ?_
    refine wl_nil ?_
    refine thenN ?_
    refine W_condD rfl (fun h96 => ?_) (fun h96 => ?_)
    · skip
      obtain ⟨xc, hxc⟩ := getSome (xs := allC xs) (k := k2) hcl (by omega)
      have hcd := allC_depth hs xc (List.mem_of_getElem? hxc)
      refine W_skip ?_
      refine thenN ?_
      refine W_seq ?_
      refine W_block ?_
      refine W_draw [(0, 0), (1, 1), (2, 0), (3, 0), (4, 1), (5, 1), (6, 1), (7, 0), (8, 0), (9, 0), (10, 2)] mixed rfl (by kernel_rfl) (fun w37 hb37 hh37 => ?_)
      have M37 := hM36.drew hb37 hh37
      refine D_p rfl rfl rfl (fun _ => r_fieldAddr 9 fld41_6 rfl) ?_
      refine D_r rfl rfl rfl (r_ld 1 (.int _ _) one2 M37 rfl rfl rfl) ?_
      refine D_re 100 (.int .i64 (dsum ((allC xs).take k2))) rfl ?_
      refine D_p rfl rfl rfl (fun _ => r_move (.slice _ _ _) rfl) ?_
      refine D_p rfl rfl rfl (fun _ => r_move (.int _ _) rfl) ?_
      refine D_r rfl rfl rfl (r_idxR (k2) sl45 rfl rfl rfl ((hr4.rd M37 (nthMem (i := 2) rfl)).below_len (mapGet conCells hxc)) ((hr4.rd M37 (nthMem (i := 2) rfl)).someK (mapGet conCells hxc))) ?_
      refine D_r rfl rfl rfl (r_fieldAddrE 4 fld63_2 (hr4.rd M37 (nthMem (i := 2) rfl)) (Nat.lt_of_le_of_lt (Nat.zero_le _) ((hr4.rd M37 (nthMem (i := 2) rfl)).below_len (mapGet conCells hxc))) rfl) ?_
      refine D_r rfl rfl rfl (r_ldE (o := 4) (.int _ _) one21 (hr4.rd M37 (nthMem (i := 2) rfl)) (mapGet conCells hxc) rfl rfl) ?_
      refine D_p rfl rfl rfl (fun _ => r_convK us21 Tryz.underlying2 rfl (w64 _ (by omega) (by omega))) ?_
      refine D_p rfl rfl rfl (fun _ => r_add rfl rfl (by omega) (by omega)) ?_
      refine D_p rfl rfl rfl (fun _ => r_fieldAddr 9 fld41_6 rfl) ?_
      refine D_e [true, true, true, true] rfl (by kernel_rfl) ?_
      refine wl_st 1 (.int _ _) one2 M37 rfl rfl rfl rfl rfl rfl (fun w38 M38 => ?_)
      refine wl_nil (thenN ⟨alN, ?_⟩)
      refine D_nil ?_
      refine blkN ?_
      refine thenN ?_
      refine W_region ?_
      refine wl_q (r_move (.int _ _) rfl) rfl rfl ?_
      refine wl_q (r_add rfl rfl (by omega) (by omega)) rfl rfl ?_
      refine wl_q (r_assign (.int _ _) rfl) rfl rfl ?_
      refine wl_nil ?_
      refine roundN (k2 + 1) (agC rfl agN) (akC rfl (akC rfl (akC rfl akN))) ?_ ?_
      · exact ⟨by omega, by rw [dsum_snoc hxc]; exact M38⟩
      · omega
    · skip
      have hk2n : k2 = r4.n := by omega
      rw [List.take_of_length_le (by omega)] at hM36
      refine W_exit ?_
      refine thenX ?_
      refine roundX ?_
      refine blkH ?_
      refine thenN ?_
      refine W_seq ?_
      refine W_region ?_
      refine wl_q (r_ldW 1 agg41 hM36 rfl rfl rfl) rfl rfl ?_
      refine wl_stW 0 _ agg41 hM36 rfl rfl rfl rfl rfl (ones_of rfl) rfl (fun w39 M39 => ?_)
      refine wl_nil ?_
      refine thenN ?_
      refine W_ret ?_
      skip
      refine finC1 0 agg41 M39 rfl rfl rfl ?_
      have hfe : ({ meF xs with nb := (n : Int), ov := dsum (allC xs) } : Meas) = meOf xs := by unfold meOf; rw [me_ext]; simp [hnbe.1, hlen]
      exact ⟨by rw [← hfe], M39.below⟩

set_option maxHeartbeats 4000000 in
theorem law26_forward (w : World) (m : Meas) :
    Calls Tryz.prog 18 #[(.agg (meCells m).toArray)] w (fun ex w' => ∃ v, ex = .returned v ∧ (fun v w' => v = (.agg (meCells m).toArray) ∧ Below w.heap.size w w') v w') := by
  refine calls_of_W #[.cell 2 36] 29 Tryz.func18 rfl Tryz.results18 Tryz.ntmps18 rfl ?_
  have M0 := Mem.refl w
  refine W_seq ?_
  refine W_region ?_
  refine wl_box (.agg (List.toArray _)) M0 rfl rfl rfl (fun b1 w1 M1 => ?_)
  refine wl_alloc zero36 M1 rfl rfl (fun b2 w2 M2 => ?_)
  refine wl_nil ?_
  refine thenN ?_
  refine W_seq ?_
  refine W_region ?_
  refine wl_q (r_fieldAddr 0 fld41_0 rfl) rfl rfl ?_
  refine wl_q (r_ld 0 (.int _ _) one3 M2 rfl rfl rfl) rfl rfl ?_
  refine wl_q (r_fieldAddr 1 fld41_1 rfl) rfl rfl ?_
  refine wl_q (r_ld 0 (.int _ _) one3 M2 rfl rfl rfl) rfl rfl ?_
  refine wl_q (r_fieldAddr 2 fld41_2 rfl) rfl rfl ?_
  refine wl_q (r_ld 0 (.int _ _) one26 M2 rfl rfl rfl) rfl rfl ?_
  refine wl_q (r_fieldAddr 3 fld41_3 rfl) rfl rfl ?_
  refine wl_q (r_ld 0 (.int _ _) one2 M2 rfl rfl rfl) rfl rfl ?_
  refine wl_q (r_fieldAddr 4 fld41_4 rfl) rfl rfl ?_
  refine wl_q (r_ld 0 (.int _ _) one2 M2 rfl rfl rfl) rfl rfl ?_
  refine wl_q (r_fieldAddr 5 fld41_5 rfl) rfl rfl ?_
  refine wl_q (r_fieldAddr 0 fld39_0 rfl) rfl rfl ?_
  refine wl_q (r_ld 0 (.int _ _) one21 M2 rfl rfl rfl) rfl rfl ?_
  refine wl_q (r_fieldAddr 5 fld41_5 rfl) rfl rfl ?_
  refine wl_q (r_fieldAddr 1 fld39_1 rfl) rfl rfl ?_
  refine wl_q (r_ld 0 (.int _ _) one21 M2 rfl rfl rfl) rfl rfl ?_
  refine wl_q (r_fieldAddr 5 fld41_5 rfl) rfl rfl ?_
  refine wl_q (r_fieldAddr 2 fld39_2 rfl) rfl rfl ?_
  refine wl_q (r_ld 0 (.int _ _) one21 M2 rfl rfl rfl) rfl rfl ?_
  refine wl_q (r_fieldAddr 5 fld41_5 rfl) rfl rfl ?_
  refine wl_q (r_fieldAddr 3 fld39_3 rfl) rfl rfl ?_
  refine wl_q (r_ld 0 (.int _ _) one21 M2 rfl rfl rfl) rfl rfl ?_
  refine wl_q (r_build [(0, .int _ _), (1, .int _ _), (2, .int _ _), (3, .int _ _)] _ struct34 rfl rfl) rfl rfl ?_
  refine wl_q (r_fieldAddr 9 fld41_6 rfl) rfl rfl ?_
  refine wl_q (r_ld 0 (.int _ _) one2 M2 rfl rfl rfl) rfl rfl ?_
  refine wl_q (r_build [(0, .int _ _), (1, .int _ _), (2, .int _ _), (3, .int _ _), (4, .int _ _), (5, .agg (List.toArray _)), (6, .int _ _)] _ struct36 rfl rfl) rfl rfl ?_
  refine wl_stW 1 _ agg36 M2 rfl rfl rfl rfl rfl (ones_of rfl) rfl (fun w3 M3 => ?_)
  refine wl_nil ?_
  refine thenN ?_
  refine W_ret ?_
  skip
  refine finC1 1 agg36 M3 rfl rfl rfl ?_
  exact ⟨rfl, M3.below⟩

end Go.Proofs.YtmcddmhkjcgneaaGreatDoor
