/- The law MeasureMerges returns true for every input, and what it reads stays as it was. No conditions. -/
import Derived.Test.YtmcddmhkjcgneaaGreatDoorK5
import Derived.Test.YtmcddmhkjcgneaaGreatDoorK27
import Derived.Test.YtmcddmhkjcgneaaGreatDoorK24
import Derived.Test.YtmcddmhkjcgneaaGreatDoorRows
import Derived.Test.YtmcddmhkjcgneaaGreatDoorK28
import Derived.Test.YtmcddmhkjcgneaaGreatDoorTie
import Derived.Test.YtmcddmhkjcgneaaGreatDoorCards
import Derived.WalkKit
import Derived.ProofKit
import Derived.OpenShut
import Derived.ShutString
import Derived.ChangeOld
import Derived.Below
import Derived.SizedLaws
/- Walks of Go functions over the frame of this claim: what each computes, for every input of the stated types (LMeasureMerges). -/
set_option linter.unusedVariables false
set_option linter.unusedSimpArgs false
set_option linter.unnecessarySimpa false
namespace Go.Proofs.YtmcddmhkjcgneaaGreatDoor
open Go.Bil
open Go.RowKit (Below)
open Go.Proofs

set_option maxHeartbeats 16000000 in
theorem law_MeasureMerges (w : World) (F : Rd w 2 (some ⟨1, 0, none⟩) 1 [[.int .u32 73856093, .int .u32 19349663]]) (N : Rd w 4 (some ⟨0, 0, none⟩) 1 [bxCells noneB]) (A : Option Addr) (n c : Nat) (xs : List Body) (R : Rd w 10 A n (xs.map bodyCells)) (B : Option Addr) (n2 c2 : Nat) (ys : List Body) (R2 : Rd w 10 B n2 (ys.map bodyCells)) (C : Option Addr) (n3 c3 : Nat) (zs : List Body) (R3 : Rd w 10 C n3 (zs.map bodyCells)) :
    Calls Tryz.prog 5 #[.slice A n c, .slice B n2 c2, .slice C n3 c3] w (fun ex w' => ∃ v, ex = .returned v ∧ (fun v w' => v = .bool true ∧ Below w.heap.size w w') v w') := by
  refine calls_of_W #[.tmp 6] 79 Tryz.func5 rfl Tryz.results5 Tryz.ntmps5 rfl ?_
  have M0 := Mem.refl w
  refine W_seq ?_
  refine W_region ?_
  refine wl_q (r_assign (.bool false) rfl) rfl rfl ?_
  refine wl_nil ?_
  refine thenN ?_
  refine W_seq ?_
  refine W_region ?_
  refine wl_q (r_move (.slice _ _ _) rfl) rfl rfl ?_
  refine wl_cal cal14 rfl rfl rfl ?_
  refine (ref11_View _ _ _ _ xs (R.mem M0)).mono ?_
  rintro _ w1 ⟨v1, rfl, ⟨r1, rfl, hr1, hM1⟩⟩
  refine ⟨_, rfl, ?_⟩
  have M1 : Mem _ _ [_] _ := M0.call0 hM1
  refine wl_q (r_move (.tuple (List.toArray _)) rfl) rfl rfl ?_
  refine wl_q (r_ext (.slice _ _ _) rfl rfl) rfl rfl ?_
  refine wl_q (r_ext (.bool (decide _)) rfl rfl) rfl rfl ?_
  refine wl_q (r_assign (.slice _ _ _) rfl) rfl rfl ?_
  refine wl_q (r_assign (.bool (decide _)) rfl) rfl rfl ?_
  refine wl_nil ?_
  refine thenN ?_
  refine W_seq ?_
  refine W_region ?_
  refine wl_q (r_move (.slice _ _ _) rfl) rfl rfl ?_
  refine wl_cal cal14 rfl rfl rfl ?_
  refine (ref11_View _ _ _ _ ys (R2.mem M1)).mono ?_
  rintro _ w2 ⟨v2, rfl, ⟨r2, rfl, hr2, hM2⟩⟩
  refine ⟨_, rfl, ?_⟩
  have M2 : Mem _ _ [_, _] _ := M1.call0 hM2
  refine wl_q (r_move (.tuple (List.toArray _)) rfl) rfl rfl ?_
  refine wl_q (r_ext (.slice _ _ _) rfl rfl) rfl rfl ?_
  refine wl_q (r_ext (.bool (decide _)) rfl rfl) rfl rfl ?_
  refine wl_q (r_assign (.slice _ _ _) rfl) rfl rfl ?_
  refine wl_q (r_assign (.bool (decide _)) rfl) rfl rfl ?_
  refine wl_nil ?_
  refine thenN ?_
  refine W_seq ?_
  refine W_region ?_
  refine wl_q (r_move (.slice _ _ _) rfl) rfl rfl ?_
  refine wl_cal cal14 rfl rfl rfl ?_
  refine (ref11_View _ _ _ _ zs (R3.mem M2)).mono ?_
  rintro _ w3 ⟨v3, rfl, ⟨r3, rfl, hr3, hM3⟩⟩
  refine ⟨_, rfl, ?_⟩
  have M3 : Mem _ _ [_, _, _] _ := M2.call0 hM3
  refine wl_q (r_move (.tuple (List.toArray _)) rfl) rfl rfl ?_
  refine wl_q (r_ext (.slice _ _ _) rfl rfl) rfl rfl ?_
  refine wl_q (r_ext (.bool (decide _)) rfl rfl) rfl rfl ?_
  refine wl_q (r_assign (.slice _ _ _) rfl) rfl rfl ?_
  refine wl_q (r_assign (.bool (decide _)) rfl) rfl rfl ?_
  refine wl_nil ?_
  refine thenN ?_
  refine W_seq ?_
  refine W_seq ?_
  refine W_region ?_
  refine wl_cal cal15 rfl rfl rfl ?_
  refine (aw26 _ (F.mem M3) (N.mem M3)).mono ?_
  rintro _ w4 ⟨v4, rfl, ⟨rfl, hb4⟩⟩
  refine ⟨_, rfl, ?_⟩
  have M4 := M3.callB hb4
  refine wl_q (r_notB false rfl rfl) rfl rfl ?_
  refine wl_q (r_move (.bool false) rfl) rfl rfl ?_
  refine wl_q (r_move (.bool (decide _)) rfl) rfl rfl ?_
  refine wl_q (r_not rfl) rfl rfl ?_
  refine wl_q (r_pick false (.bool (decide _)) rfl rfl) rfl rfl ?_
  refine wl_q (r_move (.bool (decide _)) rfl) rfl rfl ?_
  refine wl_splitD 37 rfl (fun g37 => ?_) (fun g37 => ?_)
  · skip
    refine wl_skip rfl rfl ?_
    refine wl_skip rfl rfl ?_
    refine wl_q (r_pick true (.bool true) rfl rfl) rfl rfl ?_
    refine wl_q (r_move (.bool true) rfl) rfl rfl ?_
    refine wl_skip rfl rfl ?_
    refine wl_skip rfl rfl ?_
    refine wl_q (r_pick true (.bool true) rfl rfl) rfl rfl ?_
    refine wl_nil ?_
    refine thenN ?_
    refine W_condT rfl ?_
    refine W_seq ?_
    refine W_region ?_
    refine wl_cal cal15 rfl rfl rfl ?_
    refine (aw26 _ (F.mem M4) (N.mem M4)).mono ?_
    rintro _ w5 ⟨v5, rfl, ⟨rfl, hb5⟩⟩
    refine ⟨_, rfl, ?_⟩
    have M5 := M4.callB hb5
    refine wl_q (r_assign (.bool true) rfl) rfl rfl ?_
    refine wl_nil ?_
    refine thenN ?_
    refine W_ret ?_
    refine thenR ?_
    skip
    refine fin1 (.bool true) rfl ?_
    exact ⟨rfl, M5.below⟩
  · skip
    refine wl_q (r_move (.bool (decide _)) rfl) rfl rfl ?_
    refine wl_q (r_not rfl) rfl rfl ?_
    refine wl_q (r_pick false (.bool (decide _)) rfl rfl) rfl rfl ?_
    refine wl_q (r_move (.bool (decide _)) rfl) rfl rfl ?_
    refine wl_splitD 41 rfl (fun g41 => ?_) (fun g41 => ?_)
    · skip
      refine wl_skip rfl rfl ?_
      refine wl_skip rfl rfl ?_
      refine wl_q (r_pick true (.bool true) rfl rfl) rfl rfl ?_
      refine wl_nil ?_
      refine thenN ?_
      refine W_condT rfl ?_
      refine W_seq ?_
      refine W_region ?_
      refine wl_cal cal15 rfl rfl rfl ?_
      refine (aw26 _ (F.mem M4) (N.mem M4)).mono ?_
      rintro _ w6 ⟨v6, rfl, ⟨rfl, hb6⟩⟩
      refine ⟨_, rfl, ?_⟩
      have M6 := M4.callB hb6
      refine wl_q (r_assign (.bool true) rfl) rfl rfl ?_
      refine wl_nil ?_
      refine thenN ?_
      refine W_ret ?_
      refine thenR ?_
      skip
      refine fin1 (.bool true) rfl ?_
      exact ⟨rfl, M6.below⟩
    · skip
      refine wl_q (r_move (.bool (decide _)) rfl) rfl rfl ?_
      refine wl_q (r_not rfl) rfl rfl ?_
      refine wl_q (r_pick false (.bool (decide _)) rfl rfl) rfl rfl ?_
      refine wl_nil ?_
      refine thenN ?_
      refine W_condD rfl (fun h44 => ?_) (fun h44 => ?_)
      · skip
        refine W_seq ?_
        refine W_region ?_
        refine wl_cal cal15 rfl rfl rfl ?_
        refine (aw26 _ (F.mem M4) (N.mem M4)).mono ?_
        rintro _ w7 ⟨v7, rfl, ⟨rfl, hb7⟩⟩
        refine ⟨_, rfl, ?_⟩
        have M7 := M4.callB hb7
        refine wl_q (r_assign (.bool true) rfl) rfl rfl ?_
        refine wl_nil ?_
        refine thenN ?_
        refine W_ret ?_
        refine thenR ?_
        skip
        refine fin1 (.bool true) rfl ?_
        exact ⟨rfl, M7.below⟩
      · skip
        obtain ⟨hV1, hve1, hvk1⟩ := view_of (Decidable.not_not.1 g37)
        have hvl1 := hV1.len
        have hrn1 : (viewL xs).length = r1.n := by simpa using hr1.1
        have hvs1 := hV1.s
        have hvo1 := hV1.okb
        obtain ⟨m1, hm1⟩ : ∃ m, meOf (viewL xs) = m := ⟨_, rfl⟩
        have hok1 : OkM 40 m1 := by rw [← hm1]; exact (okM_of hvs1 hvo1).mono hvl1
        obtain ⟨hV2, hve2, hvk2⟩ := view_of (Decidable.not_not.1 g41)
        have hvl2 := hV2.len
        have hrn2 : (viewL ys).length = r2.n := by simpa using hr2.1
        have hvs2 := hV2.s
        have hvo2 := hV2.okb
        obtain ⟨m2, hm2⟩ : ∃ m, meOf (viewL ys) = m := ⟨_, rfl⟩
        have hok2 : OkM 40 m2 := by rw [← hm2]; exact (okM_of hvs2 hvo2).mono hvl2
        obtain ⟨hV3, hve3, hvk3⟩ := view_of (Decidable.not_not.1 h44)
        have hvl3 := hV3.len
        have hrn3 : (viewL zs).length = r3.n := by simpa using hr3.1
        have hvs3 := hV3.s
        have hvo3 := hV3.okb
        obtain ⟨m3, hm3⟩ : ∃ m, meOf (viewL zs) = m := ⟨_, rfl⟩
        have hok3 : OkM 40 m3 := by rw [← hm3]; exact (okM_of hvs3 hvo3).mono hvl3
        refine W_skip ?_
        refine thenN ?_
        refine W_seq ?_
        refine W_region ?_
        refine wl_q (r_move (.slice _ _ _) rfl) rfl rfl ?_
        refine wl_cal cal17 rfl rfl rfl ?_
        refine (me_Of _ (F.mem M4) (N.mem M4) _ _ _ (viewL xs) (hr1.rd M4 (nthMem (i := 0) rfl)) hvo1 hvs1 (by first | decide | omega)).mono ?_
        rintro _ w8 ⟨v8, rfl, ⟨rfl, hb8⟩⟩
        refine ⟨_, rfl, ?_⟩
        have M8 := M4.callB hb8
        refine wl_re 47 ((.agg (meCells m1).toArray)) (congrArg (fun m => Value.agg (meCells m).toArray) hm1) ?_
        refine wl_alloc zero36 M8 rfl rfl (fun b9 w9 M9 => ?_)
        refine wl_stW 3 _ agg36 M9 rfl rfl rfl rfl rfl (ones_of rfl) rfl (fun w10 M10 => ?_)
        refine wl_nil ?_
        refine thenN ?_
        refine W_seq ?_
        refine W_region ?_
        refine wl_q (r_move (.slice _ _ _) rfl) rfl rfl ?_
        refine wl_cal cal17 rfl rfl rfl ?_
        refine (me_Of _ (F.mem M10) (N.mem M10) _ _ _ (viewL ys) (hr2.rd M10 (nthMem (i := 1) rfl)) hvo2 hvs2 (by first | decide | omega)).mono ?_
        rintro _ w11 ⟨v11, rfl, ⟨rfl, hb11⟩⟩
        refine ⟨_, rfl, ?_⟩
        have M11 := M10.callB hb11
        refine wl_re 49 ((.agg (meCells m2).toArray)) (congrArg (fun m => Value.agg (meCells m).toArray) hm2) ?_
        refine wl_alloc zero36 M11 rfl rfl (fun b12 w12 M12 => ?_)
        refine wl_stW 4 _ agg36 M12 rfl rfl rfl rfl rfl (ones_of rfl) rfl (fun w13 M13 => ?_)
        refine wl_nil ?_
        refine thenN ?_
        refine W_seq ?_
        refine W_region ?_
        refine wl_q (r_move (.slice _ _ _) rfl) rfl rfl ?_
        refine wl_cal cal17 rfl rfl rfl ?_
        refine (me_Of _ (F.mem M13) (N.mem M13) _ _ _ (viewL zs) (hr3.rd M13 (nthMem (i := 2) rfl)) hvo3 hvs3 (by first | decide | omega)).mono ?_
        rintro _ w14 ⟨v14, rfl, ⟨rfl, hb14⟩⟩
        refine ⟨_, rfl, ?_⟩
        have M14 := M13.callB hb14
        refine wl_re 51 ((.agg (meCells m3).toArray)) (congrArg (fun m => Value.agg (meCells m).toArray) hm3) ?_
        refine wl_alloc zero36 M14 rfl rfl (fun b15 w15 M15 => ?_)
        refine wl_stW 5 _ agg36 M15 rfl rfl rfl rfl rfl (ones_of rfl) rfl (fun w16 M16 => ?_)
        refine wl_nil ?_
        refine thenN ?_
        refine W_seq ?_
        refine W_draw [(0, 1), (1, 1), (3, 1), (4, 1), (2, 2), (5, 2), (6, 0), (7, 0), (8, 1), (9, 1), (11, 1), (13, 1), (14, 1), (15, 1), (10, 2), (12, 2), (16, 2), (17, 2), (18, 0), (19, 0), (20, 0), (21, 1), (24, 1), (22, 2), (23, 2), (25, 0), (26, 0), (27, 0)] mixed rfl (by kernel_rfl) (fun w17 hb17 hh17 => ?_)
        have M17 := M16.drew hb17 hh17
        refine D_r rfl rfl rfl (r_ldW 3 agg36 M17 rfl rfl rfl) ?_
        refine D_r rfl rfl rfl (r_ldW 4 agg36 M17 rfl rfl rfl) ?_
        refine D_r rfl rfl rfl (r_ldW 4 agg36 M17 rfl rfl rfl) ?_
        refine D_r rfl rfl rfl (r_ldW 3 agg36 M17 rfl rfl rfl) ?_
        refine D_e [false, false, true, true] rfl (by kernel_rfl) ?_
        refine wl_cal cal21 rfl rfl rfl ?_
        refine (me_Merge _ (N.mem M17) m1 m2 40 40 hok1 hok2 (by decide) (by decide)).mono ?_
        rintro _ w18 ⟨v18, rfl, ⟨rfl, hb18⟩⟩
        refine ⟨_, rfl, ?_⟩
        have M18 := M17.callB hb18
        refine wl_nil (thenN ⟨(alC (Yl_of rfl (r_ldW 3 agg36 M18 rfl rfl rfl)) (alC (Yl_of rfl (r_ldW 4 agg36 M18 rfl rfl rfl)) alN)), ?_⟩)
        refine D_e [true, true] rfl (by kernel_rfl) ?_
        refine wl_cal cal21 rfl rfl rfl ?_
        refine (me_Merge _ (N.mem M18) m2 m1 40 40 hok2 hok1 (by decide) (by decide)).mono ?_
        rintro _ w19 ⟨v19, rfl, ⟨rfl, hb19⟩⟩
        refine ⟨_, rfl, ?_⟩
        have M19 := M18.callB hb19
        refine wl_nil (thenN ⟨alN, ?_⟩)
        refine D_p rfl rfl rfl (fun _ => r_eqA (eqMe (mergeM m1 m2) (mergeM m2 m1)) rfl rfl) ?_
        refine D_re 58 (.bool true) (bT (merge_comm hok1.g hok2.g)).symm ?_
        refine D_p rfl rfl rfl (fun _ => r_move (.bool true) rfl) ?_
        refine D_r rfl rfl rfl (r_ldW 3 agg36 M19 rfl rfl rfl) ?_
        refine D_r rfl rfl rfl (r_ldW 4 agg36 M19 rfl rfl rfl) ?_
        refine D_r rfl rfl rfl (r_ldW 5 agg36 M19 rfl rfl rfl) ?_
        refine D_r rfl rfl rfl (r_ldW 3 agg36 M19 rfl rfl rfl) ?_
        refine D_r rfl rfl rfl (r_ldW 4 agg36 M19 rfl rfl rfl) ?_
        refine D_r rfl rfl rfl (r_ldW 5 agg36 M19 rfl rfl rfl) ?_
        refine D_e [false, false, false, false, true, true] rfl (by kernel_rfl) ?_
        refine wl_cal cal21 rfl rfl rfl ?_
        refine (me_Merge _ (N.mem M19) m1 m2 40 40 hok1 hok2 (by decide) (by decide)).mono ?_
        rintro _ w20 ⟨v20, rfl, ⟨rfl, hb20⟩⟩
        refine ⟨_, rfl, ?_⟩
        have M20 := M19.callB hb20
        refine wl_nil (thenN ⟨(alC (Yl_of rfl (r_ldW 5 agg36 M20 rfl rfl rfl)) (alC (Yl_of rfl (r_ldW 4 agg36 M20 rfl rfl rfl)) (alC (Yl_of rfl (r_ldW 3 agg36 M20 rfl rfl rfl)) (alC (Yl_of rfl (r_ldW 5 agg36 M20 rfl rfl rfl)) alN)))), ?_⟩)
        refine D_e [false, false, false, true] rfl (by kernel_rfl) ?_
        refine wl_cal cal21 rfl rfl rfl ?_
        refine (me_Merge _ (N.mem M20) (mergeM m1 m2) m3 80 40 (okM_merge hok1 hok2) hok3 (by decide) (by decide)).mono ?_
        rintro _ w21 ⟨v21, rfl, ⟨rfl, hb21⟩⟩
        refine ⟨_, rfl, ?_⟩
        have M21 := M20.callB hb21
        refine wl_nil (thenN ⟨(alC (Yl_of rfl (r_ldW 5 agg36 M21 rfl rfl rfl)) (alC (Yl_of rfl (r_ldW 4 agg36 M21 rfl rfl rfl)) (alC (Yl_of rfl (r_ldW 3 agg36 M21 rfl rfl rfl)) alN))), ?_⟩)
        refine D_e [true, true, false] rfl (by kernel_rfl) ?_
        refine wl_cal cal21 rfl rfl rfl ?_
        refine (me_Merge _ (N.mem M21) m2 m3 40 40 hok2 hok3 (by decide) (by decide)).mono ?_
        rintro _ w22 ⟨v22, rfl, ⟨rfl, hb22⟩⟩
        refine ⟨_, rfl, ?_⟩
        have M22 := M21.callB hb22
        refine wl_nil (thenN ⟨(alC (Yl_of rfl (r_ldW 3 agg36 M22 rfl rfl rfl)) alN), ?_⟩)
        refine D_e [true] rfl (by kernel_rfl) ?_
        refine wl_cal cal21 rfl rfl rfl ?_
        refine (me_Merge _ (N.mem M22) m1 (mergeM m2 m3) 40 80 hok1 (okM_merge hok2 hok3) (by decide) (by decide)).mono ?_
        rintro _ w23 ⟨v23, rfl, ⟨rfl, hb23⟩⟩
        refine ⟨_, rfl, ?_⟩
        have M23 := M22.callB hb23
        refine wl_nil (thenN ⟨alN, ?_⟩)
        refine D_p rfl rfl rfl (fun _ => r_eqA (eqMe (mergeM (mergeM m1 m2) m3) (mergeM m1 (mergeM m2 m3))) rfl rfl) ?_
        refine D_re 70 (.bool true) (bT (merge_assoc hok1.g hok2.g hok3.g)).symm ?_
        refine D_p rfl rfl rfl (fun _ => r_pick true (.bool true) rfl rfl) ?_
        refine D_p rfl rfl rfl (fun _ => r_move (.bool true) rfl) ?_
        refine D_r rfl rfl rfl (r_ldW 3 agg36 M23 rfl rfl rfl) ?_
        refine D_r rfl rfl rfl (r_ldW 3 agg36 M23 rfl rfl rfl) ?_
        refine D_e [false, false] rfl (by kernel_rfl) ?_
        refine wl_cal cal17 rfl rfl rfl ?_
        refine (me_Of _ (F.mem M23) (N.mem M23) none 0 0 [] (Rd.nil _ _ _) okNil sNil (by decide)).mono ?_
        rintro _ w24 ⟨v24, rfl, ⟨rfl, hb24⟩⟩
        refine ⟨_, rfl, ?_⟩
        have M24 := M23.callB hb24
        refine wl_nil (thenN ⟨(alC (Yl_of rfl (r_ldW 3 agg36 M24 rfl rfl rfl)) (alC (Yl_of rfl (r_ldW 3 agg36 M24 rfl rfl rfl)) alN)), ?_⟩)
        refine D_re 74 ((.agg (meCells none0).toArray)) (congrArg (fun m => Value.agg (meCells m).toArray) aw26_2) ?_
        refine D_e [false, true] rfl (by kernel_rfl) ?_
        refine wl_cal cal21 rfl rfl rfl ?_
        refine (me_Merge _ (N.mem M24) m1 none0 40 0 hok1 okM_none (by decide) (by decide)).mono ?_
        rintro _ w25 ⟨v25, rfl, ⟨rfl, hb25⟩⟩
        refine ⟨_, rfl, ?_⟩
        have M25 := M24.callB hb25
        refine wl_nil (thenN ⟨(alC (Yl_of rfl (r_ldW 3 agg36 M25 rfl rfl rfl)) alN), ?_⟩)
        refine D_p rfl rfl rfl (fun _ => r_eqA (eqMe (mergeM m1 none0) m1) rfl rfl) ?_
        refine D_re 77 (.bool true) (bT (merge_none hok1.g)).symm ?_
        refine D_p rfl rfl rfl (fun _ => r_pick true (.bool true) rfl rfl) ?_
        refine D_p rfl rfl rfl (fun _ => r_assign (.bool true) rfl) ?_
        refine D_nil ?_
        refine thenN ?_
        refine W_ret ?_
        skip
        refine fin1 (.bool true) rfl ?_
        exact ⟨rfl, M25.below⟩

end Go.Proofs.YtmcddmhkjcgneaaGreatDoor

set_option linter.unusedVariables false
set_option linter.unusedSimpArgs false
set_option linter.unnecessarySimpa false
namespace Go.Proofs.YtmcddmhkjcgneaaGreatDoor
open Go.Bil
open Go.RowKit (Below)
open Go.Proofs

namespace measureMerges
open Go.ChangeShapes Go.WideShapes Go.ChangeAt Go.RowKit
open Go.ChangeMaps (open_string shut_string)
theorem own : ownKnob Tryz.prog.godebug = none := by kernel_rfl
theorem laidOut : laidOutB Tryz.prog = true := by kernel_rfl
set_option maxRecDepth 100000 in
theorem lifted (os : Os) (started : os.Started) (H : Type) (enc : TypeId × Value → H) :
    ReturnsInHanded {} Tryz.checked os 5 .any (fun w args => (Rows.measureMergesSpec.pre enc Tryz.prog Tryz.f5 [] false w args ∧ laidMet Tryz.prog laidL w) ∧ sizedMet enc Tryz.prog Tryz.f5 (OpenSpec.ofChange Rows.measureMergesSpec) false w args) (Rows.measureMergesSpec.post enc Tryz.prog Tryz.f5 false true false false) := by
  refine returnsInHanded_of_change_and (C := Tryz.checked) (X := fun w _ => laidMet Tryz.prog laidL w) (fun _ _ _ hh h => h.of_heap hh) own started (by kernel_rfl) Tryz.func5
    (ChangeSpec.witness_at (enc := enc) (C := Tryz.checked) (os := os) (X := fun w _ => laidMet Tryz.prog laidL w) false (laidWorld os) #[.slice none 0 0, .slice none 0 0, .slice none 0 0] 8 rfl (by kernel_rfl) (by kernel_rfl) (by kernel_rfl) (by kernel_rfl) (by kernel_rfl) (laidMet_of_run' 8 (by kernel_rfl) (by kernel_rfl))) ?_
  intro W base args ds gs before hval0 hW hcnd hsz0 hL _
  have hsz : (DataW.weightsEach Tryz.prog (Tryz.f5.params.toList ++ Rows.measureMergesSpec.plain.varTypes Tryz.prog) (ds ++ gs)).all (· ≤ reachBytes) = true := hsz0
  have hval : ∀ (j : Nat) t v, Tryz.f5.params[j]? = some t → args[j]? = some v → Value.okWide Tryz.prog W .any base t v := hval0
  have hW' := hW
  obtain ⟨p, q, hA0, hV, rfl, hfz, hnd⟩ := hW
  have hA : DataW.TrodAll enc Tryz.prog W 0 (fun _ => true) true Tryz.f5.params.toList args.toList ds p := hA0
  rw [Tryz.params5] at hA hval hsz
  obtain ⟨v0, vs0, d0, ds0, p0, q0, hargs, rfl, rfl, h0, r0⟩ := trodAll_cons hA
  obtain ⟨v1, vs1, d1, ds1, p1, q1, rfl, rfl, rfl, h1, r1⟩ := trodAll_cons r0
  obtain ⟨v2, vs2, d2, ds2, p2, q2, rfl, rfl, rfl, h2, r2⟩ := trodAll_cons r1
  obtain ⟨rfl, rfl, rfl⟩ := trodAll_nil r2
  obtain rfl : args = #[v0, v1, v2] := by cases args; simp_all
  obtain ⟨rfl, rfl⟩ := trodVars_none hV
  have k0 := h0
  have lt0 : ∀ x ∈ p0, x.block < W.heap.size := by obtain ⟨m, hm⟩ := k0; exact DataW.trod_lt m _ _ _ hm
  obtain ⟨a0, len0, cap0, rfl⟩ := okWide_slice Tryz.underlying22 (hval 0 22 v0 rfl rfl)
  have y0 := sized_rows hsz (j := 0) (t := 22) rfl rfl sl22 h0
  obtain ⟨ls0, R0, hi0⟩ := open_rows sl22 leaves32 rfl y0 h0
  obtain ⟨xs0, rfl, hx0⟩ := list_of bodyOf ls0 hi0
  have k1 := h1
  have lt1 : ∀ x ∈ p1, x.block < W.heap.size := by obtain ⟨m, hm⟩ := k1; exact DataW.trod_lt m _ _ _ hm
  obtain ⟨a1, len1, cap1, rfl⟩ := okWide_slice Tryz.underlying22 (hval 1 22 v1 rfl rfl)
  have y1 := sized_rows hsz (j := 1) (t := 22) rfl rfl sl22 h1
  obtain ⟨ls1, R1, hi1⟩ := open_rows sl22 leaves32 rfl y1 h1
  obtain ⟨xs1, rfl, hx1⟩ := list_of bodyOf ls1 hi1
  have k2 := h2
  have lt2 : ∀ x ∈ p2, x.block < W.heap.size := by obtain ⟨m, hm⟩ := k2; exact DataW.trod_lt m _ _ _ hm
  obtain ⟨a2, len2, cap2, rfl⟩ := okWide_slice Tryz.underlying22 (hval 2 22 v2 rfl rfl)
  have y2 := sized_rows hsz (j := 2) (t := 22) rfl rfl sl22 h2
  obtain ⟨ls2, R2, hi2⟩ := open_rows sl22 leaves32 rfl y2 h2
  obtain ⟨xs2, rfl, hx2⟩ := list_of bodyOf ls2 hi2
  clear hA0 hval0 hsz0 hsz
  refine (law_MeasureMerges W (rdF hL) (rdN hL) _ _ _ xs0 R0 _ _ _ xs1 R1 _ _ _ xs2 R2).mono fun e W' ⟨v, he, hv, bel⟩ => ?_
  subst he
  subst hv
  exact ⟨_, rfl, _, _, _, [], _, [], hW', trodAll_mk1 (shut_bool Tryz.underlying4 _), (trodAll_cons_mk (Below.trod laidOut (by kernel_rfl) (of_decide_eq_true (by kernel_rfl)) k0 bel lt0) (trodAll_cons_mk (Below.trod laidOut (by kernel_rfl) (of_decide_eq_true (by kernel_rfl)) k1 bel lt1) (trodAll_cons_mk (Below.trod laidOut (by kernel_rfl) (of_decide_eq_true (by kernel_rfl)) k2 bel lt2) trodAll_mk0))), rfl, bel.frame _, fun h => by cases h⟩
theorem over : Rows.measureMergesRow.holds Tryz.pinned (OpenSpec.ofChange Rows.measureMergesSpec) :=
  OpenClaim.holds_of_wide 5 Tryz.f5 rfl rfl rfl rfl rfl rfl rfl ⟨rfl, rfl, rfl, rfl, rfl⟩ rfl rfl rfl rfl rfl (by kernel_rfl) Tryz.func5 (by kernel_rfl)
    (of_decide_eq_true (by kernel_rfl)) (by unfold Func.isWrapper; first | (rw [if_pos (by decide +kernel)]; kernel_rfl) | (rw [if_neg (by decide +kernel)]; exact ⟨rfl, rfl⟩))
    (fun os started H enc _ => lifted os started H enc)
end measureMerges
theorem measureMerges_holds : Rows.MeasureMergesSaid := measureMerges.over
#print axioms measureMerges_holds
theorem measureMerges_card : Rows.MeasureMergesCardSaid :=
  Claim7.holds_tied_plain_at .later [] [.data, .data] true (true, "9f8295c113a943455c4832a95346352d7118fae4d0dcf065aaf106ad8bcb4f65") false
    measureMerges_holds (fun _ h => by cases h) (by kernel_rfl) (fun _ h => by cases h) measureMerges_row_tie rfl ⟨rfl, rfl⟩ (by kernel_rfl) rfl
    (fun f fn hf hfn => by
      obtain rfl : f = 5 := Option.some.inj ((show Tryz.prog.funcNamed "billiard/billiardlaw26.MeasureMerges" = some 5 by kernel_rfl).symm.trans hf) |>.symm
      obtain rfl : fn = Tryz.f5 := (Option.some.inj (Tryz.func5.symm.trans hfn)).symm
      exact ⟨by kernel_rfl, fun j t ht => by
        rw [Tryz.params5] at ht
        have hm : t ∈ [22, 22, 22] := by simpa using Array.mem_of_getElem? ht
        have hall : ([22, 22, 22].all fun u => !Tryz.prog.wantsStandIn u) = true := by kernel_rfl
        exact (show Tryz.prog.wantsStandIn t = false by simpa using List.all_eq_true.1 hall t hm)⟩)
    (by kernel_rfl)
#print axioms measureMerges_card

end Go.Proofs.YtmcddmhkjcgneaaGreatDoor
