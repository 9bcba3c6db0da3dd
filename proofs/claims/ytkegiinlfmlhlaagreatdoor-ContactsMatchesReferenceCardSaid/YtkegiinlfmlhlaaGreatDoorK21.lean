/- Part of the proof of the laws of this seat: W5, W6. No conditions. -/
import Derived.Test.YtkegiinlfmlhlaaGreatDoorK5
import Derived.Test.YtkegiinlfmlhlaaGreatDoorK17
/- Walks of Go functions over the frame of this claim: what each computes, for every input of the stated types (W5). -/
set_option linter.unusedVariables false
set_option linter.unusedSimpArgs false
set_option linter.unnecessarySimpa false
namespace Go.Proofs.YtkegiinlfmlhlaaGreatDoor
open Go.Bil
open Go.RowKit (Below)
open Go.Proofs

set_option maxHeartbeats 4000000 in
theorem choose1 (w : World) (s : Ch) (x y : Pt) (ba bb bl : Nat) (hx : PtI x) (hy : PtI y) (hO : Own [(some ba, bc (vecCells s.1) 33), (some bb, bc (vecCells s.2.1) 33), (some bl, bc [.int .u64 (s.2.2 : Int)] 62)] w) :
    Calls Tryz.prog 101 #[(.agg (vecCells x).toArray), (.agg (vecCells y).toArray), .pointer (some ⟨bl, 0, none⟩), .pointer (some ⟨ba, 0, none⟩), .pointer (some ⟨bb, 0, none⟩)] w (fun ex w' => ∃ v, ex = .returned v ∧ (fun v w' => v = .tuple #[] ∧ Mem w (blks [(some ba, bc (vecCells s.1) 33), (some bb, bc (vecCells s.2.1) 33), (some bl, bc [.int .u64 (s.2.2 : Int)] 62)]) [(some ba, bc (vecCells (chStep s x y).1) 33), (some bb, bc (vecCells (chStep s x y).2.1) 33), (some bl, bc [.int .u64 ((chStep s x y).2.2 : Int)] 62)] w') v w') := by
  refine calls_of_W #[] 20 Tryz.func101 rfl Tryz.results101 Tryz.ntmps101 rfl ?_
  have M0 := hO.mem
  refine W_seq ?_
  refine W_region ?_
  refine wl_box (.agg (List.toArray _)) M0 rfl rfl rfl (fun b1 w1 M1 => ?_)
  refine wl_box (.agg (List.toArray _)) M1 rfl rfl rfl (fun b2 w2 M2 => ?_)
  refine wl_nil ?_
  refine thenN ?_
  refine W_seq ?_
  refine W_region ?_
  refine wl_q (r_ldW 3 agg33 M2 rfl rfl rfl) rfl rfl ?_
  refine wl_q (r_ldW 4 agg33 M2 rfl rfl rfl) rfl rfl ?_
  refine wl_cal cal70 rfl rfl rfl ?_
  refine (vec_Diff _ x y hx.i32 hy.i32).mono ?_
  rintro _ w3 ⟨v3, rfl, ⟨rfl, hb3⟩⟩
  refine ⟨_, rfl, ?_⟩
  have M3 := M2.callB hb3
  refine wl_q (r_ext (.int _ _) rfl rfl) rfl rfl ?_
  refine wl_q (r_ext (.int _ _) rfl rfl) rfl rfl ?_
  refine wl_cal cal53 rfl rfl rfl ?_
  refine (vec_LengthSq _ (y.1 - x.1) (y.2 - x.2) (hx.inX hy) (hx.inY hy)).mono ?_
  rintro _ w4 ⟨v4, rfl, ⟨rfl, hb4⟩⟩
  refine ⟨_, rfl, ?_⟩
  have M4 := M3.callB hb4
  refine wl_q (r_assign (.int _ _) rfl) rfl rfl ?_
  refine wl_nil ?_
  refine thenN ?_
  refine W_seq ?_
  refine W_region ?_
  refine wl_q (r_move (.int _ _) rfl) rfl rfl ?_
  refine wl_q (r_ld 2 (.int _ _) one62 M4 rfl rfl rfl) rfl rfl ?_
  refine wl_q (r_bin (.bool (decide _)) rfl rfl rfl) rfl rfl ?_
  refine wl_nil ?_
  refine thenN ?_
  refine W_condD rfl (fun h16 => ?_) (fun h16 => ?_)
  · skip
    refine W_draw [(0, 1), (1, 1), (2, 0), (3, 2), (4, 2), (5, 2)] mixed rfl (by kernel_rfl) (fun w5 hb5 hh5 => ?_)
    have M5 := M4.drew hb5 hh5
    refine D_r rfl rfl rfl (r_ldW 3 agg33 M5 rfl rfl rfl) ?_
    refine D_r rfl rfl rfl (r_ldW 4 agg33 M5 rfl rfl rfl) ?_
    refine D_p rfl rfl rfl (fun _ => r_move (.int _ _) rfl) ?_
    refine D_e [false, true] rfl (by kernel_rfl) ?_
    refine wl_stW 0 _ agg33 M5 rfl rfl rfl rfl rfl (ones_of rfl) rfl (fun w6 M6 => ?_)
    refine wl_nil (thenN ⟨(alC (Yl_of rfl (r_ldW 4 agg33 M6 rfl rfl rfl)) alN), ?_⟩)
    refine D_e [true] rfl (by kernel_rfl) ?_
    refine wl_stW 1 _ agg33 M6 rfl rfl rfl rfl rfl (ones_of rfl) rfl (fun w7 M7 => ?_)
    refine wl_nil (thenN ⟨alN, ?_⟩)
    refine D_e [] rfl (by kernel_rfl) ?_
    refine wl_st 2 (.int _ _) one62 M7 rfl rfl rfl rfl rfl rfl (fun w8 M8 => ?_)
    refine wl_nil (thenN ⟨alN, ?_⟩)
    refine D_nil ?_
    refine fin0n ?_
    exact ⟨rfl, by unfold chStep; first | (rw [if_pos (by omega)]; exact M8.keep [true, true, true, false, false]) | (rw [if_neg (by omega)]; exact M8.keep [true, true, true, false, false])⟩
  · skip
    refine W_skip ?_
    refine fin0n ?_
    exact ⟨rfl, by unfold chStep; first | (rw [if_pos (by omega)]; exact M4.keep [true, true, true, false, false]) | (rw [if_neg (by omega)]; exact M4.keep [true, true, true, false, false])⟩

set_option maxHeartbeats 8000000 in
theorem seg_choose (w : World) (ap aq bp bq : Pt) (h1 : SgI ap aq) (h2 : SgI bp bq) :
    Calls Tryz.prog 85 #[(.agg (vecCells ap).toArray), (.agg (vecCells aq).toArray), (.agg (vecCells bp).toArray), (.agg (vecCells bq).toArray)] w (fun ex w' => ∃ v, ex = .returned v ∧ (fun v w' => v = .tuple #[(.agg (vecCells (chosen ap aq bp bq).1).toArray), (.agg (vecCells (chosen ap aq bp bq).2.1).toArray), .int .u64 ((chosen ap aq bp bq).2.2 : Int)] ∧ Below w.heap.size w w') v w') := by
  refine calls_of_W #[.cell 8 33, .cell 9 33, .cell 10 62] 48 Tryz.func85 rfl Tryz.results85 Tryz.ntmps85 rfl ?_
  have M0 := Mem.refl w
  refine W_seq ?_
  refine W_region ?_
  refine wl_box (.agg (List.toArray _)) M0 rfl rfl rfl (fun b1 w1 M1 => ?_)
  refine wl_box (.agg (List.toArray _)) M1 rfl rfl rfl (fun b2 w2 M2 => ?_)
  refine wl_box (.agg (List.toArray _)) M2 rfl rfl rfl (fun b3 w3 M3 => ?_)
  refine wl_box (.agg (List.toArray _)) M3 rfl rfl rfl (fun b4 w4 M4 => ?_)
  refine wl_alloc zero33 M4 rfl rfl (fun b5 w5 M5 => ?_)
  refine wl_alloc zero33 M5 rfl rfl (fun b6 w6 M6 => ?_)
  refine wl_alloc zero62 M6 rfl rfl (fun b7 w7 M7 => ?_)
  refine wl_nil ?_
  refine thenN ?_
  refine W_seq ?_
  refine W_region ?_
  refine wl_st 6 (.int _ _) one62 M7 rfl rfl rfl rfl rfl rfl (fun w8 M8 => ?_)
  refine wl_nil ?_
  refine thenN ?_
  refine W_seq ?_
  refine W_region ?_
  obtain ⟨s, hS⟩ : ∃ z, z = ch0 := ⟨_, rfl⟩
  have hC : ChI s := by rw [hS]; exact ch0_in
  have M9 : Mem _ _ [_, _, _, _, (some b5, bc (vecCells ch0.1) 33), (some b6, bc (vecCells ch0.2.1) 33), (some b7, bc [.int .u64 (ch0.2.2 : Int)] 62)] _ := M8
  rw [← hS] at M9
  refine wl_q (r_makeFuncV [] [.pointer _, .pointer _, .pointer _] rfl rfl) rfl rfl ?_
  refine wl_q (r_assign (.func _ _ _) rfl) rfl rfl ?_
  refine wl_nil ?_
  refine thenN ?_
  refine W_seq ?_
  refine W_seq ?_
  refine W_region ?_
  refine wl_q (r_ldW 0 agg33 M9 rfl rfl rfl) rfl rfl ?_
  refine wl_q (r_ldW 1 agg33 M9 rfl rfl rfl) rfl rfl ?_
  refine wl_q (r_buildA [.agg (List.toArray _), .agg (List.toArray _)] arr172 zero172 rfl rfl (lens_of rfl)) rfl rfl ?_
  refine wl_q (r_move (.int _ _) rfl) rfl rfl ?_
  refine wl_nil ?_
  refine thenN ?_
  refine W_block ?_
  refine W_rounds 3 (Wr_s ?_)
  refine W_seq ?_
  refine W_region ?_
  refine wl_q (r_bin (.bool (decide _)) rfl rfl rfl) rfl rfl ?_
  refine wl_re 21 (.bool true) (bT (by first | decide | omega)).symm ?_
  refine wl_nil ?_
  refine thenN ?_
  refine W_seq ?_
  refine W_condT rfl ?_
  refine W_skip ?_
  refine thenN ?_
  refine W_seq ?_
  refine W_block ?_
  refine W_seq ?_
  refine W_region ?_
  refine wl_q (r_idxA 0 _ arr172 agg33 rfl rfl (by decide) (by decide) rfl rfl) rfl rfl ?_
  refine wl_alloc zero33 M9 rfl rfl (fun b10 w10 M10 => ?_)
  refine wl_stW 7 _ agg33 M10 rfl rfl rfl rfl rfl (ones_of rfl) rfl (fun w11 M11 => ?_)
  refine wl_nil ?_
  refine thenN ?_
  refine W_draw [(0, 0), (1, 1), (2, 1), (3, 1), (4, 1), (5, 2), (6, 2)] mixed rfl (by kernel_rfl) (fun w12 hb12 hh12 => ?_)
  have M12 := M11.drew hb12 hh12
  refine D_p rfl rfl rfl (fun _ => r_move (.func _ _ _) rfl) ?_
  refine D_r rfl rfl rfl (r_ldW 7 agg33 M12 rfl rfl rfl) ?_
  refine D_r rfl rfl rfl (r_ldW 2 agg33 M12 rfl rfl rfl) ?_
  refine D_r rfl rfl rfl (r_ldW 3 agg33 M12 rfl rfl rfl) ?_
  refine D_r rfl rfl rfl (r_ldW 7 agg33 M12 rfl rfl rfl) ?_
  refine D_e [true, true, true, false] rfl (by kernel_rfl) ?_
  refine wl_cal cal102 rfl rfl rfl ?_
  refine (point_Nearest _ bp bq ap h2 h1.hp).mono ?_
  rintro _ w13 ⟨v13, rfl, ⟨rfl, hb13⟩⟩
  refine ⟨_, rfl, ?_⟩
  have M13 := M12.callB hb13
  refine wl_nil (thenN ⟨(alC (Yl_of rfl (r_ldW 7 agg33 M13 rfl rfl rfl)) alN), ?_⟩)
  refine D_e [true] rfl (by kernel_rfl) ?_
  refine wl_cal cal101 rfl rfl rfl ?_
  refine (choose1 _ s ap (nearest bp bq ap) _ _ _ h1.hp (nearest_in h2) (M13.ownSeg 4 3)).mono ?_
  rintro _ w14 ⟨v14, rfl, ⟨rfl, hM14⟩⟩
  refine ⟨_, rfl, ?_⟩
  have M14 : Mem _ _ [_, _, _, _, _, _, _, _] _ := M13.seg 4 3 hM14
  obtain ⟨s, hs⟩ : ∃ z, z = chStep s ap (nearest bp bq ap) := ⟨_, rfl⟩
  rw [← hs] at M14
  replace hC := hC.step (x := ap) (y := (nearest bp bq ap)) h1.hp (nearest_in h2)
  rw [← hs] at hC
  replace hS := hs.trans (congrArg (fun z => chStep z ap (nearest bp bq ap)) hS)
  refine wl_nil (thenN ⟨alN, ?_⟩)
  refine D_nil ?_
  refine blkN ?_
  refine thenN ?_
  refine W_region ?_
  refine wl_q (r_add rfl rfl (by first | decide | omega) (by first | decide | omega)) rfl rfl ?_
  refine wl_re 30 (.int .i64 1) (iE (by first | decide | omega)) ?_
  refine wl_q (r_move (.int _ _) rfl) rfl rfl ?_
  refine wl_nil ?_
  refine thenN (Wr_s ?_)
  refine W_seq ?_
  refine W_region ?_
  refine wl_q (r_bin (.bool (decide _)) rfl rfl rfl) rfl rfl ?_
  refine wl_re 21 (.bool true) (bT (by first | decide | omega)).symm ?_
  refine wl_nil ?_
  refine thenN ?_
  refine W_seq ?_
  refine W_condT rfl ?_
  refine W_skip ?_
  refine thenN ?_
  refine W_seq ?_
  refine W_block ?_
  refine W_seq ?_
  refine W_region ?_
  refine wl_q (r_idxA 1 _ arr172 agg33 rfl rfl (by decide) (by decide) rfl rfl) rfl rfl ?_
  refine wl_alloc zero33 M14 rfl rfl (fun b15 w15 M15 => ?_)
  refine wl_stW 8 _ agg33 M15 rfl rfl rfl rfl rfl (ones_of rfl) rfl (fun w16 M16 => ?_)
  refine wl_nil ?_
  refine thenN ?_
  refine W_draw [(0, 0), (1, 1), (2, 1), (3, 1), (4, 1), (5, 2), (6, 2)] mixed rfl (by kernel_rfl) (fun w17 hb17 hh17 => ?_)
  have M17 := M16.drew hb17 hh17
  refine D_p rfl rfl rfl (fun _ => r_move (.func _ _ _) rfl) ?_
  refine D_r rfl rfl rfl (r_ldW 8 agg33 M17 rfl rfl rfl) ?_
  refine D_r rfl rfl rfl (r_ldW 2 agg33 M17 rfl rfl rfl) ?_
  refine D_r rfl rfl rfl (r_ldW 3 agg33 M17 rfl rfl rfl) ?_
  refine D_r rfl rfl rfl (r_ldW 8 agg33 M17 rfl rfl rfl) ?_
  refine D_e [true, true, true, false] rfl (by kernel_rfl) ?_
  refine wl_cal cal102 rfl rfl rfl ?_
  refine (point_Nearest _ bp bq aq h2 h1.hq).mono ?_
  rintro _ w18 ⟨v18, rfl, ⟨rfl, hb18⟩⟩
  refine ⟨_, rfl, ?_⟩
  have M18 := M17.callB hb18
  refine wl_nil (thenN ⟨(alC (Yl_of rfl (r_ldW 8 agg33 M18 rfl rfl rfl)) alN), ?_⟩)
  refine D_e [true] rfl (by kernel_rfl) ?_
  refine wl_cal cal101 rfl rfl rfl ?_
  refine (choose1 _ s aq (nearest bp bq aq) _ _ _ h1.hq (nearest_in h2) (M18.ownSeg 4 3)).mono ?_
  rintro _ w19 ⟨v19, rfl, ⟨rfl, hM19⟩⟩
  refine ⟨_, rfl, ?_⟩
  have M19 : Mem _ _ [_, _, _, _, _, _, _, _, _] _ := M18.seg 4 3 hM19
  obtain ⟨s, hs⟩ : ∃ z, z = chStep s aq (nearest bp bq aq) := ⟨_, rfl⟩
  rw [← hs] at M19
  replace hC := hC.step (x := aq) (y := (nearest bp bq aq)) h1.hq (nearest_in h2)
  rw [← hs] at hC
  replace hS := hs.trans (congrArg (fun z => chStep z aq (nearest bp bq aq)) hS)
  refine wl_nil (thenN ⟨alN, ?_⟩)
  refine D_nil ?_
  refine blkN ?_
  refine thenN ?_
  refine W_region ?_
  refine wl_q (r_add rfl rfl (by first | decide | omega) (by first | decide | omega)) rfl rfl ?_
  refine wl_re 30 (.int .i64 2) (iE (by first | decide | omega)) ?_
  refine wl_q (r_move (.int _ _) rfl) rfl rfl ?_
  refine wl_nil ?_
  refine thenN (Wr_s ?_)
  refine W_seq ?_
  refine W_region ?_
  refine wl_q (r_bin (.bool (decide _)) rfl rfl rfl) rfl rfl ?_
  refine wl_re 21 (.bool false) (bF (by first | decide | omega)).symm ?_
  refine wl_nil ?_
  refine thenN ?_
  refine W_seq ?_
  refine W_condF rfl ?_
  refine W_exit ?_
  refine thenX ?_
  refine thenX ?_
  refine blkH ?_
  refine thenN ?_
  refine W_seq ?_
  refine W_seq ?_
  refine W_region ?_
  refine wl_q (r_ldW 2 agg33 M19 rfl rfl rfl) rfl rfl ?_
  refine wl_q (r_ldW 3 agg33 M19 rfl rfl rfl) rfl rfl ?_
  refine wl_q (r_buildA [.agg (List.toArray _), .agg (List.toArray _)] arr172 zero172 rfl rfl (lens_of rfl)) rfl rfl ?_
  refine wl_q (r_move (.int _ _) rfl) rfl rfl ?_
  refine wl_nil ?_
  refine thenN ?_
  refine W_block ?_
  refine W_rounds 3 (Wr_s ?_)
  refine W_seq ?_
  refine W_region ?_
  refine wl_q (r_bin (.bool (decide _)) rfl rfl rfl) rfl rfl ?_
  refine wl_re 35 (.bool true) (bT (by first | decide | omega)).symm ?_
  refine wl_nil ?_
  refine thenN ?_
  refine W_seq ?_
  refine W_condT rfl ?_
  refine W_skip ?_
  refine thenN ?_
  refine W_seq ?_
  refine W_block ?_
  refine W_seq ?_
  refine W_region ?_
  refine wl_q (r_idxA 0 _ arr172 agg33 rfl rfl (by decide) (by decide) rfl rfl) rfl rfl ?_
  refine wl_alloc zero33 M19 rfl rfl (fun b20 w20 M20 => ?_)
  refine wl_stW 9 _ agg33 M20 rfl rfl rfl rfl rfl (ones_of rfl) rfl (fun w21 M21 => ?_)
  refine wl_nil ?_
  refine thenN ?_
  refine W_draw [(0, 0), (1, 1), (2, 1), (3, 1), (5, 1), (4, 2), (6, 2)] mixed rfl (by kernel_rfl) (fun w22 hb22 hh22 => ?_)
  have M22 := M21.drew hb22 hh22
  refine D_p rfl rfl rfl (fun _ => r_move (.func _ _ _) rfl) ?_
  refine D_r rfl rfl rfl (r_ldW 0 agg33 M22 rfl rfl rfl) ?_
  refine D_r rfl rfl rfl (r_ldW 1 agg33 M22 rfl rfl rfl) ?_
  refine D_r rfl rfl rfl (r_ldW 9 agg33 M22 rfl rfl rfl) ?_
  refine D_r rfl rfl rfl (r_ldW 9 agg33 M22 rfl rfl rfl) ?_
  refine D_e [false, true, true, true] rfl (by kernel_rfl) ?_
  refine wl_cal cal102 rfl rfl rfl ?_
  refine (point_Nearest _ ap aq bp h1 h2.hp).mono ?_
  rintro _ w23 ⟨v23, rfl, ⟨rfl, hb23⟩⟩
  refine ⟨_, rfl, ?_⟩
  have M23 := M22.callB hb23
  refine wl_nil (thenN ⟨(alC (Yl_of rfl (r_ldW 9 agg33 M23 rfl rfl rfl)) alN), ?_⟩)
  refine D_e [true] rfl (by kernel_rfl) ?_
  refine wl_cal cal101 rfl rfl rfl ?_
  refine (choose1 _ s (nearest ap aq bp) bp _ _ _ (nearest_in h1) h2.hp (M23.ownSeg 4 3)).mono ?_
  rintro _ w24 ⟨v24, rfl, ⟨rfl, hM24⟩⟩
  refine ⟨_, rfl, ?_⟩
  have M24 : Mem _ _ [_, _, _, _, _, _, _, _, _, _] _ := M23.seg 4 3 hM24
  obtain ⟨s, hs⟩ : ∃ z, z = chStep s (nearest ap aq bp) bp := ⟨_, rfl⟩
  rw [← hs] at M24
  replace hC := hC.step (x := (nearest ap aq bp)) (y := bp) (nearest_in h1) h2.hp
  rw [← hs] at hC
  replace hS := hs.trans (congrArg (fun z => chStep z (nearest ap aq bp) bp) hS)
  refine wl_nil (thenN ⟨alN, ?_⟩)
  refine D_nil ?_
  refine blkN ?_
  refine thenN ?_
  refine W_region ?_
  refine wl_q (r_add rfl rfl (by first | decide | omega) (by first | decide | omega)) rfl rfl ?_
  refine wl_re 44 (.int .i64 1) (iE (by first | decide | omega)) ?_
  refine wl_q (r_move (.int _ _) rfl) rfl rfl ?_
  refine wl_nil ?_
  refine thenN (Wr_s ?_)
  refine W_seq ?_
  refine W_region ?_
  refine wl_q (r_bin (.bool (decide _)) rfl rfl rfl) rfl rfl ?_
  refine wl_re 35 (.bool true) (bT (by first | decide | omega)).symm ?_
  refine wl_nil ?_
  refine thenN ?_
  refine W_seq ?_
  refine W_condT rfl ?_
  refine W_skip ?_
  refine thenN ?_
  refine W_seq ?_
  refine W_block ?_
  refine W_seq ?_
  refine W_region ?_
  refine wl_q (r_idxA 1 _ arr172 agg33 rfl rfl (by decide) (by decide) rfl rfl) rfl rfl ?_
  refine wl_alloc zero33 M24 rfl rfl (fun b25 w25 M25 => ?_)
  refine wl_stW 10 _ agg33 M25 rfl rfl rfl rfl rfl (ones_of rfl) rfl (fun w26 M26 => ?_)
  refine wl_nil ?_
  refine thenN ?_
  refine W_draw [(0, 0), (1, 1), (2, 1), (3, 1), (5, 1), (4, 2), (6, 2)] mixed rfl (by kernel_rfl) (fun w27 hb27 hh27 => ?_)
  have M27 := M26.drew hb27 hh27
  refine D_p rfl rfl rfl (fun _ => r_move (.func _ _ _) rfl) ?_
  refine D_r rfl rfl rfl (r_ldW 0 agg33 M27 rfl rfl rfl) ?_
  refine D_r rfl rfl rfl (r_ldW 1 agg33 M27 rfl rfl rfl) ?_
  refine D_r rfl rfl rfl (r_ldW 10 agg33 M27 rfl rfl rfl) ?_
  refine D_r rfl rfl rfl (r_ldW 10 agg33 M27 rfl rfl rfl) ?_
  refine D_e [false, true, true, true] rfl (by kernel_rfl) ?_
  refine wl_cal cal102 rfl rfl rfl ?_
  refine (point_Nearest _ ap aq bq h1 h2.hq).mono ?_
  rintro _ w28 ⟨v28, rfl, ⟨rfl, hb28⟩⟩
  refine ⟨_, rfl, ?_⟩
  have M28 := M27.callB hb28
  refine wl_nil (thenN ⟨(alC (Yl_of rfl (r_ldW 10 agg33 M28 rfl rfl rfl)) alN), ?_⟩)
  refine D_e [true] rfl (by kernel_rfl) ?_
  refine wl_cal cal101 rfl rfl rfl ?_
  refine (choose1 _ s (nearest ap aq bq) bq _ _ _ (nearest_in h1) h2.hq (M28.ownSeg 4 3)).mono ?_
  rintro _ w29 ⟨v29, rfl, ⟨rfl, hM29⟩⟩
  refine ⟨_, rfl, ?_⟩
  have M29 : Mem _ _ [_, _, _, _, _, _, _, _, _, _, _] _ := M28.seg 4 3 hM29
  obtain ⟨s, hs⟩ : ∃ z, z = chStep s (nearest ap aq bq) bq := ⟨_, rfl⟩
  rw [← hs] at M29
  replace hC := hC.step (x := (nearest ap aq bq)) (y := bq) (nearest_in h1) h2.hq
  rw [← hs] at hC
  replace hS := hs.trans (congrArg (fun z => chStep z (nearest ap aq bq) bq) hS)
  refine wl_nil (thenN ⟨alN, ?_⟩)
  refine D_nil ?_
  refine blkN ?_
  refine thenN ?_
  refine W_region ?_
  refine wl_q (r_add rfl rfl (by first | decide | omega) (by first | decide | omega)) rfl rfl ?_
  refine wl_re 44 (.int .i64 2) (iE (by first | decide | omega)) ?_
  refine wl_q (r_move (.int _ _) rfl) rfl rfl ?_
  refine wl_nil ?_
  refine thenN (Wr_s ?_)
  refine W_seq ?_
  refine W_region ?_
  refine wl_q (r_bin (.bool (decide _)) rfl rfl rfl) rfl rfl ?_
  refine wl_re 35 (.bool false) (bF (by first | decide | omega)).symm ?_
  refine wl_nil ?_
  refine thenN ?_
  refine W_seq ?_
  refine W_condF rfl ?_
  refine W_exit ?_
  refine thenX ?_
  refine thenX ?_
  refine blkH ?_
  refine thenN ?_
  refine W_seq ?_
  refine W_draw [(0, 1), (1, 1), (2, 1), (3, 2), (4, 2), (5, 2)] mixed rfl (by kernel_rfl) (fun w30 hb30 hh30 => ?_)
  have M30 := M29.drew hb30 hh30
  refine D_r rfl rfl rfl (r_ldW 4 agg33 M30 rfl rfl rfl) ?_
  refine D_r rfl rfl rfl (r_ldW 5 agg33 M30 rfl rfl rfl) ?_
  refine D_r rfl rfl rfl (r_ld 6 (.int _ _) one62 M30 rfl rfl rfl) ?_
  refine D_e [false, false, true] rfl (by kernel_rfl) ?_
  refine wl_stW 4 _ agg33 M30 rfl rfl rfl rfl rfl (ones_of rfl) rfl (fun w31 M31 => ?_)
  refine wl_nil (thenN ⟨(alC (Yl_of rfl (r_ld 6 (.int _ _) one62 M31 rfl rfl rfl)) (alC (Yl_of rfl (r_ldW 5 agg33 M31 rfl rfl rfl)) alN)), ?_⟩)
  refine D_e [false, true] rfl (by kernel_rfl) ?_
  refine wl_stW 5 _ agg33 M31 rfl rfl rfl rfl rfl (ones_of rfl) rfl (fun w32 M32 => ?_)
  refine wl_nil (thenN ⟨(alC (Yl_of rfl (r_ld 6 (.int _ _) one62 M32 rfl rfl rfl)) alN), ?_⟩)
  refine D_e [true] rfl (by kernel_rfl) ?_
  refine wl_st 6 (.int _ _) one62 M32 rfl rfl rfl rfl rfl rfl (fun w33 M33 => ?_)
  refine wl_nil (thenN ⟨alN, ?_⟩)
  refine D_nil ?_
  refine thenN ?_
  refine W_ret ?_
  skip
  refine finCC1 4 5 6 agg33 one62 M33 rfl rfl rfl rfl rfl rfl rfl rfl ?_
  exact ⟨by rw [show s = chosen ap aq bp bq from hS], M33.below⟩

set_option maxHeartbeats 4000000 in
theorem seg_Chosen (w : World) (ap aq bp bq : Pt) (h1 : SgI ap aq) (h2 : SgI bp bq) :
    Calls Tryz.prog 69 #[(.agg (vecCells ap).toArray), (.agg (vecCells aq).toArray), (.agg (vecCells bp).toArray), (.agg (vecCells bq).toArray)] w (fun ex w' => ∃ v, ex = .returned v ∧ (fun v w' => v = .tuple #[(.agg (vecCells (chosen ap aq bp bq).1).toArray), (.agg (vecCells (chosen ap aq bp bq).2.1).toArray)] ∧ Below w.heap.size w w') v w') := by
  refine calls_of_W #[.cell 8 33, .cell 9 33] 21 Tryz.func69 rfl Tryz.results69 Tryz.ntmps69 rfl ?_
  have M0 := Mem.refl w
  refine W_seq ?_
  refine W_region ?_
  refine wl_box (.agg (List.toArray _)) M0 rfl rfl rfl (fun b1 w1 M1 => ?_)
  refine wl_box (.agg (List.toArray _)) M1 rfl rfl rfl (fun b2 w2 M2 => ?_)
  refine wl_box (.agg (List.toArray _)) M2 rfl rfl rfl (fun b3 w3 M3 => ?_)
  refine wl_box (.agg (List.toArray _)) M3 rfl rfl rfl (fun b4 w4 M4 => ?_)
  refine wl_alloc zero33 M4 rfl rfl (fun b5 w5 M5 => ?_)
  refine wl_alloc zero33 M5 rfl rfl (fun b6 w6 M6 => ?_)
  refine wl_nil ?_
  refine thenN ?_
  refine W_seq ?_
  refine W_region ?_
  refine wl_q (r_ldW 0 agg33 M6 rfl rfl rfl) rfl rfl ?_
  refine wl_q (r_ldW 1 agg33 M6 rfl rfl rfl) rfl rfl ?_
  refine wl_q (r_ldW 2 agg33 M6 rfl rfl rfl) rfl rfl ?_
  refine wl_q (r_ldW 3 agg33 M6 rfl rfl rfl) rfl rfl ?_
  refine wl_cal cal85 rfl rfl rfl ?_
  refine (seg_choose _ ap aq bp bq h1 h2).mono ?_
  rintro _ w7 ⟨v7, rfl, ⟨rfl, hb7⟩⟩
  refine ⟨_, rfl, ?_⟩
  have M7 := M6.callB hb7
  refine wl_q (r_move (.tuple (List.toArray _)) rfl) rfl rfl ?_
  refine wl_q (r_ext (.agg (List.toArray _)) rfl rfl) rfl rfl ?_
  refine wl_q (r_ext (.agg (List.toArray _)) rfl rfl) rfl rfl ?_
  refine wl_q (r_ext (.int _ _) rfl rfl) rfl rfl ?_
  refine wl_stW 4 _ agg33 M7 rfl rfl rfl rfl rfl (ones_of rfl) rfl (fun w8 M8 => ?_)
  refine wl_stW 5 _ agg33 M8 rfl rfl rfl rfl rfl (ones_of rfl) rfl (fun w9 M9 => ?_)
  refine wl_nil ?_
  refine thenN ?_
  refine W_seq ?_
  refine W_draw [(0, 1), (1, 1), (2, 2), (3, 2)] mixed rfl (by kernel_rfl) (fun w10 hb10 hh10 => ?_)
  have M10 := M9.drew hb10 hh10
  refine D_r rfl rfl rfl (r_ldW 4 agg33 M10 rfl rfl rfl) ?_
  refine D_r rfl rfl rfl (r_ldW 5 agg33 M10 rfl rfl rfl) ?_
  refine D_e [false, true] rfl (by kernel_rfl) ?_
  refine wl_stW 4 _ agg33 M10 rfl rfl rfl rfl rfl (ones_of rfl) rfl (fun w11 M11 => ?_)
  refine wl_nil (thenN ⟨(alC (Yl_of rfl (r_ldW 5 agg33 M11 rfl rfl rfl)) alN), ?_⟩)
  refine D_e [true] rfl (by kernel_rfl) ?_
  refine wl_stW 5 _ agg33 M11 rfl rfl rfl rfl rfl (ones_of rfl) rfl (fun w12 M12 => ?_)
  refine wl_nil (thenN ⟨alN, ?_⟩)
  refine D_nil ?_
  refine thenN ?_
  refine W_ret ?_
  skip
  refine finCC 4 5 agg33 M12 rfl rfl rfl rfl rfl rfl ?_
  exact ⟨rfl, M12.below⟩

end Go.Proofs.YtkegiinlfmlhlaaGreatDoor

/- Walks of Go functions over the frame of this claim: what each computes, for every input of the stated types (W6). -/
set_option linter.unusedVariables false
set_option linter.unusedSimpArgs false
set_option linter.unnecessarySimpa false
namespace Go.Proofs.YtkegiinlfmlhlaaGreatDoor
open Go.Bil
open Go.RowKit (Below)
open Go.Proofs

set_option maxHeartbeats 4000000 in
theorem solidOf (w : World) (b : Body) (hb : Okb b) :
    Calls Tryz.prog 68 #[(.agg (bodyCells b).toArray)] w (fun ex w' => ∃ v, ex = .returned v ∧ (fun v w' => v = (.agg (solidCells b).toArray) ∧ Below w.heap.size w w') v w') := by
  refine calls_of_W #[.cell 2 107] 14 Tryz.func68 rfl Tryz.results68 Tryz.ntmps68 rfl ?_
  have M0 := Mem.refl w
  refine W_seq ?_
  refine W_region ?_
  refine wl_box (.agg (List.toArray _)) M0 rfl rfl rfl (fun b1 w1 M1 => ?_)
  refine wl_alloc zero107 M1 rfl rfl (fun b2 w2 M2 => ?_)
  refine wl_nil ?_
  refine thenN ?_
  refine W_seq ?_
  refine W_region ?_
  refine wl_q (r_ldW 0 agg46 M2 rfl rfl rfl) rfl rfl ?_
  refine wl_cal cal84 rfl rfl rfl ?_
  refine (body_Ends _ b hb).mono ?_
  rintro _ w3 ⟨v3, rfl, ⟨rfl, hb3⟩⟩
  refine ⟨_, rfl, ?_⟩
  have M3 := M2.callB hb3
  refine wl_q (r_move (.tuple (List.toArray _)) rfl) rfl rfl ?_
  refine wl_q (r_ext (.agg (List.toArray _)) rfl rfl) rfl rfl ?_
  refine wl_q (r_ext (.agg (List.toArray _)) rfl rfl) rfl rfl ?_
  refine wl_alloc zero33 M3 rfl rfl (fun b4 w4 M4 => ?_)
  refine wl_alloc zero33 M4 rfl rfl (fun b5 w5 M5 => ?_)
  refine wl_stW 2 _ agg33 M5 rfl rfl rfl rfl rfl (ones_of rfl) rfl (fun w6 M6 => ?_)
  refine wl_stW 3 _ agg33 M6 rfl rfl rfl rfl rfl (ones_of rfl) rfl (fun w7 M7 => ?_)
  refine wl_nil ?_
  refine thenN ?_
  refine W_seq ?_
  refine W_region ?_
  refine wl_q (r_ldW 0 agg46 M7 rfl rfl rfl) rfl rfl ?_
  refine wl_q (r_ldW 2 agg33 M7 rfl rfl rfl) rfl rfl ?_
  refine wl_q (r_ldW 3 agg33 M7 rfl rfl rfl) rfl rfl ?_
  refine wl_q (r_build [(0, .agg (List.toArray _)), (1, .agg (List.toArray _)), (2, .agg (List.toArray _))] _ struct107 rfl rfl) rfl rfl ?_
  refine wl_stW 1 _ agg107 M7 rfl rfl rfl rfl rfl (ones_of rfl) rfl (fun w8 M8 => ?_)
  refine wl_nil ?_
  refine thenN ?_
  refine W_ret ?_
  skip
  refine finC1 1 agg107 M8 rfl rfl rfl ?_
  exact ⟨rfl, M8.below⟩

set_option maxHeartbeats 4000000 in
theorem inOrder (w : World) (a b : Body) (ha : Okb a) (hb : Okb b) :
    Calls Tryz.prog 51 #[(.agg (bodyCells a).toArray), (.agg (bodyCells b).toArray)] w (fun ex w' => ∃ v, ex = .returned v ∧ (fun v w' => v = .tuple #[(.agg (solidCells (loB a b)).toArray), (.agg (solidCells (hiB a b)).toArray)] ∧ Below w.heap.size w w') v w') := by
  refine calls_of_W #[.cell 4 107, .cell 5 107] 17 Tryz.func51 rfl Tryz.results51 Tryz.ntmps51 rfl ?_
  have M0 := Mem.refl w
  refine W_seq ?_
  refine W_region ?_
  refine wl_box (.agg (List.toArray _)) M0 rfl rfl rfl (fun b1 w1 M1 => ?_)
  refine wl_box (.agg (List.toArray _)) M1 rfl rfl rfl (fun b2 w2 M2 => ?_)
  refine wl_alloc zero107 M2 rfl rfl (fun b3 w3 M3 => ?_)
  refine wl_alloc zero107 M3 rfl rfl (fun b4 w4 M4 => ?_)
  refine wl_nil ?_
  refine thenN ?_
  refine W_seq ?_
  refine W_seq ?_
  refine W_region ?_
  refine wl_q (r_fieldAddr 0 fld46_0 rfl) rfl rfl ?_
  refine wl_q (r_ld 0 (.int _ _) one24 M4 rfl rfl rfl) rfl rfl ?_
  refine wl_q (r_fieldAddr 0 fld46_0 rfl) rfl rfl ?_
  refine wl_q (r_ld 1 (.int _ _) one24 M4 rfl rfl rfl) rfl rfl ?_
  refine wl_q (r_bin (.bool (decide _)) rfl rfl rfl) rfl rfl ?_
  refine wl_nil ?_
  refine thenN ?_
  refine W_condD rfl (fun h10 => ?_) (fun h10 => ?_)
  · skip
    refine W_region ?_
    refine wl_q (r_ldW 1 agg46 M4 rfl rfl rfl) rfl rfl ?_
    refine wl_q (r_ldW 0 agg46 M4 rfl rfl rfl) rfl rfl ?_
    refine wl_stW 0 _ agg46 M4 rfl rfl rfl rfl rfl (ones_of rfl) rfl (fun w5 M5 => ?_)
    refine wl_stW 1 _ agg46 M5 rfl rfl rfl rfl rfl (ones_of rfl) rfl (fun w6 M6 => ?_)
    refine wl_nil ?_
    refine thenN ?_
    refine W_seq ?_
    refine W_draw [(0, 1), (2, 1), (1, 2), (3, 2), (4, 2), (5, 2)] mixed rfl (by kernel_rfl) (fun w7 hb7 hh7 => ?_)
    have M7 := M6.drew hb7 hh7
    refine D_r rfl rfl rfl (r_ldW 0 agg46 M7 rfl rfl rfl) ?_
    refine D_r rfl rfl rfl (r_ldW 1 agg46 M7 rfl rfl rfl) ?_
    refine D_e [false, true] rfl (by kernel_rfl) ?_
    refine wl_cal cal68 rfl rfl rfl ?_
    refine (solidOf _ b hb).mono ?_
    rintro _ w8 ⟨v8, rfl, ⟨rfl, hb8⟩⟩
    refine ⟨_, rfl, ?_⟩
    have M8 := M7.callB hb8
    refine wl_nil (thenN ⟨(alC (Yl_of rfl (r_ldW 1 agg46 M8 rfl rfl rfl)) alN), ?_⟩)
    refine D_e [true] rfl (by kernel_rfl) ?_
    refine wl_cal cal68 rfl rfl rfl ?_
    refine (solidOf _ a ha).mono ?_
    rintro _ w9 ⟨v9, rfl, ⟨rfl, hb9⟩⟩
    refine ⟨_, rfl, ?_⟩
    have M9 := M8.callB hb9
    refine wl_nil (thenN ⟨alN, ?_⟩)
    refine D_e [] rfl (by kernel_rfl) ?_
    refine wl_stW 2 _ agg107 M9 rfl rfl rfl rfl rfl (ones_of rfl) rfl (fun w10 M10 => ?_)
    refine wl_nil (thenN ⟨alN, ?_⟩)
    refine D_e [] rfl (by kernel_rfl) ?_
    refine wl_stW 3 _ agg107 M10 rfl rfl rfl rfl rfl (ones_of rfl) rfl (fun w11 M11 => ?_)
    refine wl_nil (thenN ⟨alN, ?_⟩)
    refine D_nil ?_
    refine thenN ?_
    refine W_ret ?_
    skip
    refine finCC 2 3 agg107 M11 rfl rfl rfl rfl rfl rfl ?_
    exact ⟨by unfold loB hiB; first | rw [if_pos (by omega), if_pos (by omega)] | rw [if_neg (by omega), if_neg (by omega)], M11.below⟩
  · skip
    refine W_skip ?_
    refine thenN ?_
    refine W_seq ?_
    refine W_draw [(0, 1), (2, 1), (1, 2), (3, 2), (4, 2), (5, 2)] mixed rfl (by kernel_rfl) (fun w12 hb12 hh12 => ?_)
    have M12 := M4.drew hb12 hh12
    refine D_r rfl rfl rfl (r_ldW 0 agg46 M12 rfl rfl rfl) ?_
    refine D_r rfl rfl rfl (r_ldW 1 agg46 M12 rfl rfl rfl) ?_
    refine D_e [false, true] rfl (by kernel_rfl) ?_
    refine wl_cal cal68 rfl rfl rfl ?_
    refine (solidOf _ a ha).mono ?_
    rintro _ w13 ⟨v13, rfl, ⟨rfl, hb13⟩⟩
    refine ⟨_, rfl, ?_⟩
    have M13 := M12.callB hb13
    refine wl_nil (thenN ⟨(alC (Yl_of rfl (r_ldW 1 agg46 M13 rfl rfl rfl)) alN), ?_⟩)
    refine D_e [true] rfl (by kernel_rfl) ?_
    refine wl_cal cal68 rfl rfl rfl ?_
    refine (solidOf _ b hb).mono ?_
    rintro _ w14 ⟨v14, rfl, ⟨rfl, hb14⟩⟩
    refine ⟨_, rfl, ?_⟩
    have M14 := M13.callB hb14
    refine wl_nil (thenN ⟨alN, ?_⟩)
    refine D_e [] rfl (by kernel_rfl) ?_
    refine wl_stW 2 _ agg107 M14 rfl rfl rfl rfl rfl (ones_of rfl) rfl (fun w15 M15 => ?_)
    refine wl_nil (thenN ⟨alN, ?_⟩)
    refine D_e [] rfl (by kernel_rfl) ?_
    refine wl_stW 3 _ agg107 M15 rfl rfl rfl rfl rfl (ones_of rfl) rfl (fun w16 M16 => ?_)
    refine wl_nil (thenN ⟨alN, ?_⟩)
    refine D_nil ?_
    refine thenN ?_
    refine W_ret ?_
    skip
    refine finCC 2 3 agg107 M16 rfl rfl rfl rfl rfl rfl ?_
    exact ⟨by unfold loB hiB; first | rw [if_pos (by omega), if_pos (by omega)] | rw [if_neg (by omega), if_neg (by omega)], M16.below⟩

set_option maxHeartbeats 4000000 in
theorem measure (w : World) (a b : Body) (ha : Okb a) (hb : Okb b) :
    Calls Tryz.prog 52 #[(.agg (solidCells a).toArray), (.agg (solidCells b).toArray)] w (fun ex w' => ∃ v, ex = .returned v ∧ (fun v w' => v = .tuple #[.int .i64 (chDx (chB a b)), .int .i64 (chDy (chB a b)), .int .i64 (a.radius + b.radius)] ∧ Below w.heap.size w w') v w') := by
  have hra := ha.r
  have hrb := hb.r
  have hch := chB_in ha hb
  refine calls_of_W #[.tmp 4, .tmp 5, .tmp 6] 38 Tryz.func52 rfl Tryz.results52 Tryz.ntmps52 rfl ?_
  have M0 := Mem.refl w
  refine W_seq ?_
  refine W_region ?_
  refine wl_box (.agg (List.toArray _)) M0 rfl rfl rfl (fun b1 w1 M1 => ?_)
  refine wl_box (.agg (List.toArray _)) M1 rfl rfl rfl (fun b2 w2 M2 => ?_)
  refine wl_q (r_assign (.int _ _) rfl) rfl rfl ?_
  refine wl_q (r_assign (.int _ _) rfl) rfl rfl ?_
  refine wl_q (r_assign (.int _ _) rfl) rfl rfl ?_
  refine wl_nil ?_
  refine thenN ?_
  refine W_seq ?_
  refine W_region ?_
  refine wl_q (r_fieldAddr 10 fld107_1 rfl) rfl rfl ?_
  refine wl_q (r_ldA 0 _ agg33 M2 rfl rfl rfl rfl) rfl rfl ?_
  refine wl_q (r_fieldAddr 12 fld107_2 rfl) rfl rfl ?_
  refine wl_q (r_ldA 0 _ agg33 M2 rfl rfl rfl rfl) rfl rfl ?_
  refine wl_q (r_fieldAddr 10 fld107_1 rfl) rfl rfl ?_
  refine wl_q (r_ldA 1 _ agg33 M2 rfl rfl rfl rfl) rfl rfl ?_
  refine wl_q (r_fieldAddr 12 fld107_2 rfl) rfl rfl ?_
  refine wl_q (r_ldA 1 _ agg33 M2 rfl rfl rfl rfl) rfl rfl ?_
  refine wl_cal cal69 rfl rfl rfl ?_
  refine (seg_Chosen _ (endP a) (endQ a) (endP b) (endQ b) (ends_in ha) (ends_in hb)).mono ?_
  rintro _ w3 ⟨v3, rfl, ⟨rfl, hb3⟩⟩
  refine ⟨_, rfl, ?_⟩
  have M3 := M2.callB hb3
  refine wl_q (r_move (.tuple (List.toArray _)) rfl) rfl rfl ?_
  refine wl_q (r_ext (.agg (List.toArray _)) rfl rfl) rfl rfl ?_
  refine wl_q (r_ext (.agg (List.toArray _)) rfl rfl) rfl rfl ?_
  refine wl_alloc zero33 M3 rfl rfl (fun b4 w4 M4 => ?_)
  refine wl_alloc zero33 M4 rfl rfl (fun b5 w5 M5 => ?_)
  refine wl_stW 2 _ agg33 M5 rfl rfl rfl rfl rfl (ones_of rfl) rfl (fun w6 M6 => ?_)
  refine wl_stW 3 _ agg33 M6 rfl rfl rfl rfl rfl (ones_of rfl) rfl (fun w7 M7 => ?_)
  refine wl_nil ?_
  refine thenN ?_
  refine W_seq ?_
  refine W_region ?_
  refine wl_q (r_ldW 2 agg33 M7 rfl rfl rfl) rfl rfl ?_
  refine wl_q (r_ldW 3 agg33 M7 rfl rfl rfl) rfl rfl ?_
  refine wl_cal cal70 rfl rfl rfl ?_
  refine (vec_Diff _ (chB a b).1 (chB a b).2.1 hch.a.i32 hch.b.i32).mono ?_
  rintro _ w8 ⟨v8, rfl, ⟨rfl, hb8⟩⟩
  refine ⟨_, rfl, ?_⟩
  have M8 := M7.callB hb8
  refine wl_q (r_move (.tuple (List.toArray _)) rfl) rfl rfl ?_
  refine wl_q (r_ext (.int _ _) rfl rfl) rfl rfl ?_
  refine wl_q (r_ext (.int _ _) rfl rfl) rfl rfl ?_
  refine wl_q (r_assign (.int _ _) rfl) rfl rfl ?_
  refine wl_q (r_assign (.int _ _) rfl) rfl rfl ?_
  refine wl_nil ?_
  refine thenN ?_
  refine W_seq ?_
  refine W_draw [(0, 0), (1, 0), (2, 0), (3, 0), (4, 1), (5, 0), (6, 0), (7, 0), (8, 1), (9, 0), (10, 0), (11, 0), (12, 0), (13, 0)] mixed rfl (by kernel_rfl) (fun w9 hb9 hh9 => ?_)
  have M9 := M8.drew hb9 hh9
  refine D_p rfl rfl rfl (fun _ => r_move (.int _ _) rfl) ?_
  refine D_p rfl rfl rfl (fun _ => r_move (.int _ _) rfl) ?_
  refine D_p rfl rfl rfl (fun _ => r_fieldAddr 0 fld107_0 rfl) ?_
  refine D_p rfl rfl rfl (fun _ => r_fieldAddr 1 fld46_1 rfl) ?_
  refine D_r rfl rfl rfl (r_ld 0 (.int _ _) one21 M9 rfl rfl rfl) ?_
  refine D_p rfl rfl rfl (fun _ => r_convK us21 Tryz.underlying2 rfl (w64 _ (by omega) (by omega))) ?_
  refine D_p rfl rfl rfl (fun _ => r_fieldAddr 0 fld107_0 rfl) ?_
  refine D_p rfl rfl rfl (fun _ => r_fieldAddr 1 fld46_1 rfl) ?_
  refine D_r rfl rfl rfl (r_ld 1 (.int _ _) one21 M9 rfl rfl rfl) ?_
  refine D_p rfl rfl rfl (fun _ => r_convK us21 Tryz.underlying2 rfl (w64 _ (by omega) (by omega))) ?_
  refine D_p rfl rfl rfl (fun _ => r_add rfl rfl (by omega) (by omega)) ?_
  refine D_p rfl rfl rfl (fun _ => r_assign (.int _ _) rfl) ?_
  refine D_p rfl rfl rfl (fun _ => r_assign (.int _ _) rfl) ?_
  refine D_p rfl rfl rfl (fun _ => r_assign (.int _ _) rfl) ?_
  refine D_nil ?_
  refine thenN ?_
  refine W_ret ?_
  skip
  refine fin3 (.int _ _) (.int _ _) (.int _ _) rfl rfl rfl ?_
  exact ⟨rfl, M9.below⟩

set_option maxHeartbeats 4000000 in
theorem contact_Of (w : World) (a b : Body) (ha : Okb a) (hb : Okb b) :
    Calls Tryz.prog 31 #[(.agg (bodyCells a).toArray), (.agg (bodyCells b).toArray)] w (fun ex w' => ∃ v, ex = .returned v ∧ (fun v w' => v = .tuple #[.agg (conO (conOf a b)).toArray, .bool (conOf a b).isSome] ∧ Below w.heap.size w w') v w') := by
  obtain ⟨hlo, hhi⟩ := loB_ok ha hb
  have hd := chB_d hlo hhi
  have hl := len_lt hd.1 hd.2
  have hss := sum_sq hlo hhi
  have hr1 := hlo.r
  have hr2 := hhi.r
  refine calls_of_W #[.cell 4 35, .tmp 5] 52 Tryz.func31 rfl Tryz.results31 Tryz.ntmps31 rfl ?_
  have M0 := Mem.refl w
  refine W_seq ?_
  refine W_region ?_
  refine wl_box (.agg (List.toArray _)) M0 rfl rfl rfl (fun b1 w1 M1 => ?_)
  refine wl_box (.agg (List.toArray _)) M1 rfl rfl rfl (fun b2 w2 M2 => ?_)
  refine wl_alloc zero35 M2 rfl rfl (fun b3 w3 M3 => ?_)
  refine wl_q (r_assign (.bool false) rfl) rfl rfl ?_
  refine wl_nil ?_
  refine thenN ?_
  refine W_seq ?_
  refine W_region ?_
  refine wl_q (r_ldW 0 agg46 M3 rfl rfl rfl) rfl rfl ?_
  refine wl_q (r_ldW 1 agg46 M3 rfl rfl rfl) rfl rfl ?_
  refine wl_cal cal51 rfl rfl rfl ?_
  refine (inOrder _ a b ha hb).mono ?_
  rintro _ w4 ⟨v4, rfl, ⟨rfl, hb4⟩⟩
  refine ⟨_, rfl, ?_⟩
  have M4 := M3.callB hb4
  refine wl_q (r_move (.tuple (List.toArray _)) rfl) rfl rfl ?_
  refine wl_q (r_ext (.agg (List.toArray _)) rfl rfl) rfl rfl ?_
  refine wl_q (r_ext (.agg (List.toArray _)) rfl rfl) rfl rfl ?_
  refine wl_alloc zero107 M4 rfl rfl (fun b5 w5 M5 => ?_)
  refine wl_alloc zero107 M5 rfl rfl (fun b6 w6 M6 => ?_)
  refine wl_stW 3 _ agg107 M6 rfl rfl rfl rfl rfl (ones_of rfl) rfl (fun w7 M7 => ?_)
  refine wl_stW 4 _ agg107 M7 rfl rfl rfl rfl rfl (ones_of rfl) rfl (fun w8 M8 => ?_)
  refine wl_nil ?_
  refine thenN ?_
  refine W_seq ?_
  refine W_region ?_
  refine wl_q (r_ldW 3 agg107 M8 rfl rfl rfl) rfl rfl ?_
  refine wl_q (r_ldW 4 agg107 M8 rfl rfl rfl) rfl rfl ?_
  refine wl_cal cal52 rfl rfl rfl ?_
  refine (measure _ (loB a b) (hiB a b) hlo hhi).mono ?_
  rintro _ w9 ⟨v9, rfl, ⟨rfl, hb9⟩⟩
  refine ⟨_, rfl, ?_⟩
  have M9 := M8.callB hb9
  refine wl_q (r_move (.tuple (List.toArray _)) rfl) rfl rfl ?_
  refine wl_q (r_ext (.int _ _) rfl rfl) rfl rfl ?_
  refine wl_q (r_ext (.int _ _) rfl rfl) rfl rfl ?_
  refine wl_q (r_ext (.int _ _) rfl rfl) rfl rfl ?_
  refine wl_q (r_assign (.int _ _) rfl) rfl rfl ?_
  refine wl_q (r_assign (.int _ _) rfl) rfl rfl ?_
  refine wl_q (r_assign (.int _ _) rfl) rfl rfl ?_
  refine wl_nil ?_
  refine thenN ?_
  refine W_seq ?_
  refine W_seq ?_
  refine W_region ?_
  refine wl_q (r_move (.int _ _) rfl) rfl rfl ?_
  refine wl_q (r_move (.int _ _) rfl) rfl rfl ?_
  refine wl_cal cal53 rfl rfl rfl ?_
  refine (vec_LengthSq _ (chDx (chB (loB a b) (hiB a b))) (chDy (chB (loB a b) (hiB a b))) hd.1 hd.2).mono ?_
  rintro _ w10 ⟨v10, rfl, ⟨rfl, hb10⟩⟩
  refine ⟨_, rfl, ?_⟩
  have M10 := M9.callB hb10
  refine wl_q (r_move (.int _ _) rfl) rfl rfl ?_
  refine wl_q (r_move (.int _ _) rfl) rfl rfl ?_
  refine wl_q (r_mul rfl rfl (by omega) (by omega)) rfl rfl ?_
  refine wl_q (r_conv us2 Tryz.underlying62 rfl) rfl rfl ?_
  refine wl_re 31 (.int .u64 ((((loB a b).radius + (hiB a b).radius).natAbs * ((loB a b).radius + (hiB a b).radius).natAbs : Nat) : Int)) (iE (sq_cast _ hss)) ?_
  refine wl_q (r_bin (.bool (decide _)) rfl rfl rfl) rfl rfl ?_
  refine wl_nil ?_
  refine thenN ?_
  refine W_condD rfl (fun h32 => ?_) (fun h32 => ?_)
  · skip
    refine W_seq ?_
    refine W_region ?_
    refine wl_q (r_build [] _ struct35 rfl rfl) rfl rfl ?_
    refine wl_stW 2 _ agg35 M10 rfl rfl rfl rfl rfl (ones_of rfl) rfl (fun w11 M11 => ?_)
    refine wl_q (r_assign (.bool false) rfl) rfl rfl ?_
    refine wl_nil ?_
    refine thenN ?_
    refine W_ret ?_
    refine thenR ?_
    skip
    refine finC2 (v2 := .bool false) 2 agg35 M11 rfl rfl rfl rfl ?_
    exact ⟨by rw [conOf_lo]; unfold conLow; first | (rw [if_pos (by omega)]; rfl) | (rw [if_neg (by omega)]; rfl), M11.below⟩
  · skip
    refine W_skip ?_
    refine thenN ?_
    refine W_seq ?_
    refine W_region ?_
    refine wl_q (r_fieldAddr 0 fld107_0 rfl) rfl rfl ?_
    refine wl_q (r_fieldAddr 0 fld46_0 rfl) rfl rfl ?_
    refine wl_q (r_ld 3 (.int _ _) one24 M10 rfl rfl rfl) rfl rfl ?_
    refine wl_q (r_fieldAddr 0 fld107_0 rfl) rfl rfl ?_
    refine wl_q (r_fieldAddr 0 fld46_0 rfl) rfl rfl ?_
    refine wl_q (r_ld 4 (.int _ _) one24 M10 rfl rfl rfl) rfl rfl ?_
    refine wl_q (r_build [(0, .int _ _), (1, .int _ _)] _ struct31 rfl rfl) rfl rfl ?_
    refine wl_alloc zero31 M10 rfl rfl (fun b12 w12 M12 => ?_)
    refine wl_stW 5 _ agg31 M12 rfl rfl rfl rfl rfl (ones_of rfl) rfl (fun w13 M13 => ?_)
    refine wl_nil ?_
    refine thenN ?_
    refine W_seq ?_
    refine W_draw [(0, 1), (1, 0), (2, 0), (4, 0), (5, 0), (6, 0), (3, 2), (7, 2), (8, 0), (9, 0), (10, 0), (11, 2), (12, 0)] mixed rfl (by kernel_rfl) (fun w14 hb14 hh14 => ?_)
    have M14 := M13.drew hb14 hh14
    refine D_r rfl rfl rfl (r_ldW 5 agg31 M14 rfl rfl rfl) ?_
    refine D_p rfl rfl rfl (fun _ => r_move (.int _ _) rfl) ?_
    refine D_p rfl rfl rfl (fun _ => r_move (.int _ _) rfl) ?_
    refine D_p rfl rfl rfl (fun _ => r_move (.int _ _) rfl) ?_
    refine D_p rfl rfl rfl (fun _ => r_move (.int _ _) rfl) ?_
    refine D_p rfl rfl rfl (fun _ => r_move (.int _ _) rfl) ?_
    refine D_e [false] rfl (by kernel_rfl) ?_
    refine wl_cal cal54 rfl rfl rfl ?_
    refine (vec_Unit _ (chDx (chB (loB a b) (hiB a b))) (chDy (chB (loB a b) (hiB a b))) hd.1 hd.2).mono ?_
    rintro _ w15 ⟨v15, rfl, ⟨rfl, hb15⟩⟩
    refine ⟨_, rfl, ?_⟩
    have M15 := M14.callB hb15
    refine wl_nil (thenN ⟨(alC (Yl_of rfl (r_ldW 5 agg31 M15 rfl rfl rfl)) alN), ?_⟩)
    refine D_e [false] rfl (by kernel_rfl) ?_
    refine wl_cal cal55 rfl rfl rfl ?_
    refine (vec_Length _ (chDx (chB (loB a b) (hiB a b))) (chDy (chB (loB a b) (hiB a b))) hd.1 hd.2).mono ?_
    rintro _ w16 ⟨v16, rfl, ⟨rfl, hb16⟩⟩
    refine ⟨_, rfl, ?_⟩
    have M16 := M15.callB hb16
    refine wl_nil (thenN ⟨(alC (Yl_of rfl (r_ldW 5 agg31 M16 rfl rfl rfl)) alN), ?_⟩)
    refine D_p rfl rfl rfl (fun _ => r_sub rfl rfl (by omega) (by omega)) ?_
    refine D_p rfl rfl rfl (fun _ => r_conv us2 Tryz.underlying21 rfl) ?_
    refine D_p rfl rfl rfl (fun _ => r_build [(0, .agg (List.toArray _)), (1, .agg (List.toArray _)), (2, .int _ _)] _ struct35 rfl rfl) ?_
    refine D_e [true] rfl (by kernel_rfl) ?_
    refine wl_stW 2 _ agg35 M16 rfl rfl rfl rfl rfl (ones_of rfl) rfl (fun w17 M17 => ?_)
    refine wl_nil (thenN ⟨alN, ?_⟩)
    refine D_p rfl rfl rfl (fun _ => r_assign (.bool true) rfl) ?_
    refine D_nil ?_
    refine thenN ?_
    refine W_ret ?_
    skip
    refine finC2 (v2 := .bool true) 2 agg35 M17 rfl rfl rfl rfl ?_
    exact ⟨by rw [conOf_lo]; unfold conLow; first | (rw [if_pos (by omega)]; rfl) | (rw [if_neg (by omega)]; rfl), M17.below⟩

end Go.Proofs.YtkegiinlfmlhlaaGreatDoor
