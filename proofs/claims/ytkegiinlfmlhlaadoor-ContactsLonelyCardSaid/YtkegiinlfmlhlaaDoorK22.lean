/- Part of the proof of the laws of this seat: W4, W5, W6. No conditions. -/
import Derived.Test.YtkegiinlfmlhlaaDoorK5
import Derived.Test.YtkegiinlfmlhlaaDoorK20
import Derived.Test.YtkegiinlfmlhlaaDoorK21
import Derived.Test.YtkegiinlfmlhlaaDoorK9
/- Walks of Go functions over the frame of this claim: what each computes, for every input of the stated types (W4). -/
set_option linter.unusedVariables false
set_option linter.unusedSimpArgs false
set_option linter.unnecessarySimpa false
namespace Go.Proofs.YtkegiinlfmlhlaaDoor
open Go.Bil
open Go.RowKit (Below)
open Go.Proofs

set_option maxHeartbeats 4000000 in
theorem body_Ends (w : World) (b : Body) (hb : Okb b) :
    Calls Tryd.prog 128 #[(.agg (bodyCells b).toArray)] w (fun ex w' => ∃ v, ex = .returned v ∧ (fun v w' => v = .tuple #[(.agg (vecCells (endP b)).toArray), (.agg (vecCells (endQ b)).toArray)] ∧ Below w.heap.size w w') v w') := by
  have ha := hb.a
  have hp := hb.p
  refine calls_of_W #[.cell 2 32, .cell 3 32] 36 Tryd.func128 rfl Tryd.results128 Tryd.ntmps128 rfl ?_
  have M0 := Mem.refl w
  refine W_seq ?_
  refine W_region ?_
  refine wl_box (.agg (List.toArray _)) M0 rfl rfl rfl (fun b1 w1 M1 => ?_)
  refine wl_alloc zero32 M1 rfl rfl (fun b2 w2 M2 => ?_)
  refine wl_alloc zero32 M2 rfl rfl (fun b3 w3 M3 => ?_)
  refine wl_nil ?_
  refine thenN ?_
  refine W_seq ?_
  refine W_region ?_
  refine wl_q (r_fieldAddr 6 fld34_5 rfl) rfl rfl ?_
  refine wl_q (r_fieldAddr 0 fld32_0 rfl) rfl rfl ?_
  refine wl_q (r_ld 0 (.int _ _) one21 M3 rfl rfl rfl) rfl rfl ?_
  refine wl_q (r_fieldAddr 2 fld34_2 rfl) rfl rfl ?_
  refine wl_q (r_fieldAddr 0 fld32_0 rfl) rfl rfl ?_
  refine wl_q (r_ld 0 (.int _ _) one21 M3 rfl rfl rfl) rfl rfl ?_
  refine wl_q (r_subK rfl rfl (wr32 _ (by omega) (by omega))) rfl rfl ?_
  refine wl_q (r_fieldAddr 6 fld34_5 rfl) rfl rfl ?_
  refine wl_q (r_fieldAddr 1 fld32_1 rfl) rfl rfl ?_
  refine wl_q (r_ld 0 (.int _ _) one21 M3 rfl rfl rfl) rfl rfl ?_
  refine wl_q (r_fieldAddr 2 fld34_2 rfl) rfl rfl ?_
  refine wl_q (r_fieldAddr 1 fld32_1 rfl) rfl rfl ?_
  refine wl_q (r_ld 0 (.int _ _) one21 M3 rfl rfl rfl) rfl rfl ?_
  refine wl_q (r_subK rfl rfl (wr32 _ (by omega) (by omega))) rfl rfl ?_
  refine wl_q (r_build [(0, .int _ _), (1, .int _ _)] _ struct32 rfl rfl) rfl rfl ?_
  refine wl_stW 1 _ agg32 M3 rfl rfl rfl rfl rfl (ones_of rfl) rfl (fun w4 M4 => ?_)
  refine wl_nil ?_
  refine thenN ?_
  refine W_seq ?_
  refine W_region ?_
  refine wl_q (r_fieldAddr 6 fld34_5 rfl) rfl rfl ?_
  refine wl_q (r_fieldAddr 0 fld32_0 rfl) rfl rfl ?_
  refine wl_q (r_ld 0 (.int _ _) one21 M4 rfl rfl rfl) rfl rfl ?_
  refine wl_q (r_fieldAddr 2 fld34_2 rfl) rfl rfl ?_
  refine wl_q (r_fieldAddr 0 fld32_0 rfl) rfl rfl ?_
  refine wl_q (r_ld 0 (.int _ _) one21 M4 rfl rfl rfl) rfl rfl ?_
  refine wl_q (r_addK rfl rfl (wr32 _ (by omega) (by omega))) rfl rfl ?_
  refine wl_q (r_fieldAddr 6 fld34_5 rfl) rfl rfl ?_
  refine wl_q (r_fieldAddr 1 fld32_1 rfl) rfl rfl ?_
  refine wl_q (r_ld 0 (.int _ _) one21 M4 rfl rfl rfl) rfl rfl ?_
  refine wl_q (r_fieldAddr 2 fld34_2 rfl) rfl rfl ?_
  refine wl_q (r_fieldAddr 1 fld32_1 rfl) rfl rfl ?_
  refine wl_q (r_ld 0 (.int _ _) one21 M4 rfl rfl rfl) rfl rfl ?_
  refine wl_q (r_addK rfl rfl (wr32 _ (by omega) (by omega))) rfl rfl ?_
  refine wl_q (r_build [(0, .int _ _), (1, .int _ _)] _ struct32 rfl rfl) rfl rfl ?_
  refine wl_stW 2 _ agg32 M4 rfl rfl rfl rfl rfl (ones_of rfl) rfl (fun w5 M5 => ?_)
  refine wl_nil ?_
  refine thenN ?_
  refine W_seq ?_
  refine W_draw [(0, 1), (1, 1), (2, 2), (3, 2)] mixed rfl (by kernel_rfl) (fun w6 hb6 hh6 => ?_)
  have M6 := M5.drew hb6 hh6
  refine D_r rfl rfl rfl (r_ldW 1 agg32 M6 rfl rfl rfl) ?_
  refine D_r rfl rfl rfl (r_ldW 2 agg32 M6 rfl rfl rfl) ?_
  refine D_e [false, true] rfl (by kernel_rfl) ?_
  refine wl_stW 1 _ agg32 M6 rfl rfl rfl rfl rfl (ones_of rfl) rfl (fun w7 M7 => ?_)
  refine wl_nil (thenN ⟨(alC (Yl_of rfl (r_ldW 2 agg32 M7 rfl rfl rfl)) alN), ?_⟩)
  refine D_e [true] rfl (by kernel_rfl) ?_
  refine wl_stW 2 _ agg32 M7 rfl rfl rfl rfl rfl (ones_of rfl) rfl (fun w8 M8 => ?_)
  refine wl_nil (thenN ⟨alN, ?_⟩)
  refine D_nil ?_
  refine thenN ?_
  refine W_ret ?_
  skip
  refine finCC 1 2 agg32 M8 rfl rfl rfl rfl rfl rfl ?_
  exact ⟨rfl, M8.below⟩

set_option maxHeartbeats 4000000 in
theorem point_Param (w : World) (p q c : Pt) (h : SgI p q) (hc : PtI c) :
    Calls Tryd.prog 137 #[(.agg (vecCells p).toArray), (.agg (vecCells q).toArray), (.agg (vecCells c).toArray)] w (fun ex w' => ∃ v, ex = .returned v ∧ (fun v w' => v = .tuple #[.int .i64 (parN p q c), .int .i64 (parD p q)] ∧ Below w.heap.size w w') v w') := by
  have hD := parD_rng h
  have hx := cross_rng h hc
  refine calls_of_W #[.tmp 6, .tmp 7] 42 Tryd.func137 rfl Tryd.results137 Tryd.ntmps137 rfl ?_
  have M0 := Mem.refl w
  refine W_seq ?_
  refine W_region ?_
  refine wl_box (.agg (List.toArray _)) M0 rfl rfl rfl (fun b1 w1 M1 => ?_)
  refine wl_box (.agg (List.toArray _)) M1 rfl rfl rfl (fun b2 w2 M2 => ?_)
  refine wl_box (.agg (List.toArray _)) M2 rfl rfl rfl (fun b3 w3 M3 => ?_)
  refine wl_q (r_assign (.int _ _) rfl) rfl rfl ?_
  refine wl_q (r_assign (.int _ _) rfl) rfl rfl ?_
  refine wl_nil ?_
  refine thenN ?_
  refine W_seq ?_
  refine W_region ?_
  refine wl_q (r_ldW 0 agg32 M3 rfl rfl rfl) rfl rfl ?_
  refine wl_q (r_ldW 1 agg32 M3 rfl rfl rfl) rfl rfl ?_
  refine wl_cal cal108 rfl rfl rfl ?_
  refine (vec_Diff _ p q h.hp.i32 h.hq.i32).mono ?_
  rintro _ w4 ⟨v4, rfl, ⟨rfl, hb4⟩⟩
  refine ⟨_, rfl, ?_⟩
  have M4 := M3.callB hb4
  refine wl_q (r_move (.tuple (List.toArray _)) rfl) rfl rfl ?_
  refine wl_q (r_ext (.int _ _) rfl rfl) rfl rfl ?_
  refine wl_q (r_ext (.int _ _) rfl rfl) rfl rfl ?_
  refine wl_q (r_assign (.int _ _) rfl) rfl rfl ?_
  refine wl_q (r_assign (.int _ _) rfl) rfl rfl ?_
  refine wl_nil ?_
  refine thenN ?_
  refine W_seq ?_
  refine W_region ?_
  refine wl_q (r_ldW 0 agg32 M4 rfl rfl rfl) rfl rfl ?_
  refine wl_q (r_ldW 2 agg32 M4 rfl rfl rfl) rfl rfl ?_
  refine wl_cal cal108 rfl rfl rfl ?_
  refine (vec_Diff _ p c h.hp.i32 hc.i32).mono ?_
  rintro _ w5 ⟨v5, rfl, ⟨rfl, hb5⟩⟩
  refine ⟨_, rfl, ?_⟩
  have M5 := M4.callB hb5
  refine wl_q (r_move (.tuple (List.toArray _)) rfl) rfl rfl ?_
  refine wl_q (r_ext (.int _ _) rfl rfl) rfl rfl ?_
  refine wl_q (r_ext (.int _ _) rfl rfl) rfl rfl ?_
  refine wl_q (r_assign (.int _ _) rfl) rfl rfl ?_
  refine wl_q (r_assign (.int _ _) rfl) rfl rfl ?_
  refine wl_nil ?_
  refine thenN ?_
  refine W_seq ?_
  refine W_region ?_
  refine wl_q (r_move (.int _ _) rfl) rfl rfl ?_
  refine wl_q (r_move (.int _ _) rfl) rfl rfl ?_
  refine wl_q (r_mul rfl rfl (by omega) (by omega)) rfl rfl ?_
  refine wl_q (r_move (.int _ _) rfl) rfl rfl ?_
  refine wl_q (r_move (.int _ _) rfl) rfl rfl ?_
  refine wl_q (r_mul rfl rfl (by omega) (by omega)) rfl rfl ?_
  refine wl_q (r_add rfl rfl (by omega) (by omega)) rfl rfl ?_
  refine wl_re 30 (.int .i64 (parD p q)) rfl ?_
  refine wl_q (r_assign (.int _ _) rfl) rfl rfl ?_
  refine wl_nil ?_
  refine thenN ?_
  refine W_seq ?_
  refine W_region ?_
  refine wl_q (r_move (.int _ _) rfl) rfl rfl ?_
  refine wl_q (r_move (.int _ _) rfl) rfl rfl ?_
  refine wl_q (r_mul rfl rfl (by omega) (by omega)) rfl rfl ?_
  refine wl_q (r_move (.int _ _) rfl) rfl rfl ?_
  refine wl_q (r_move (.int _ _) rfl) rfl rfl ?_
  refine wl_q (r_mul rfl rfl (by omega) (by omega)) rfl rfl ?_
  refine wl_q (r_add rfl rfl (by omega) (by omega)) rfl rfl ?_
  refine wl_q (r_move (.int _ _) rfl) rfl rfl ?_
  refine wl_q (r_min2 rfl rfl ) rfl rfl ?_
  refine wl_q (r_max2 rfl rfl ) rfl rfl ?_
  refine wl_q (r_move (.int _ _) rfl) rfl rfl ?_
  refine wl_q (r_assign (.int _ _) rfl) rfl rfl ?_
  refine wl_q (r_assign (.int _ _) rfl) rfl rfl ?_
  refine wl_nil ?_
  refine thenN ?_
  refine W_ret ?_
  skip
  refine fin2 (.int _ _) (.int _ _) rfl rfl ?_
  exact ⟨rfl, M5.below⟩

set_option maxHeartbeats 4000000 in
theorem near_part (w : World) (f a n d : Int) (bn bd : Nat) (ha : -16777216 ≤ a ∧ a ≤ 16777216) (hn : 0 ≤ n) (hnd : n ≤ d) (hd0 : 0 < d) (hd : d ≤ 562949953421312) (h1 : -16777216 ≤ a * n / d ∧ a * n / d ≤ 16777216) (h2 : -1082130432 ≤ f + a * n / d ∧ f + a * n / d ≤ 1082130432) (K1 : Rd w 1 (some ⟨bn, 0, none⟩) 1 [[.int .i64 n]]) (K2 : Rd w 1 (some ⟨bd, 0, none⟩) 1 [[.int .i64 d]]) :
    Calls Tryd.prog 138 #[.int .i32 f, .int .i64 a, .pointer (some ⟨bn, 0, none⟩), .pointer (some ⟨bd, 0, none⟩)] w (fun ex w' => ∃ v, ex = .returned v ∧ (fun v w' => v = .int .i32 (f + a * n / d) ∧ Below w.heap.size w w') v w') := by
  rw [← elt_zero bn, ← elt_zero bd]
  refine calls_of_W #[.tmp 6] 20 Tryd.func138 rfl Tryd.results138 Tryd.ntmps138 rfl ?_
  have M0 := Mem.refl w
  refine W_seq ?_
  refine W_region ?_
  refine wl_q (r_assign (.int _ _) rfl) rfl rfl ?_
  refine wl_nil ?_
  refine thenN ?_
  refine W_seq ?_
  refine W_region ?_
  refine wl_q (r_move (.int _ _) rfl) rfl rfl ?_
  refine wl_q (r_ldE (o := 0) (.int _ _) one2 (K1.mem M0) (show ([[.int .i64 n]] : List (List Value))[0]? = some [.int .i64 n] from rfl) rfl rfl) rfl rfl ?_
  refine wl_q (r_ldE (o := 0) (.int _ _) one2 (K2.mem M0) (show ([[.int .i64 d]] : List (List Value))[0]? = some [.int .i64 d] from rfl) rfl rfl) rfl rfl ?_
  refine wl_cal cal139 rfl rfl rfl ?_
  refine (mulDiv _ a n d (by omega) hn hnd hd0 (by omega)).mono ?_
  rintro _ w1 ⟨v1, rfl, ⟨rfl, hb1⟩⟩
  refine ⟨_, rfl, ?_⟩
  have M1 := M0.callB hb1
  refine wl_q (r_move (.tuple (List.toArray _)) rfl) rfl rfl ?_
  refine wl_q (r_ext (.int _ _) rfl rfl) rfl rfl ?_
  refine wl_q (r_ext (.int _ _) rfl rfl) rfl rfl ?_
  refine wl_q (r_assign (.int _ _) rfl) rfl rfl ?_
  refine wl_q (r_assign (.int _ _) rfl) rfl rfl ?_
  refine wl_nil ?_
  refine thenN ?_
  refine W_seq ?_
  refine W_region ?_
  refine wl_q (r_move (.int _ _) rfl) rfl rfl ?_
  refine wl_q (r_move (.int _ _) rfl) rfl rfl ?_
  refine wl_q (r_convK us2 Tryd.underlying21 rfl (wr32 _ (by omega) (by omega))) rfl rfl ?_
  refine wl_q (r_addK rfl rfl (wr32 _ (by omega) (by omega))) rfl rfl ?_
  refine wl_q (r_assign (.int _ _) rfl) rfl rfl ?_
  refine wl_nil ?_
  refine thenN ?_
  refine W_ret ?_
  skip
  refine fin1 (.int _ _) rfl ?_
  exact ⟨rfl, M1.below⟩

set_option maxHeartbeats 4000000 in
theorem point_Nearest (w : World) (p q c : Pt) (h : SgI p q) (hc : PtI c) :
    Calls Tryd.prog 135 #[(.agg (vecCells p).toArray), (.agg (vecCells q).toArray), (.agg (vecCells c).toArray)] w (fun ex w' => ∃ v, ex = .returned v ∧ (fun v w' => v = (.agg (vecCells (nearest p q c)).toArray) ∧ Below w.heap.size w w') v w') := by
  have hD := parD_rng h
  have hn := parN_rng (c := c) h
  have hx := h.x
  have hy := h.y
  refine calls_of_W #[.cell 6 32] 40 Tryd.func135 rfl Tryd.results135 Tryd.ntmps135 rfl ?_
  have M0 := Mem.refl w
  refine W_seq ?_
  refine W_region ?_
  refine wl_box (.agg (List.toArray _)) M0 rfl rfl rfl (fun b1 w1 M1 => ?_)
  refine wl_box (.agg (List.toArray _)) M1 rfl rfl rfl (fun b2 w2 M2 => ?_)
  refine wl_box (.agg (List.toArray _)) M2 rfl rfl rfl (fun b3 w3 M3 => ?_)
  refine wl_alloc zero32 M3 rfl rfl (fun b4 w4 M4 => ?_)
  refine wl_nil ?_
  refine thenN ?_
  refine W_seq ?_
  refine W_region ?_
  refine wl_q (r_ldW 0 agg32 M4 rfl rfl rfl) rfl rfl ?_
  refine wl_q (r_ldW 1 agg32 M4 rfl rfl rfl) rfl rfl ?_
  refine wl_q (r_ldW 2 agg32 M4 rfl rfl rfl) rfl rfl ?_
  refine wl_cal cal137 rfl rfl rfl ?_
  refine (point_Param _ p q c h hc).mono ?_
  rintro _ w5 ⟨v5, rfl, ⟨rfl, hb5⟩⟩
  refine ⟨_, rfl, ?_⟩
  have M5 := M4.callB hb5
  refine wl_q (r_move (.tuple (List.toArray _)) rfl) rfl rfl ?_
  refine wl_q (r_ext (.int _ _) rfl rfl) rfl rfl ?_
  refine wl_q (r_ext (.int _ _) rfl rfl) rfl rfl ?_
  refine wl_alloc zero2 M5 rfl rfl (fun b6 w6 M6 => ?_)
  refine wl_alloc zero2 M6 rfl rfl (fun b7 w7 M7 => ?_)
  refine wl_st 4 (.int _ _) one2 M7 rfl rfl rfl rfl rfl rfl (fun w8 M8 => ?_)
  refine wl_st 5 (.int _ _) one2 M8 rfl rfl rfl rfl rfl rfl (fun w9 M9 => ?_)
  refine wl_nil ?_
  refine thenN ?_
  refine W_seq ?_
  refine W_seq ?_
  refine W_region ?_
  refine wl_q (r_ld 5 (.int _ _) one2 M9 rfl rfl rfl) rfl rfl ?_
  refine wl_q (r_bin (.bool (decide _)) rfl rfl rfl) rfl rfl ?_
  refine wl_nil ?_
  refine thenN ?_
  refine W_condD rfl (fun h20 => ?_) (fun h20 => ?_)
  · skip
    refine W_seq ?_
    refine W_region ?_
    refine wl_q (r_ldW 0 agg32 M9 rfl rfl rfl) rfl rfl ?_
    refine wl_stW 3 _ agg32 M9 rfl rfl rfl rfl rfl (ones_of rfl) rfl (fun w10 M10 => ?_)
    refine wl_nil ?_
    refine thenN ?_
    refine W_ret ?_
    refine thenR ?_
    skip
    refine finC1 3 agg32 M10 rfl rfl rfl ?_
    exact ⟨by unfold nearest; first | (rw [if_pos h20]; rfl) | (rw [if_neg h20]; rfl), M10.below⟩
  · skip
    have hnr := near_rng (c := c) h h20
    refine W_skip ?_
    refine thenN ?_
    refine W_seq ?_
    refine W_region ?_
    refine wl_q (r_makeFuncV [] [.pointer _, .pointer _] rfl rfl) rfl rfl ?_
    refine wl_q (r_assign (.func _ _ _) rfl) rfl rfl ?_
    refine wl_nil ?_
    refine thenN ?_
    refine W_seq ?_
    refine W_region ?_
    refine wl_q (r_ldW 0 agg32 M9 rfl rfl rfl) rfl rfl ?_
    refine wl_q (r_ldW 1 agg32 M9 rfl rfl rfl) rfl rfl ?_
    refine wl_cal cal108 rfl rfl rfl ?_
    refine (vec_Diff _ p q h.hp.i32 h.hq.i32).mono ?_
    rintro _ w11 ⟨v11, rfl, ⟨rfl, hb11⟩⟩
    refine ⟨_, rfl, ?_⟩
    have M11 := M9.callB hb11
    refine wl_q (r_move (.tuple (List.toArray _)) rfl) rfl rfl ?_
    refine wl_q (r_ext (.int _ _) rfl rfl) rfl rfl ?_
    refine wl_q (r_ext (.int _ _) rfl rfl) rfl rfl ?_
    refine wl_q (r_assign (.int _ _) rfl) rfl rfl ?_
    refine wl_q (r_assign (.int _ _) rfl) rfl rfl ?_
    refine wl_nil ?_
    refine thenN ?_
    refine W_seq ?_
    refine W_draw [(0, 0), (1, 0), (2, 1), (3, 0), (5, 0), (6, 0), (7, 1), (8, 0), (4, 2), (9, 2), (10, 0), (11, 2)] mixed rfl (by kernel_rfl) (fun w12 hb12 hh12 => ?_)
    have M12 := M11.drew hb12 hh12
    refine D_p rfl rfl rfl (fun _ => r_move (.func _ _ _) rfl) ?_
    refine D_p rfl rfl rfl (fun _ => r_fieldAddr 0 fld32_0 rfl) ?_
    refine D_r rfl rfl rfl (r_ld 0 (.int _ _) one21 M12 rfl rfl rfl) ?_
    refine D_p rfl rfl rfl (fun _ => r_move (.int _ _) rfl) ?_
    refine D_p rfl rfl rfl (fun _ => r_move (.func _ _ _) rfl) ?_
    refine D_p rfl rfl rfl (fun _ => r_fieldAddr 1 fld32_1 rfl) ?_
    refine D_r rfl rfl rfl (r_ld 0 (.int _ _) one21 M12 rfl rfl rfl) ?_
    refine D_p rfl rfl rfl (fun _ => r_move (.int _ _) rfl) ?_
    refine D_e [false, true] rfl (by kernel_rfl) ?_
    refine wl_cal cal138 rfl rfl rfl ?_
    refine (near_part _ p.1 (q.1 - p.1) (parN p q c) (parD p q) b6 b7 (by omega) hn.1 hn.2 (by omega) (by omega) hnr.1.1 hnr.1.2 (rdOf 4 M12 rfl rfl) (rdOf 5 M12 rfl rfl)).mono ?_
    rintro _ w13 ⟨v13, rfl, ⟨rfl, hb13⟩⟩
    refine ⟨_, rfl, ?_⟩
    have M13 := M12.callB hb13
    refine wl_nil (thenN ⟨(alC (Yl_of rfl (r_ld 0 (.int _ _) one21 M13 rfl rfl rfl)) alN), ?_⟩)
    refine D_e [true] rfl (by kernel_rfl) ?_
    refine wl_cal cal138 rfl rfl rfl ?_
    refine (near_part _ p.2 (q.2 - p.2) (parN p q c) (parD p q) b6 b7 (by omega) hn.1 hn.2 (by omega) (by omega) hnr.2.1 hnr.2.2 (rdOf 4 M13 rfl rfl) (rdOf 5 M13 rfl rfl)).mono ?_
    rintro _ w14 ⟨v14, rfl, ⟨rfl, hb14⟩⟩
    refine ⟨_, rfl, ?_⟩
    have M14 := M13.callB hb14
    refine wl_nil (thenN ⟨alN, ?_⟩)
    refine D_p rfl rfl rfl (fun _ => r_build [(0, .int _ _), (1, .int _ _)] _ struct32 rfl rfl) ?_
    refine D_e [] rfl (by kernel_rfl) ?_
    refine wl_stW 3 _ agg32 M14 rfl rfl rfl rfl rfl (ones_of rfl) rfl (fun w15 M15 => ?_)
    refine wl_nil (thenN ⟨alN, ?_⟩)
    refine D_nil ?_
    refine thenN ?_
    refine W_ret ?_
    skip
    refine finC1 3 agg32 M15 rfl rfl rfl ?_
    exact ⟨by unfold nearest; first | (rw [if_pos h20]; rfl) | (rw [if_neg h20]; rfl), M15.below⟩

end Go.Proofs.YtkegiinlfmlhlaaDoor

/- Walks of Go functions over the frame of this claim: what each computes, for every input of the stated types (W5). -/
set_option linter.unusedVariables false
set_option linter.unusedSimpArgs false
set_option linter.unnecessarySimpa false
namespace Go.Proofs.YtkegiinlfmlhlaaDoor
open Go.Bil
open Go.RowKit (Below)
open Go.Proofs

set_option maxHeartbeats 4000000 in
theorem choose1 (w : World) (s : Ch) (x y : Pt) (ba bb bl : Nat) (hx : PtI x) (hy : PtI y) (hO : Own [(some ba, bc (vecCells s.1) 32), (some bb, bc (vecCells s.2.1) 32), (some bl, bc [.int .u64 (s.2.2 : Int)] 145)] w) :
    Calls Tryd.prog 134 #[(.agg (vecCells x).toArray), (.agg (vecCells y).toArray), .pointer (some ⟨bl, 0, none⟩), .pointer (some ⟨ba, 0, none⟩), .pointer (some ⟨bb, 0, none⟩)] w (fun ex w' => ∃ v, ex = .returned v ∧ (fun v w' => v = .tuple #[] ∧ Mem w (blks [(some ba, bc (vecCells s.1) 32), (some bb, bc (vecCells s.2.1) 32), (some bl, bc [.int .u64 (s.2.2 : Int)] 145)]) [(some ba, bc (vecCells (chStep s x y).1) 32), (some bb, bc (vecCells (chStep s x y).2.1) 32), (some bl, bc [.int .u64 ((chStep s x y).2.2 : Int)] 145)] w') v w') := by
  refine calls_of_W #[] 20 Tryd.func134 rfl Tryd.results134 Tryd.ntmps134 rfl ?_
  have M0 := hO.mem
  refine W_seq ?_
  refine W_region ?_
  refine wl_box (.agg (List.toArray _)) M0 rfl rfl rfl (fun b1 w1 M1 => ?_)
  refine wl_box (.agg (List.toArray _)) M1 rfl rfl rfl (fun b2 w2 M2 => ?_)
  refine wl_nil ?_
  refine thenN ?_
  refine W_seq ?_
  refine W_region ?_
  refine wl_q (r_ldW 3 agg32 M2 rfl rfl rfl) rfl rfl ?_
  refine wl_q (r_ldW 4 agg32 M2 rfl rfl rfl) rfl rfl ?_
  refine wl_cal cal108 rfl rfl rfl ?_
  refine (vec_Diff _ x y hx.i32 hy.i32).mono ?_
  rintro _ w3 ⟨v3, rfl, ⟨rfl, hb3⟩⟩
  refine ⟨_, rfl, ?_⟩
  have M3 := M2.callB hb3
  refine wl_q (r_ext (.int _ _) rfl rfl) rfl rfl ?_
  refine wl_q (r_ext (.int _ _) rfl rfl) rfl rfl ?_
  refine wl_cal cal82 rfl rfl rfl ?_
  refine (vec_LengthSq _ (y.1 - x.1) (y.2 - x.2) (hx.inX hy) (hx.inY hy)).mono ?_
  rintro _ w4 ⟨v4, rfl, ⟨rfl, hb4⟩⟩
  refine ⟨_, rfl, ?_⟩
  have M4 := M3.callB hb4
  refine wl_q (r_assign (.int _ _) rfl) rfl rfl ?_
  refine wl_nil ?_
  refine thenN ?_
  refine W_seq ?_
  refine W_region ?_
  refine wl_q (r_move (.int _ _) rfl) rfl rfl ?_
  refine wl_q (r_ld 2 (.int _ _) one145 M4 rfl rfl rfl) rfl rfl ?_
  refine wl_q (r_bin (.bool (decide _)) rfl rfl rfl) rfl rfl ?_
  refine wl_nil ?_
  refine thenN ?_
  refine W_condD rfl (fun h16 => ?_) (fun h16 => ?_)
  · skip
    refine W_draw [(0, 1), (1, 1), (2, 0), (3, 2), (4, 2), (5, 2)] mixed rfl (by kernel_rfl) (fun w5 hb5 hh5 => ?_)
    have M5 := M4.drew hb5 hh5
    refine D_r rfl rfl rfl (r_ldW 3 agg32 M5 rfl rfl rfl) ?_
    refine D_r rfl rfl rfl (r_ldW 4 agg32 M5 rfl rfl rfl) ?_
    refine D_p rfl rfl rfl (fun _ => r_move (.int _ _) rfl) ?_
    refine D_e [false, true] rfl (by kernel_rfl) ?_
    refine wl_stW 0 _ agg32 M5 rfl rfl rfl rfl rfl (ones_of rfl) rfl (fun w6 M6 => ?_)
    refine wl_nil (thenN ⟨(alC (Yl_of rfl (r_ldW 4 agg32 M6 rfl rfl rfl)) alN), ?_⟩)
    refine D_e [true] rfl (by kernel_rfl) ?_
    refine wl_stW 1 _ agg32 M6 rfl rfl rfl rfl rfl (ones_of rfl) rfl (fun w7 M7 => ?_)
    refine wl_nil (thenN ⟨alN, ?_⟩)
    refine D_e [] rfl (by kernel_rfl) ?_
    refine wl_st 2 (.int _ _) one145 M7 rfl rfl rfl rfl rfl rfl (fun w8 M8 => ?_)
    refine wl_nil (thenN ⟨alN, ?_⟩)
    refine D_nil ?_
    refine fin0n ?_
    exact ⟨rfl, by unfold chStep; first | (rw [if_pos (by omega)]; exact M8.keep [true, true, true, false, false]) | (rw [if_neg (by omega)]; exact M8.keep [true, true, true, false, false])⟩
  · skip
    refine W_skip ?_
    refine fin0n ?_
    exact ⟨rfl, by unfold chStep; first | (rw [if_pos (by omega)]; exact M4.keep [true, true, true, false, false]) | (rw [if_neg (by omega)]; exact M4.keep [true, true, true, false, false])⟩

set_option maxHeartbeats 8000000 in
theorem seg_choose (w : World) (ap aq bp bq : Pt) (h1 : SgI ap aq) (h2 : SgI bp bq) :
    Calls Tryd.prog 129 #[(.agg (vecCells ap).toArray), (.agg (vecCells aq).toArray), (.agg (vecCells bp).toArray), (.agg (vecCells bq).toArray)] w (fun ex w' => ∃ v, ex = .returned v ∧ (fun v w' => v = .tuple #[(.agg (vecCells (chosen ap aq bp bq).1).toArray), (.agg (vecCells (chosen ap aq bp bq).2.1).toArray), .int .u64 ((chosen ap aq bp bq).2.2 : Int)] ∧ Below w.heap.size w w') v w') := by
  refine calls_of_W #[.cell 8 32, .cell 9 32, .cell 10 145] 48 Tryd.func129 rfl Tryd.results129 Tryd.ntmps129 rfl ?_
  have M0 := Mem.refl w
  refine W_seq ?_
  refine W_region ?_
  refine wl_box (.agg (List.toArray _)) M0 rfl rfl rfl (fun b1 w1 M1 => ?_)
  refine wl_box (.agg (List.toArray _)) M1 rfl rfl rfl (fun b2 w2 M2 => ?_)
  refine wl_box (.agg (List.toArray _)) M2 rfl rfl rfl (fun b3 w3 M3 => ?_)
  refine wl_box (.agg (List.toArray _)) M3 rfl rfl rfl (fun b4 w4 M4 => ?_)
  refine wl_alloc zero32 M4 rfl rfl (fun b5 w5 M5 => ?_)
  refine wl_alloc zero32 M5 rfl rfl (fun b6 w6 M6 => ?_)
  refine wl_alloc zero145 M6 rfl rfl (fun b7 w7 M7 => ?_)
  refine wl_nil ?_
  refine thenN ?_
  refine W_seq ?_
  refine W_region ?_
  refine wl_st 6 (.int _ _) one145 M7 rfl rfl rfl rfl rfl rfl (fun w8 M8 => ?_)
  refine wl_nil ?_
  refine thenN ?_
  refine W_seq ?_
  refine W_region ?_
  obtain ⟨s, hS⟩ : ∃ z, z = ch0 := ⟨_, rfl⟩
  have hC : ChI s := by rw [hS]; exact ch0_in
  have M9 : Mem _ _ [_, _, _, _, (some b5, bc (vecCells ch0.1) 32), (some b6, bc (vecCells ch0.2.1) 32), (some b7, bc [.int .u64 (ch0.2.2 : Int)] 145)] _ := M8
  rw [← hS] at M9
  refine wl_q (r_makeFuncV [] [.pointer _, .pointer _, .pointer _] rfl rfl) rfl rfl ?_
  refine wl_q (r_assign (.func _ _ _) rfl) rfl rfl ?_
  refine wl_nil ?_
  refine thenN ?_
  refine W_seq ?_
  refine W_seq ?_
  refine W_region ?_
  refine wl_q (r_ldW 0 agg32 M9 rfl rfl rfl) rfl rfl ?_
  refine wl_q (r_ldW 1 agg32 M9 rfl rfl rfl) rfl rfl ?_
  refine wl_q (r_buildA [.agg (List.toArray _), .agg (List.toArray _)] arr202 zero202 rfl rfl (lens_of rfl)) rfl rfl ?_
  refine wl_q (r_move (.int _ _) rfl) rfl rfl ?_
  refine wl_nil ?_
  refine thenN ?_
  refine W_block ?_
  refine W_rounds 3 (Wr_s ?_)
  refine W_seq ?_
  refine W_region ?_
  refine wl_q (r_bin (.bool (decide _)) rfl rfl rfl) rfl rfl ?_
  refine wl_re 21 (.bool true) (bT (by omega)).symm ?_
  refine wl_nil ?_
  refine thenN ?_
  refine W_seq ?_
  refine W_condT rfl ?_
  refine W_skip ?_
  refine thenN ?_
  refine W_seq ?_
  refine W_block ?_
  refine W_seq ?_
  refine W_region ?_
  refine wl_q (r_idxA 0 _ arr202 agg32 rfl rfl (by decide) (by decide) rfl rfl) rfl rfl ?_
  refine wl_alloc zero32 M9 rfl rfl (fun b10 w10 M10 => ?_)
  refine wl_stW 7 _ agg32 M10 rfl rfl rfl rfl rfl (ones_of rfl) rfl (fun w11 M11 => ?_)
  refine wl_nil ?_
  refine thenN ?_
  refine W_draw [(0, 0), (1, 1), (2, 1), (3, 1), (4, 1), (5, 2), (6, 2)] mixed rfl (by kernel_rfl) (fun w12 hb12 hh12 => ?_)
  have M12 := M11.drew hb12 hh12
  refine D_p rfl rfl rfl (fun _ => r_move (.func _ _ _) rfl) ?_
  refine D_r rfl rfl rfl (r_ldW 7 agg32 M12 rfl rfl rfl) ?_
  refine D_r rfl rfl rfl (r_ldW 2 agg32 M12 rfl rfl rfl) ?_
  refine D_r rfl rfl rfl (r_ldW 3 agg32 M12 rfl rfl rfl) ?_
  refine D_r rfl rfl rfl (r_ldW 7 agg32 M12 rfl rfl rfl) ?_
  refine D_e [true, true, true, false] rfl (by kernel_rfl) ?_
  refine wl_cal cal135 rfl rfl rfl ?_
  refine (point_Nearest _ bp bq ap h2 h1.hp).mono ?_
  rintro _ w13 ⟨v13, rfl, ⟨rfl, hb13⟩⟩
  refine ⟨_, rfl, ?_⟩
  have M13 := M12.callB hb13
  refine wl_nil (thenN ⟨(alC (Yl_of rfl (r_ldW 7 agg32 M13 rfl rfl rfl)) alN), ?_⟩)
  refine D_e [true] rfl (by kernel_rfl) ?_
  refine wl_cal cal134 rfl rfl rfl ?_
  refine (choose1 _ s ap (nearest bp bq ap) _ _ _ h1.hp (nearest_in h2) (M13.ownSeg 4 3)).mono ?_
  rintro _ w14 ⟨v14, rfl, ⟨rfl, hM14⟩⟩
  refine ⟨_, rfl, ?_⟩
  have M14 : Mem _ _ [_, _, _, _, _, _, _, _] _ := M13.seg 4 3 hM14
  obtain ⟨s, hs⟩ : ∃ z, z = chStep s ap (nearest bp bq ap) := ⟨_, rfl⟩
  rw [← hs] at M14
  replace hC := hC.step (x := ap) (y := (nearest bp bq ap)) h1.hp (nearest_in h2)
  rw [← hs] at hC
  replace hS := hs.trans (congrArg (fun z => chStep z ap (nearest bp bq ap)) hS)
  refine wl_nil (thenN ⟨alN, ?_⟩)
  refine D_nil ?_
  refine blkN ?_
  refine thenN ?_
  refine W_region ?_
  refine wl_q (r_add rfl rfl (by omega) (by omega)) rfl rfl ?_
  refine wl_re 30 (.int .i64 1) (iE (by omega)) ?_
  refine wl_q (r_move (.int _ _) rfl) rfl rfl ?_
  refine wl_nil ?_
  refine thenN (Wr_s ?_)
  refine W_seq ?_
  refine W_region ?_
  refine wl_q (r_bin (.bool (decide _)) rfl rfl rfl) rfl rfl ?_
  refine wl_re 21 (.bool true) (bT (by omega)).symm ?_
  refine wl_nil ?_
  refine thenN ?_
  refine W_seq ?_
  refine W_condT rfl ?_
  refine W_skip ?_
  refine thenN ?_
  refine W_seq ?_
  refine W_block ?_
  refine W_seq ?_
  refine W_region ?_
  refine wl_q (r_idxA 1 _ arr202 agg32 rfl rfl (by decide) (by decide) rfl rfl) rfl rfl ?_
  refine wl_alloc zero32 M14 rfl rfl (fun b15 w15 M15 => ?_)
  refine wl_stW 8 _ agg32 M15 rfl rfl rfl rfl rfl (ones_of rfl) rfl (fun w16 M16 => ?_)
  refine wl_nil ?_
  refine thenN ?_
  refine W_draw [(0, 0), (1, 1), (2, 1), (3, 1), (4, 1), (5, 2), (6, 2)] mixed rfl (by kernel_rfl) (fun w17 hb17 hh17 => ?_)
  have M17 := M16.drew hb17 hh17
  refine D_p rfl rfl rfl (fun _ => r_move (.func _ _ _) rfl) ?_
  refine D_r rfl rfl rfl (r_ldW 8 agg32 M17 rfl rfl rfl) ?_
  refine D_r rfl rfl rfl (r_ldW 2 agg32 M17 rfl rfl rfl) ?_
  refine D_r rfl rfl rfl (r_ldW 3 agg32 M17 rfl rfl rfl) ?_
  refine D_r rfl rfl rfl (r_ldW 8 agg32 M17 rfl rfl rfl) ?_
  refine D_e [true, true, true, false] rfl (by kernel_rfl) ?_
  refine wl_cal cal135 rfl rfl rfl ?_
  refine (point_Nearest _ bp bq aq h2 h1.hq).mono ?_
  rintro _ w18 ⟨v18, rfl, ⟨rfl, hb18⟩⟩
  refine ⟨_, rfl, ?_⟩
  have M18 := M17.callB hb18
  refine wl_nil (thenN ⟨(alC (Yl_of rfl (r_ldW 8 agg32 M18 rfl rfl rfl)) alN), ?_⟩)
  refine D_e [true] rfl (by kernel_rfl) ?_
  refine wl_cal cal134 rfl rfl rfl ?_
  refine (choose1 _ s aq (nearest bp bq aq) _ _ _ h1.hq (nearest_in h2) (M18.ownSeg 4 3)).mono ?_
  rintro _ w19 ⟨v19, rfl, ⟨rfl, hM19⟩⟩
  refine ⟨_, rfl, ?_⟩
  have M19 : Mem _ _ [_, _, _, _, _, _, _, _, _] _ := M18.seg 4 3 hM19
  obtain ⟨s, hs⟩ : ∃ z, z = chStep s aq (nearest bp bq aq) := ⟨_, rfl⟩
  rw [← hs] at M19
  replace hC := hC.step (x := aq) (y := (nearest bp bq aq)) h1.hq (nearest_in h2)
  rw [← hs] at hC
  replace hS := hs.trans (congrArg (fun z => chStep z aq (nearest bp bq aq)) hS)
  refine wl_nil (thenN ⟨alN, ?_⟩)
  refine D_nil ?_
  refine blkN ?_
  refine thenN ?_
  refine W_region ?_
  refine wl_q (r_add rfl rfl (by omega) (by omega)) rfl rfl ?_
  refine wl_re 30 (.int .i64 2) (iE (by omega)) ?_
  refine wl_q (r_move (.int _ _) rfl) rfl rfl ?_
  refine wl_nil ?_
  refine thenN (Wr_s ?_)
  refine W_seq ?_
  refine W_region ?_
  refine wl_q (r_bin (.bool (decide _)) rfl rfl rfl) rfl rfl ?_
  refine wl_re 21 (.bool false) (bF (by omega)).symm ?_
  refine wl_nil ?_
  refine thenN ?_
  refine W_seq ?_
  refine W_condF rfl ?_
  refine W_exit ?_
  refine thenX ?_
  refine thenX ?_
  refine blkH ?_
  refine thenN ?_
  refine W_seq ?_
  refine W_seq ?_
  refine W_region ?_
  refine wl_q (r_ldW 2 agg32 M19 rfl rfl rfl) rfl rfl ?_
  refine wl_q (r_ldW 3 agg32 M19 rfl rfl rfl) rfl rfl ?_
  refine wl_q (r_buildA [.agg (List.toArray _), .agg (List.toArray _)] arr202 zero202 rfl rfl (lens_of rfl)) rfl rfl ?_
  refine wl_q (r_move (.int _ _) rfl) rfl rfl ?_
  refine wl_nil ?_
  refine thenN ?_
  refine W_block ?_
  refine W_rounds 3 (Wr_s ?_)
  refine W_seq ?_
  refine W_region ?_
  refine wl_q (r_bin (.bool (decide _)) rfl rfl rfl) rfl rfl ?_
  refine wl_re 35 (.bool true) (bT (by omega)).symm ?_
  refine wl_nil ?_
  refine thenN ?_
  refine W_seq ?_
  refine W_condT rfl ?_
  refine W_skip ?_
  refine thenN ?_
  refine W_seq ?_
  refine W_block ?_
  refine W_seq ?_
  refine W_region ?_
  refine wl_q (r_idxA 0 _ arr202 agg32 rfl rfl (by decide) (by decide) rfl rfl) rfl rfl ?_
  refine wl_alloc zero32 M19 rfl rfl (fun b20 w20 M20 => ?_)
  refine wl_stW 9 _ agg32 M20 rfl rfl rfl rfl rfl (ones_of rfl) rfl (fun w21 M21 => ?_)
  refine wl_nil ?_
  refine thenN ?_
  refine W_draw [(0, 0), (1, 1), (2, 1), (3, 1), (5, 1), (4, 2), (6, 2)] mixed rfl (by kernel_rfl) (fun w22 hb22 hh22 => ?_)
  have M22 := M21.drew hb22 hh22
  refine D_p rfl rfl rfl (fun _ => r_move (.func _ _ _) rfl) ?_
  refine D_r rfl rfl rfl (r_ldW 0 agg32 M22 rfl rfl rfl) ?_
  refine D_r rfl rfl rfl (r_ldW 1 agg32 M22 rfl rfl rfl) ?_
  refine D_r rfl rfl rfl (r_ldW 9 agg32 M22 rfl rfl rfl) ?_
  refine D_r rfl rfl rfl (r_ldW 9 agg32 M22 rfl rfl rfl) ?_
  refine D_e [false, true, true, true] rfl (by kernel_rfl) ?_
  refine wl_cal cal135 rfl rfl rfl ?_
  refine (point_Nearest _ ap aq bp h1 h2.hp).mono ?_
  rintro _ w23 ⟨v23, rfl, ⟨rfl, hb23⟩⟩
  refine ⟨_, rfl, ?_⟩
  have M23 := M22.callB hb23
  refine wl_nil (thenN ⟨(alC (Yl_of rfl (r_ldW 9 agg32 M23 rfl rfl rfl)) alN), ?_⟩)
  refine D_e [true] rfl (by kernel_rfl) ?_
  refine wl_cal cal134 rfl rfl rfl ?_
  refine (choose1 _ s (nearest ap aq bp) bp _ _ _ (nearest_in h1) h2.hp (M23.ownSeg 4 3)).mono ?_
  rintro _ w24 ⟨v24, rfl, ⟨rfl, hM24⟩⟩
  refine ⟨_, rfl, ?_⟩
  have M24 : Mem _ _ [_, _, _, _, _, _, _, _, _, _] _ := M23.seg 4 3 hM24
  obtain ⟨s, hs⟩ : ∃ z, z = chStep s (nearest ap aq bp) bp := ⟨_, rfl⟩
  rw [← hs] at M24
  replace hC := hC.step (x := (nearest ap aq bp)) (y := bp) (nearest_in h1) h2.hp
  rw [← hs] at hC
  replace hS := hs.trans (congrArg (fun z => chStep z (nearest ap aq bp) bp) hS)
  refine wl_nil (thenN ⟨alN, ?_⟩)
  refine D_nil ?_
  refine blkN ?_
  refine thenN ?_
  refine W_region ?_
  refine wl_q (r_add rfl rfl (by omega) (by omega)) rfl rfl ?_
  refine wl_re 44 (.int .i64 1) (iE (by omega)) ?_
  refine wl_q (r_move (.int _ _) rfl) rfl rfl ?_
  refine wl_nil ?_
  refine thenN (Wr_s ?_)
  refine W_seq ?_
  refine W_region ?_
  refine wl_q (r_bin (.bool (decide _)) rfl rfl rfl) rfl rfl ?_
  refine wl_re 35 (.bool true) (bT (by omega)).symm ?_
  refine wl_nil ?_
  refine thenN ?_
  refine W_seq ?_
  refine W_condT rfl ?_
  refine W_skip ?_
  refine thenN ?_
  refine W_seq ?_
  refine W_block ?_
  refine W_seq ?_
  refine W_region ?_
  refine wl_q (r_idxA 1 _ arr202 agg32 rfl rfl (by decide) (by decide) rfl rfl) rfl rfl ?_
  refine wl_alloc zero32 M24 rfl rfl (fun b25 w25 M25 => ?_)
  refine wl_stW 10 _ agg32 M25 rfl rfl rfl rfl rfl (ones_of rfl) rfl (fun w26 M26 => ?_)
  refine wl_nil ?_
  refine thenN ?_
  refine W_draw [(0, 0), (1, 1), (2, 1), (3, 1), (5, 1), (4, 2), (6, 2)] mixed rfl (by kernel_rfl) (fun w27 hb27 hh27 => ?_)
  have M27 := M26.drew hb27 hh27
  refine D_p rfl rfl rfl (fun _ => r_move (.func _ _ _) rfl) ?_
  refine D_r rfl rfl rfl (r_ldW 0 agg32 M27 rfl rfl rfl) ?_
  refine D_r rfl rfl rfl (r_ldW 1 agg32 M27 rfl rfl rfl) ?_
  refine D_r rfl rfl rfl (r_ldW 10 agg32 M27 rfl rfl rfl) ?_
  refine D_r rfl rfl rfl (r_ldW 10 agg32 M27 rfl rfl rfl) ?_
  refine D_e [false, true, true, true] rfl (by kernel_rfl) ?_
  refine wl_cal cal135 rfl rfl rfl ?_
  refine (point_Nearest _ ap aq bq h1 h2.hq).mono ?_
  rintro _ w28 ⟨v28, rfl, ⟨rfl, hb28⟩⟩
  refine ⟨_, rfl, ?_⟩
  have M28 := M27.callB hb28
  refine wl_nil (thenN ⟨(alC (Yl_of rfl (r_ldW 10 agg32 M28 rfl rfl rfl)) alN), ?_⟩)
  refine D_e [true] rfl (by kernel_rfl) ?_
  refine wl_cal cal134 rfl rfl rfl ?_
  refine (choose1 _ s (nearest ap aq bq) bq _ _ _ (nearest_in h1) h2.hq (M28.ownSeg 4 3)).mono ?_
  rintro _ w29 ⟨v29, rfl, ⟨rfl, hM29⟩⟩
  refine ⟨_, rfl, ?_⟩
  have M29 : Mem _ _ [_, _, _, _, _, _, _, _, _, _, _] _ := M28.seg 4 3 hM29
  obtain ⟨s, hs⟩ : ∃ z, z = chStep s (nearest ap aq bq) bq := ⟨_, rfl⟩
  rw [← hs] at M29
  replace hC := hC.step (x := (nearest ap aq bq)) (y := bq) (nearest_in h1) h2.hq
  rw [← hs] at hC
  replace hS := hs.trans (congrArg (fun z => chStep z (nearest ap aq bq) bq) hS)
  refine wl_nil (thenN ⟨alN, ?_⟩)
  refine D_nil ?_
  refine blkN ?_
  refine thenN ?_
  refine W_region ?_
  refine wl_q (r_add rfl rfl (by omega) (by omega)) rfl rfl ?_
  refine wl_re 44 (.int .i64 2) (iE (by omega)) ?_
  refine wl_q (r_move (.int _ _) rfl) rfl rfl ?_
  refine wl_nil ?_
  refine thenN (Wr_s ?_)
  refine W_seq ?_
  refine W_region ?_
  refine wl_q (r_bin (.bool (decide _)) rfl rfl rfl) rfl rfl ?_
  refine wl_re 35 (.bool false) (bF (by omega)).symm ?_
  refine wl_nil ?_
  refine thenN ?_
  refine W_seq ?_
  refine W_condF rfl ?_
  refine W_exit ?_
  refine thenX ?_
  refine thenX ?_
  refine blkH ?_
  refine thenN ?_
  refine W_seq ?_
  refine W_draw [(0, 1), (1, 1), (2, 1), (3, 2), (4, 2), (5, 2)] mixed rfl (by kernel_rfl) (fun w30 hb30 hh30 => ?_)
  have M30 := M29.drew hb30 hh30
  refine D_r rfl rfl rfl (r_ldW 4 agg32 M30 rfl rfl rfl) ?_
  refine D_r rfl rfl rfl (r_ldW 5 agg32 M30 rfl rfl rfl) ?_
  refine D_r rfl rfl rfl (r_ld 6 (.int _ _) one145 M30 rfl rfl rfl) ?_
  refine D_e [false, false, true] rfl (by kernel_rfl) ?_
  refine wl_stW 4 _ agg32 M30 rfl rfl rfl rfl rfl (ones_of rfl) rfl (fun w31 M31 => ?_)
  refine wl_nil (thenN ⟨(alC (Yl_of rfl (r_ld 6 (.int _ _) one145 M31 rfl rfl rfl)) (alC (Yl_of rfl (r_ldW 5 agg32 M31 rfl rfl rfl)) alN)), ?_⟩)
  refine D_e [false, true] rfl (by kernel_rfl) ?_
  refine wl_stW 5 _ agg32 M31 rfl rfl rfl rfl rfl (ones_of rfl) rfl (fun w32 M32 => ?_)
  refine wl_nil (thenN ⟨(alC (Yl_of rfl (r_ld 6 (.int _ _) one145 M32 rfl rfl rfl)) alN), ?_⟩)
  refine D_e [true] rfl (by kernel_rfl) ?_
  refine wl_st 6 (.int _ _) one145 M32 rfl rfl rfl rfl rfl rfl (fun w33 M33 => ?_)
  refine wl_nil (thenN ⟨alN, ?_⟩)
  refine D_nil ?_
  refine thenN ?_
  refine W_ret ?_
  skip
  refine finCC1 4 5 6 agg32 one145 M33 rfl rfl rfl rfl rfl rfl rfl rfl ?_
  exact ⟨by rw [show s = chosen ap aq bp bq from hS], M33.below⟩

set_option maxHeartbeats 4000000 in
theorem seg_Chosen (w : World) (ap aq bp bq : Pt) (h1 : SgI ap aq) (h2 : SgI bp bq) :
    Calls Tryd.prog 107 #[(.agg (vecCells ap).toArray), (.agg (vecCells aq).toArray), (.agg (vecCells bp).toArray), (.agg (vecCells bq).toArray)] w (fun ex w' => ∃ v, ex = .returned v ∧ (fun v w' => v = .tuple #[(.agg (vecCells (chosen ap aq bp bq).1).toArray), (.agg (vecCells (chosen ap aq bp bq).2.1).toArray)] ∧ Below w.heap.size w w') v w') := by
  refine calls_of_W #[.cell 8 32, .cell 9 32] 21 Tryd.func107 rfl Tryd.results107 Tryd.ntmps107 rfl ?_
  have M0 := Mem.refl w
  refine W_seq ?_
  refine W_region ?_
  refine wl_box (.agg (List.toArray _)) M0 rfl rfl rfl (fun b1 w1 M1 => ?_)
  refine wl_box (.agg (List.toArray _)) M1 rfl rfl rfl (fun b2 w2 M2 => ?_)
  refine wl_box (.agg (List.toArray _)) M2 rfl rfl rfl (fun b3 w3 M3 => ?_)
  refine wl_box (.agg (List.toArray _)) M3 rfl rfl rfl (fun b4 w4 M4 => ?_)
  refine wl_alloc zero32 M4 rfl rfl (fun b5 w5 M5 => ?_)
  refine wl_alloc zero32 M5 rfl rfl (fun b6 w6 M6 => ?_)
  refine wl_nil ?_
  refine thenN ?_
  refine W_seq ?_
  refine W_region ?_
  refine wl_q (r_ldW 0 agg32 M6 rfl rfl rfl) rfl rfl ?_
  refine wl_q (r_ldW 1 agg32 M6 rfl rfl rfl) rfl rfl ?_
  refine wl_q (r_ldW 2 agg32 M6 rfl rfl rfl) rfl rfl ?_
  refine wl_q (r_ldW 3 agg32 M6 rfl rfl rfl) rfl rfl ?_
  refine wl_cal cal129 rfl rfl rfl ?_
  refine (seg_choose _ ap aq bp bq h1 h2).mono ?_
  rintro _ w7 ⟨v7, rfl, ⟨rfl, hb7⟩⟩
  refine ⟨_, rfl, ?_⟩
  have M7 := M6.callB hb7
  refine wl_q (r_move (.tuple (List.toArray _)) rfl) rfl rfl ?_
  refine wl_q (r_ext (.agg (List.toArray _)) rfl rfl) rfl rfl ?_
  refine wl_q (r_ext (.agg (List.toArray _)) rfl rfl) rfl rfl ?_
  refine wl_q (r_ext (.int _ _) rfl rfl) rfl rfl ?_
  refine wl_stW 4 _ agg32 M7 rfl rfl rfl rfl rfl (ones_of rfl) rfl (fun w8 M8 => ?_)
  refine wl_stW 5 _ agg32 M8 rfl rfl rfl rfl rfl (ones_of rfl) rfl (fun w9 M9 => ?_)
  refine wl_nil ?_
  refine thenN ?_
  refine W_seq ?_
  refine W_draw [(0, 1), (1, 1), (2, 2), (3, 2)] mixed rfl (by kernel_rfl) (fun w10 hb10 hh10 => ?_)
  have M10 := M9.drew hb10 hh10
  refine D_r rfl rfl rfl (r_ldW 4 agg32 M10 rfl rfl rfl) ?_
  refine D_r rfl rfl rfl (r_ldW 5 agg32 M10 rfl rfl rfl) ?_
  refine D_e [false, true] rfl (by kernel_rfl) ?_
  refine wl_stW 4 _ agg32 M10 rfl rfl rfl rfl rfl (ones_of rfl) rfl (fun w11 M11 => ?_)
  refine wl_nil (thenN ⟨(alC (Yl_of rfl (r_ldW 5 agg32 M11 rfl rfl rfl)) alN), ?_⟩)
  refine D_e [true] rfl (by kernel_rfl) ?_
  refine wl_stW 5 _ agg32 M11 rfl rfl rfl rfl rfl (ones_of rfl) rfl (fun w12 M12 => ?_)
  refine wl_nil (thenN ⟨alN, ?_⟩)
  refine D_nil ?_
  refine thenN ?_
  refine W_ret ?_
  skip
  refine finCC 4 5 agg32 M12 rfl rfl rfl rfl rfl rfl ?_
  exact ⟨rfl, M12.below⟩

end Go.Proofs.YtkegiinlfmlhlaaDoor

/- Walks of Go functions over the frame of this claim: what each computes, for every input of the stated types (W6). -/
set_option linter.unusedVariables false
set_option linter.unusedSimpArgs false
set_option linter.unnecessarySimpa false
namespace Go.Proofs.YtkegiinlfmlhlaaDoor
open Go.Bil
open Go.RowKit (Below)
open Go.Proofs

set_option maxHeartbeats 4000000 in
theorem solidOf (w : World) (b : Body) (hb : Okb b) :
    Calls Tryd.prog 106 #[(.agg (bodyCells b).toArray)] w (fun ex w' => ∃ v, ex = .returned v ∧ (fun v w' => v = (.agg (solidCells b).toArray) ∧ Below w.heap.size w w') v w') := by
  refine calls_of_W #[.cell 2 140] 14 Tryd.func106 rfl Tryd.results106 Tryd.ntmps106 rfl ?_
  have M0 := Mem.refl w
  refine W_seq ?_
  refine W_region ?_
  refine wl_box (.agg (List.toArray _)) M0 rfl rfl rfl (fun b1 w1 M1 => ?_)
  refine wl_alloc zero140 M1 rfl rfl (fun b2 w2 M2 => ?_)
  refine wl_nil ?_
  refine thenN ?_
  refine W_seq ?_
  refine W_region ?_
  refine wl_q (r_ldW 0 agg34 M2 rfl rfl rfl) rfl rfl ?_
  refine wl_cal cal128 rfl rfl rfl ?_
  refine (body_Ends _ b hb).mono ?_
  rintro _ w3 ⟨v3, rfl, ⟨rfl, hb3⟩⟩
  refine ⟨_, rfl, ?_⟩
  have M3 := M2.callB hb3
  refine wl_q (r_move (.tuple (List.toArray _)) rfl) rfl rfl ?_
  refine wl_q (r_ext (.agg (List.toArray _)) rfl rfl) rfl rfl ?_
  refine wl_q (r_ext (.agg (List.toArray _)) rfl rfl) rfl rfl ?_
  refine wl_alloc zero32 M3 rfl rfl (fun b4 w4 M4 => ?_)
  refine wl_alloc zero32 M4 rfl rfl (fun b5 w5 M5 => ?_)
  refine wl_stW 2 _ agg32 M5 rfl rfl rfl rfl rfl (ones_of rfl) rfl (fun w6 M6 => ?_)
  refine wl_stW 3 _ agg32 M6 rfl rfl rfl rfl rfl (ones_of rfl) rfl (fun w7 M7 => ?_)
  refine wl_nil ?_
  refine thenN ?_
  refine W_seq ?_
  refine W_region ?_
  refine wl_q (r_ldW 0 agg34 M7 rfl rfl rfl) rfl rfl ?_
  refine wl_q (r_ldW 2 agg32 M7 rfl rfl rfl) rfl rfl ?_
  refine wl_q (r_ldW 3 agg32 M7 rfl rfl rfl) rfl rfl ?_
  refine wl_q (r_build [(0, .agg (List.toArray _)), (1, .agg (List.toArray _)), (2, .agg (List.toArray _))] _ struct140 rfl rfl) rfl rfl ?_
  refine wl_stW 1 _ agg140 M7 rfl rfl rfl rfl rfl (ones_of rfl) rfl (fun w8 M8 => ?_)
  refine wl_nil ?_
  refine thenN ?_
  refine W_ret ?_
  skip
  refine finC1 1 agg140 M8 rfl rfl rfl ?_
  exact ⟨rfl, M8.below⟩

set_option maxHeartbeats 4000000 in
theorem inOrder (w : World) (a b : Body) (ha : Okb a) (hb : Okb b) :
    Calls Tryd.prog 80 #[(.agg (bodyCells a).toArray), (.agg (bodyCells b).toArray)] w (fun ex w' => ∃ v, ex = .returned v ∧ (fun v w' => v = .tuple #[(.agg (solidCells (loB a b)).toArray), (.agg (solidCells (hiB a b)).toArray)] ∧ Below w.heap.size w w') v w') := by
  refine calls_of_W #[.cell 4 140, .cell 5 140] 17 Tryd.func80 rfl Tryd.results80 Tryd.ntmps80 rfl ?_
  have M0 := Mem.refl w
  refine W_seq ?_
  refine W_region ?_
  refine wl_box (.agg (List.toArray _)) M0 rfl rfl rfl (fun b1 w1 M1 => ?_)
  refine wl_box (.agg (List.toArray _)) M1 rfl rfl rfl (fun b2 w2 M2 => ?_)
  refine wl_alloc zero140 M2 rfl rfl (fun b3 w3 M3 => ?_)
  refine wl_alloc zero140 M3 rfl rfl (fun b4 w4 M4 => ?_)
  refine wl_nil ?_
  refine thenN ?_
  refine W_seq ?_
  refine W_seq ?_
  refine W_region ?_
  refine wl_q (r_fieldAddr 0 fld34_0 rfl) rfl rfl ?_
  refine wl_q (r_ld 0 (.int _ _) one30 M4 rfl rfl rfl) rfl rfl ?_
  refine wl_q (r_fieldAddr 0 fld34_0 rfl) rfl rfl ?_
  refine wl_q (r_ld 1 (.int _ _) one30 M4 rfl rfl rfl) rfl rfl ?_
  refine wl_q (r_bin (.bool (decide _)) rfl rfl rfl) rfl rfl ?_
  refine wl_nil ?_
  refine thenN ?_
  refine W_condD rfl (fun h10 => ?_) (fun h10 => ?_)
  · skip
    refine W_region ?_
    refine wl_q (r_ldW 1 agg34 M4 rfl rfl rfl) rfl rfl ?_
    refine wl_q (r_ldW 0 agg34 M4 rfl rfl rfl) rfl rfl ?_
    refine wl_stW 0 _ agg34 M4 rfl rfl rfl rfl rfl (ones_of rfl) rfl (fun w5 M5 => ?_)
    refine wl_stW 1 _ agg34 M5 rfl rfl rfl rfl rfl (ones_of rfl) rfl (fun w6 M6 => ?_)
    refine wl_nil ?_
    refine thenN ?_
    refine W_seq ?_
    refine W_draw [(0, 1), (2, 1), (1, 2), (3, 2), (4, 2), (5, 2)] mixed rfl (by kernel_rfl) (fun w7 hb7 hh7 => ?_)
    have M7 := M6.drew hb7 hh7
    refine D_r rfl rfl rfl (r_ldW 0 agg34 M7 rfl rfl rfl) ?_
    refine D_r rfl rfl rfl (r_ldW 1 agg34 M7 rfl rfl rfl) ?_
    refine D_e [false, true] rfl (by kernel_rfl) ?_
    refine wl_cal cal106 rfl rfl rfl ?_
    refine (solidOf _ b hb).mono ?_
    rintro _ w8 ⟨v8, rfl, ⟨rfl, hb8⟩⟩
    refine ⟨_, rfl, ?_⟩
    have M8 := M7.callB hb8
    refine wl_nil (thenN ⟨(alC (Yl_of rfl (r_ldW 1 agg34 M8 rfl rfl rfl)) alN), ?_⟩)
    refine D_e [true] rfl (by kernel_rfl) ?_
    refine wl_cal cal106 rfl rfl rfl ?_
    refine (solidOf _ a ha).mono ?_
    rintro _ w9 ⟨v9, rfl, ⟨rfl, hb9⟩⟩
    refine ⟨_, rfl, ?_⟩
    have M9 := M8.callB hb9
    refine wl_nil (thenN ⟨alN, ?_⟩)
    refine D_e [] rfl (by kernel_rfl) ?_
    refine wl_stW 2 _ agg140 M9 rfl rfl rfl rfl rfl (ones_of rfl) rfl (fun w10 M10 => ?_)
    refine wl_nil (thenN ⟨alN, ?_⟩)
    refine D_e [] rfl (by kernel_rfl) ?_
    refine wl_stW 3 _ agg140 M10 rfl rfl rfl rfl rfl (ones_of rfl) rfl (fun w11 M11 => ?_)
    refine wl_nil (thenN ⟨alN, ?_⟩)
    refine D_nil ?_
    refine thenN ?_
    refine W_ret ?_
    skip
    refine finCC 2 3 agg140 M11 rfl rfl rfl rfl rfl rfl ?_
    exact ⟨by unfold loB hiB; first | rw [if_pos (by omega), if_pos (by omega)] | rw [if_neg (by omega), if_neg (by omega)], M11.below⟩
  · skip
    refine W_skip ?_
    refine thenN ?_
    refine W_seq ?_
    refine W_draw [(0, 1), (2, 1), (1, 2), (3, 2), (4, 2), (5, 2)] mixed rfl (by kernel_rfl) (fun w12 hb12 hh12 => ?_)
    have M12 := M4.drew hb12 hh12
    refine D_r rfl rfl rfl (r_ldW 0 agg34 M12 rfl rfl rfl) ?_
    refine D_r rfl rfl rfl (r_ldW 1 agg34 M12 rfl rfl rfl) ?_
    refine D_e [false, true] rfl (by kernel_rfl) ?_
    refine wl_cal cal106 rfl rfl rfl ?_
    refine (solidOf _ a ha).mono ?_
    rintro _ w13 ⟨v13, rfl, ⟨rfl, hb13⟩⟩
    refine ⟨_, rfl, ?_⟩
    have M13 := M12.callB hb13
    refine wl_nil (thenN ⟨(alC (Yl_of rfl (r_ldW 1 agg34 M13 rfl rfl rfl)) alN), ?_⟩)
    refine D_e [true] rfl (by kernel_rfl) ?_
    refine wl_cal cal106 rfl rfl rfl ?_
    refine (solidOf _ b hb).mono ?_
    rintro _ w14 ⟨v14, rfl, ⟨rfl, hb14⟩⟩
    refine ⟨_, rfl, ?_⟩
    have M14 := M13.callB hb14
    refine wl_nil (thenN ⟨alN, ?_⟩)
    refine D_e [] rfl (by kernel_rfl) ?_
    refine wl_stW 2 _ agg140 M14 rfl rfl rfl rfl rfl (ones_of rfl) rfl (fun w15 M15 => ?_)
    refine wl_nil (thenN ⟨alN, ?_⟩)
    refine D_e [] rfl (by kernel_rfl) ?_
    refine wl_stW 3 _ agg140 M15 rfl rfl rfl rfl rfl (ones_of rfl) rfl (fun w16 M16 => ?_)
    refine wl_nil (thenN ⟨alN, ?_⟩)
    refine D_nil ?_
    refine thenN ?_
    refine W_ret ?_
    skip
    refine finCC 2 3 agg140 M16 rfl rfl rfl rfl rfl rfl ?_
    exact ⟨by unfold loB hiB; first | rw [if_pos (by omega), if_pos (by omega)] | rw [if_neg (by omega), if_neg (by omega)], M16.below⟩

set_option maxHeartbeats 4000000 in
theorem measure (w : World) (a b : Body) (ha : Okb a) (hb : Okb b) :
    Calls Tryd.prog 81 #[(.agg (solidCells a).toArray), (.agg (solidCells b).toArray)] w (fun ex w' => ∃ v, ex = .returned v ∧ (fun v w' => v = .tuple #[.int .i64 (chDx (chB a b)), .int .i64 (chDy (chB a b)), .int .i64 (a.radius + b.radius)] ∧ Below w.heap.size w w') v w') := by
  have hra := ha.r
  have hrb := hb.r
  have hch := chB_in ha hb
  refine calls_of_W #[.tmp 4, .tmp 5, .tmp 6] 38 Tryd.func81 rfl Tryd.results81 Tryd.ntmps81 rfl ?_
  have M0 := Mem.refl w
  refine W_seq ?_
  refine W_region ?_
  refine wl_box (.agg (List.toArray _)) M0 rfl rfl rfl (fun b1 w1 M1 => ?_)
  refine wl_box (.agg (List.toArray _)) M1 rfl rfl rfl (fun b2 w2 M2 => ?_)
  refine wl_q (r_assign (.int _ _) rfl) rfl rfl ?_
  refine wl_q (r_assign (.int _ _) rfl) rfl rfl ?_
  refine wl_q (r_assign (.int _ _) rfl) rfl rfl ?_
  refine wl_nil ?_
  refine thenN ?_
  refine W_seq ?_
  refine W_region ?_
  refine wl_q (r_fieldAddr 10 fld140_1 rfl) rfl rfl ?_
  refine wl_q (r_ldA 0 _ agg32 M2 rfl rfl rfl rfl) rfl rfl ?_
  refine wl_q (r_fieldAddr 12 fld140_2 rfl) rfl rfl ?_
  refine wl_q (r_ldA 0 _ agg32 M2 rfl rfl rfl rfl) rfl rfl ?_
  refine wl_q (r_fieldAddr 10 fld140_1 rfl) rfl rfl ?_
  refine wl_q (r_ldA 1 _ agg32 M2 rfl rfl rfl rfl) rfl rfl ?_
  refine wl_q (r_fieldAddr 12 fld140_2 rfl) rfl rfl ?_
  refine wl_q (r_ldA 1 _ agg32 M2 rfl rfl rfl rfl) rfl rfl ?_
  refine wl_cal cal107 rfl rfl rfl ?_
  refine (seg_Chosen _ (endP a) (endQ a) (endP b) (endQ b) (ends_in ha) (ends_in hb)).mono ?_
  rintro _ w3 ⟨v3, rfl, ⟨rfl, hb3⟩⟩
  refine ⟨_, rfl, ?_⟩
  have M3 := M2.callB hb3
  refine wl_q (r_move (.tuple (List.toArray _)) rfl) rfl rfl ?_
  refine wl_q (r_ext (.agg (List.toArray _)) rfl rfl) rfl rfl ?_
  refine wl_q (r_ext (.agg (List.toArray _)) rfl rfl) rfl rfl ?_
  refine wl_alloc zero32 M3 rfl rfl (fun b4 w4 M4 => ?_)
  refine wl_alloc zero32 M4 rfl rfl (fun b5 w5 M5 => ?_)
  refine wl_stW 2 _ agg32 M5 rfl rfl rfl rfl rfl (ones_of rfl) rfl (fun w6 M6 => ?_)
  refine wl_stW 3 _ agg32 M6 rfl rfl rfl rfl rfl (ones_of rfl) rfl (fun w7 M7 => ?_)
  refine wl_nil ?_
  refine thenN ?_
  refine W_seq ?_
  refine W_region ?_
  refine wl_q (r_ldW 2 agg32 M7 rfl rfl rfl) rfl rfl ?_
  refine wl_q (r_ldW 3 agg32 M7 rfl rfl rfl) rfl rfl ?_
  refine wl_cal cal108 rfl rfl rfl ?_
  refine (vec_Diff _ (chB a b).1 (chB a b).2.1 hch.a.i32 hch.b.i32).mono ?_
  rintro _ w8 ⟨v8, rfl, ⟨rfl, hb8⟩⟩
  refine ⟨_, rfl, ?_⟩
  have M8 := M7.callB hb8
  refine wl_q (r_move (.tuple (List.toArray _)) rfl) rfl rfl ?_
  refine wl_q (r_ext (.int _ _) rfl rfl) rfl rfl ?_
  refine wl_q (r_ext (.int _ _) rfl rfl) rfl rfl ?_
  refine wl_q (r_assign (.int _ _) rfl) rfl rfl ?_
  refine wl_q (r_assign (.int _ _) rfl) rfl rfl ?_
  refine wl_nil ?_
  refine thenN ?_
  refine W_seq ?_
  refine W_draw [(0, 0), (1, 0), (2, 0), (3, 0), (4, 1), (5, 0), (6, 0), (7, 0), (8, 1), (9, 0), (10, 0), (11, 0), (12, 0), (13, 0)] mixed rfl (by kernel_rfl) (fun w9 hb9 hh9 => ?_)
  have M9 := M8.drew hb9 hh9
  refine D_p rfl rfl rfl (fun _ => r_move (.int _ _) rfl) ?_
  refine D_p rfl rfl rfl (fun _ => r_move (.int _ _) rfl) ?_
  refine D_p rfl rfl rfl (fun _ => r_fieldAddr 0 fld140_0 rfl) ?_
  refine D_p rfl rfl rfl (fun _ => r_fieldAddr 1 fld34_1 rfl) ?_
  refine D_r rfl rfl rfl (r_ld 0 (.int _ _) one21 M9 rfl rfl rfl) ?_
  refine D_p rfl rfl rfl (fun _ => r_convK us21 Tryd.underlying2 rfl (w64 _ (by omega) (by omega))) ?_
  refine D_p rfl rfl rfl (fun _ => r_fieldAddr 0 fld140_0 rfl) ?_
  refine D_p rfl rfl rfl (fun _ => r_fieldAddr 1 fld34_1 rfl) ?_
  refine D_r rfl rfl rfl (r_ld 1 (.int _ _) one21 M9 rfl rfl rfl) ?_
  refine D_p rfl rfl rfl (fun _ => r_convK us21 Tryd.underlying2 rfl (w64 _ (by omega) (by omega))) ?_
  refine D_p rfl rfl rfl (fun _ => r_add rfl rfl (by omega) (by omega)) ?_
  refine D_p rfl rfl rfl (fun _ => r_assign (.int _ _) rfl) ?_
  refine D_p rfl rfl rfl (fun _ => r_assign (.int _ _) rfl) ?_
  refine D_p rfl rfl rfl (fun _ => r_assign (.int _ _) rfl) ?_
  refine D_nil ?_
  refine thenN ?_
  refine W_ret ?_
  skip
  refine fin3 (.int _ _) (.int _ _) (.int _ _) rfl rfl rfl ?_
  exact ⟨rfl, M9.below⟩

set_option maxHeartbeats 4000000 in
theorem contact_Of (w : World) (a b : Body) (ha : Okb a) (hb : Okb b) :
    Calls Tryd.prog 60 #[(.agg (bodyCells a).toArray), (.agg (bodyCells b).toArray)] w (fun ex w' => ∃ v, ex = .returned v ∧ (fun v w' => v = .tuple #[.agg (conO (conOf a b)).toArray, .bool (conOf a b).isSome] ∧ Below w.heap.size w w') v w') := by
  obtain ⟨hlo, hhi⟩ := loB_ok ha hb
  have hd := chB_d hlo hhi
  have hl := len_lt hd.1 hd.2
  have hss := sum_sq hlo hhi
  have hr1 := hlo.r
  have hr2 := hhi.r
  refine calls_of_W #[.cell 4 38, .tmp 5] 52 Tryd.func60 rfl Tryd.results60 Tryd.ntmps60 rfl ?_
  have M0 := Mem.refl w
  refine W_seq ?_
  refine W_region ?_
  refine wl_box (.agg (List.toArray _)) M0 rfl rfl rfl (fun b1 w1 M1 => ?_)
  refine wl_box (.agg (List.toArray _)) M1 rfl rfl rfl (fun b2 w2 M2 => ?_)
  refine wl_alloc zero38 M2 rfl rfl (fun b3 w3 M3 => ?_)
  refine wl_q (r_assign (.bool false) rfl) rfl rfl ?_
  refine wl_nil ?_
  refine thenN ?_
  refine W_seq ?_
  refine W_region ?_
  refine wl_q (r_ldW 0 agg34 M3 rfl rfl rfl) rfl rfl ?_
  refine wl_q (r_ldW 1 agg34 M3 rfl rfl rfl) rfl rfl ?_
  refine wl_cal cal80 rfl rfl rfl ?_
  refine (inOrder _ a b ha hb).mono ?_
  rintro _ w4 ⟨v4, rfl, ⟨rfl, hb4⟩⟩
  refine ⟨_, rfl, ?_⟩
  have M4 := M3.callB hb4
  refine wl_q (r_move (.tuple (List.toArray _)) rfl) rfl rfl ?_
  refine wl_q (r_ext (.agg (List.toArray _)) rfl rfl) rfl rfl ?_
  refine wl_q (r_ext (.agg (List.toArray _)) rfl rfl) rfl rfl ?_
  refine wl_alloc zero140 M4 rfl rfl (fun b5 w5 M5 => ?_)
  refine wl_alloc zero140 M5 rfl rfl (fun b6 w6 M6 => ?_)
  refine wl_stW 3 _ agg140 M6 rfl rfl rfl rfl rfl (ones_of rfl) rfl (fun w7 M7 => ?_)
  refine wl_stW 4 _ agg140 M7 rfl rfl rfl rfl rfl (ones_of rfl) rfl (fun w8 M8 => ?_)
  refine wl_nil ?_
  refine thenN ?_
  refine W_seq ?_
  refine W_region ?_
  refine wl_q (r_ldW 3 agg140 M8 rfl rfl rfl) rfl rfl ?_
  refine wl_q (r_ldW 4 agg140 M8 rfl rfl rfl) rfl rfl ?_
  refine wl_cal cal81 rfl rfl rfl ?_
  refine (measure _ (loB a b) (hiB a b) hlo hhi).mono ?_
  rintro _ w9 ⟨v9, rfl, ⟨rfl, hb9⟩⟩
  refine ⟨_, rfl, ?_⟩
  have M9 := M8.callB hb9
  refine wl_q (r_move (.tuple (List.toArray _)) rfl) rfl rfl ?_
  refine wl_q (r_ext (.int _ _) rfl rfl) rfl rfl ?_
  refine wl_q (r_ext (.int _ _) rfl rfl) rfl rfl ?_
  refine wl_q (r_ext (.int _ _) rfl rfl) rfl rfl ?_
  refine wl_q (r_assign (.int _ _) rfl) rfl rfl ?_
  refine wl_q (r_assign (.int _ _) rfl) rfl rfl ?_
  refine wl_q (r_assign (.int _ _) rfl) rfl rfl ?_
  refine wl_nil ?_
  refine thenN ?_
  refine W_seq ?_
  refine W_seq ?_
  refine W_region ?_
  refine wl_q (r_move (.int _ _) rfl) rfl rfl ?_
  refine wl_q (r_move (.int _ _) rfl) rfl rfl ?_
  refine wl_cal cal82 rfl rfl rfl ?_
  refine (vec_LengthSq _ (chDx (chB (loB a b) (hiB a b))) (chDy (chB (loB a b) (hiB a b))) hd.1 hd.2).mono ?_
  rintro _ w10 ⟨v10, rfl, ⟨rfl, hb10⟩⟩
  refine ⟨_, rfl, ?_⟩
  have M10 := M9.callB hb10
  refine wl_q (r_move (.int _ _) rfl) rfl rfl ?_
  refine wl_q (r_move (.int _ _) rfl) rfl rfl ?_
  refine wl_q (r_mul rfl rfl (by omega) (by omega)) rfl rfl ?_
  refine wl_q (r_conv us2 Tryd.underlying145 rfl) rfl rfl ?_
  refine wl_re 31 (.int .u64 ((((loB a b).radius + (hiB a b).radius).natAbs * ((loB a b).radius + (hiB a b).radius).natAbs : Nat) : Int)) (iE (sq_cast _ hss)) ?_
  refine wl_q (r_bin (.bool (decide _)) rfl rfl rfl) rfl rfl ?_
  refine wl_nil ?_
  refine thenN ?_
  refine W_condD rfl (fun h32 => ?_) (fun h32 => ?_)
  · skip
    refine W_seq ?_
    refine W_region ?_
    refine wl_q (r_build [] _ struct38 rfl rfl) rfl rfl ?_
    refine wl_stW 2 _ agg38 M10 rfl rfl rfl rfl rfl (ones_of rfl) rfl (fun w11 M11 => ?_)
    refine wl_q (r_assign (.bool false) rfl) rfl rfl ?_
    refine wl_nil ?_
    refine thenN ?_
    refine W_ret ?_
    refine thenR ?_
    skip
    refine finC2 (v2 := .bool false) 2 agg38 M11 rfl rfl rfl rfl ?_
    exact ⟨by rw [conOf_lo]; unfold conLow; first | (rw [if_pos (by omega)]; rfl) | (rw [if_neg (by omega)]; rfl), M11.below⟩
  · skip
    refine W_skip ?_
    refine thenN ?_
    refine W_seq ?_
    refine W_region ?_
    refine wl_q (r_fieldAddr 0 fld140_0 rfl) rfl rfl ?_
    refine wl_q (r_fieldAddr 0 fld34_0 rfl) rfl rfl ?_
    refine wl_q (r_ld 3 (.int _ _) one30 M10 rfl rfl rfl) rfl rfl ?_
    refine wl_q (r_fieldAddr 0 fld140_0 rfl) rfl rfl ?_
    refine wl_q (r_fieldAddr 0 fld34_0 rfl) rfl rfl ?_
    refine wl_q (r_ld 4 (.int _ _) one30 M10 rfl rfl rfl) rfl rfl ?_
    refine wl_q (r_build [(0, .int _ _), (1, .int _ _)] _ struct36 rfl rfl) rfl rfl ?_
    refine wl_alloc zero36 M10 rfl rfl (fun b12 w12 M12 => ?_)
    refine wl_stW 5 _ agg36 M12 rfl rfl rfl rfl rfl (ones_of rfl) rfl (fun w13 M13 => ?_)
    refine wl_nil ?_
    refine thenN ?_
    refine W_seq ?_
    refine W_draw [(0, 1), (1, 0), (2, 0), (4, 0), (5, 0), (6, 0), (3, 2), (7, 2), (8, 0), (9, 0), (10, 0), (11, 2), (12, 0)] mixed rfl (by kernel_rfl) (fun w14 hb14 hh14 => ?_)
    have M14 := M13.drew hb14 hh14
    refine D_r rfl rfl rfl (r_ldW 5 agg36 M14 rfl rfl rfl) ?_
    refine D_p rfl rfl rfl (fun _ => r_move (.int _ _) rfl) ?_
    refine D_p rfl rfl rfl (fun _ => r_move (.int _ _) rfl) ?_
    refine D_p rfl rfl rfl (fun _ => r_move (.int _ _) rfl) ?_
    refine D_p rfl rfl rfl (fun _ => r_move (.int _ _) rfl) ?_
    refine D_p rfl rfl rfl (fun _ => r_move (.int _ _) rfl) ?_
    refine D_e [false] rfl (by kernel_rfl) ?_
    refine wl_cal cal83 rfl rfl rfl ?_
    refine (vec_Unit _ (chDx (chB (loB a b) (hiB a b))) (chDy (chB (loB a b) (hiB a b))) hd.1 hd.2).mono ?_
    rintro _ w15 ⟨v15, rfl, ⟨rfl, hb15⟩⟩
    refine ⟨_, rfl, ?_⟩
    have M15 := M14.callB hb15
    refine wl_nil (thenN ⟨(alC (Yl_of rfl (r_ldW 5 agg36 M15 rfl rfl rfl)) alN), ?_⟩)
    refine D_e [false] rfl (by kernel_rfl) ?_
    refine wl_cal cal84 rfl rfl rfl ?_
    refine (vec_Length _ (chDx (chB (loB a b) (hiB a b))) (chDy (chB (loB a b) (hiB a b))) hd.1 hd.2).mono ?_
    rintro _ w16 ⟨v16, rfl, ⟨rfl, hb16⟩⟩
    refine ⟨_, rfl, ?_⟩
    have M16 := M15.callB hb16
    refine wl_nil (thenN ⟨(alC (Yl_of rfl (r_ldW 5 agg36 M16 rfl rfl rfl)) alN), ?_⟩)
    refine D_p rfl rfl rfl (fun _ => r_sub rfl rfl (by omega) (by omega)) ?_
    refine D_p rfl rfl rfl (fun _ => r_conv us2 Tryd.underlying21 rfl) ?_
    refine D_p rfl rfl rfl (fun _ => r_build [(0, .agg (List.toArray _)), (1, .agg (List.toArray _)), (2, .int _ _)] _ struct38 rfl rfl) ?_
    refine D_e [true] rfl (by kernel_rfl) ?_
    refine wl_stW 2 _ agg38 M16 rfl rfl rfl rfl rfl (ones_of rfl) rfl (fun w17 M17 => ?_)
    refine wl_nil (thenN ⟨alN, ?_⟩)
    refine D_p rfl rfl rfl (fun _ => r_assign (.bool true) rfl) ?_
    refine D_nil ?_
    refine thenN ?_
    refine W_ret ?_
    skip
    refine finC2 (v2 := .bool true) 2 agg38 M17 rfl rfl rfl rfl ?_
    exact ⟨by rw [conOf_lo]; unfold conLow; first | (rw [if_pos (by omega)]; rfl) | (rw [if_neg (by omega)]; rfl), M17.below⟩

end Go.Proofs.YtkegiinlfmlhlaaDoor
