/- Part of the proof of the laws of this seat: B8, C9. No conditions. -/
import Derived.Test.YtjbhobahebebkaaDoorK5
import Derived.Test.YtjbhobahebebkaaDoorK6
import Derived.Test.YtjbhobahebebkaaDoorK11
/- Walks of Go functions over the frame of this claim: what each computes, for every input of the stated types (B8). -/
set_option linter.unusedVariables false
set_option linter.unusedSimpArgs false
set_option linter.unnecessarySimpa false
namespace Go.Proofs.YtjbhobahebebkaaDoor
open Go.Bil
open Go.RowKit (Below)
open Go.Proofs

set_option maxHeartbeats 4000000 in
theorem box_Empty (w : World) (a : Bx) :
    Calls Tryd.prog 81 #[(.agg (bxCells a).toArray)] w (fun ex w' => ∃ v, ex = .returned v ∧ (fun v w' => v = .bool (decide (emptyB a)) ∧ Below w.heap.size w w') v w') := by
  refine calls_of_W #[.tmp 2] 15 Tryd.func81 rfl Tryd.results81 Tryd.ntmps81 rfl ?_
  have M0 := Mem.refl w
  refine W_seq ?_
  refine W_region ?_
  refine wl_box (.agg (List.toArray _)) M0 rfl rfl rfl (fun b1 w1 M1 => ?_)
  refine wl_q (r_assign (.bool false) rfl) rfl rfl ?_
  refine wl_nil ?_
  refine thenN ?_
  refine W_seq ?_
  refine W_region ?_
  refine wl_q (r_fieldAddr 0 fld56_0 rfl) rfl rfl ?_
  refine wl_q (r_ld 0 (.int _ _) one21 M1 rfl rfl rfl) rfl rfl ?_
  refine wl_q (r_fieldAddr 2 fld56_2 rfl) rfl rfl ?_
  refine wl_q (r_ld 0 (.int _ _) one21 M1 rfl rfl rfl) rfl rfl ?_
  refine wl_q (r_bin (.bool (decide _)) rfl rfl rfl) rfl rfl ?_
  refine wl_q (r_move (.bool (decide _)) rfl) rfl rfl ?_
  refine wl_splitD 8 rfl (fun g8 => ?_) (fun g8 => ?_)
  · skip
    refine wl_skip rfl rfl ?_
    refine wl_skip rfl rfl ?_
    refine wl_skip rfl rfl ?_
    refine wl_skip rfl rfl ?_
    refine wl_skip rfl rfl ?_
    refine wl_q (r_pick true (.bool true) rfl rfl) rfl rfl ?_
    refine wl_q (r_assign (.bool true) rfl) rfl rfl ?_
    refine wl_nil ?_
    refine thenN ?_
    refine W_ret ?_
    skip
    refine fin1 (.bool true) rfl ?_
    exact ⟨by unfold emptyB; first | exact bT (by omega) | exact bD (by omega), M1.below⟩
  · skip
    refine wl_q (r_fieldAddr 1 fld56_1 rfl) rfl rfl ?_
    refine wl_q (r_ld 0 (.int _ _) one21 M1 rfl rfl rfl) rfl rfl ?_
    refine wl_q (r_fieldAddr 3 fld56_3 rfl) rfl rfl ?_
    refine wl_q (r_ld 0 (.int _ _) one21 M1 rfl rfl rfl) rfl rfl ?_
    refine wl_q (r_bin (.bool (decide _)) rfl rfl rfl) rfl rfl ?_
    refine wl_q (r_pick false (.bool (decide _)) rfl rfl) rfl rfl ?_
    refine wl_q (r_assign (.bool (decide _)) rfl) rfl rfl ?_
    refine wl_nil ?_
    refine thenN ?_
    refine W_ret ?_
    skip
    refine fin1 (.bool (decide _)) rfl ?_
    exact ⟨by unfold emptyB; first | exact bT (by omega) | exact bD (by omega), M1.below⟩

set_option maxHeartbeats 4000000 in
theorem ref08_Empty (w : World) (a : Bx) :
    Calls Tryd.prog 38 #[(.agg (bxCells a).toArray)] w (fun ex w' => ∃ v, ex = .returned v ∧ (fun v w' => v = .bool (decide (emptyB a)) ∧ Below w.heap.size w w') v w') := by
  refine calls_of_W #[.tmp 2] 15 Tryd.func38 rfl Tryd.results38 Tryd.ntmps38 rfl ?_
  have M0 := Mem.refl w
  refine W_seq ?_
  refine W_region ?_
  refine wl_box (.agg (List.toArray _)) M0 rfl rfl rfl (fun b1 w1 M1 => ?_)
  refine wl_q (r_assign (.bool false) rfl) rfl rfl ?_
  refine wl_nil ?_
  refine thenN ?_
  refine W_seq ?_
  refine W_region ?_
  refine wl_q (r_fieldAddr 0 fld47_0 rfl) rfl rfl ?_
  refine wl_q (r_ld 0 (.int _ _) one21 M1 rfl rfl rfl) rfl rfl ?_
  refine wl_q (r_fieldAddr 2 fld47_2 rfl) rfl rfl ?_
  refine wl_q (r_ld 0 (.int _ _) one21 M1 rfl rfl rfl) rfl rfl ?_
  refine wl_q (r_bin (.bool (decide _)) rfl rfl rfl) rfl rfl ?_
  refine wl_q (r_move (.bool (decide _)) rfl) rfl rfl ?_
  refine wl_splitD 8 rfl (fun g8 => ?_) (fun g8 => ?_)
  · skip
    refine wl_skip rfl rfl ?_
    refine wl_skip rfl rfl ?_
    refine wl_skip rfl rfl ?_
    refine wl_skip rfl rfl ?_
    refine wl_skip rfl rfl ?_
    refine wl_q (r_pick true (.bool true) rfl rfl) rfl rfl ?_
    refine wl_q (r_assign (.bool true) rfl) rfl rfl ?_
    refine wl_nil ?_
    refine thenN ?_
    refine W_ret ?_
    skip
    refine fin1 (.bool true) rfl ?_
    exact ⟨by unfold emptyB; first | exact bT (by omega) | exact bD (by omega), M1.below⟩
  · skip
    refine wl_q (r_fieldAddr 1 fld47_1 rfl) rfl rfl ?_
    refine wl_q (r_ld 0 (.int _ _) one21 M1 rfl rfl rfl) rfl rfl ?_
    refine wl_q (r_fieldAddr 3 fld47_3 rfl) rfl rfl ?_
    refine wl_q (r_ld 0 (.int _ _) one21 M1 rfl rfl rfl) rfl rfl ?_
    refine wl_q (r_bin (.bool (decide _)) rfl rfl rfl) rfl rfl ?_
    refine wl_q (r_pick false (.bool (decide _)) rfl rfl) rfl rfl ?_
    refine wl_q (r_assign (.bool (decide _)) rfl) rfl rfl ?_
    refine wl_nil ?_
    refine thenN ?_
    refine W_ret ?_
    skip
    refine fin1 (.bool (decide _)) rfl ?_
    exact ⟨by unfold emptyB; first | exact bT (by omega) | exact bD (by omega), M1.below⟩

end Go.Proofs.YtjbhobahebebkaaDoor

/- Walks of Go functions over the frame of this claim: what each computes, for every input of the stated types (C9). -/
set_option linter.unusedVariables false
set_option linter.unusedSimpArgs false
set_option linter.unnecessarySimpa false
namespace Go.Proofs.YtjbhobahebebkaaDoor
open Go.Bil
open Go.RowKit (Below)
open Go.Proofs

set_option maxHeartbeats 4000000 in
theorem cell_Of (w : World) (x y : Int) :
    Calls Tryd.prog 33 #[.agg [.int .i32 x, .int .i32 y].toArray] w (fun ex w' => ∃ v, ex = .returned v ∧ (fun v w' => v = (.agg (cellCells (cdiv x, cdiv y)).toArray) ∧ Below w.heap.size w w') v w') := by
  refine calls_of_W #[.cell 2 73] 10 Tryd.func33 rfl Tryd.results33 Tryd.ntmps33 rfl ?_
  have M0 := Mem.refl w
  refine W_seq ?_
  refine W_region ?_
  refine wl_box (.agg (List.toArray _)) M0 rfl rfl rfl (fun b1 w1 M1 => ?_)
  refine wl_alloc zero73 M1 rfl rfl (fun b2 w2 M2 => ?_)
  refine wl_nil ?_
  refine thenN ?_
  refine W_seq ?_
  refine W_region ?_
  refine wl_q (r_fieldAddr 0 fld24_0 rfl) rfl rfl ?_
  refine wl_q (r_ld 0 (.int _ _) one21 M2 rfl rfl rfl) rfl rfl ?_
  refine wl_q (r_shr rfl rfl (by decide)) rfl rfl ?_
  refine wl_re 5 (.int .i32 (cdiv x)) (iE (shr22 x)) ?_
  refine wl_q (r_fieldAddr 1 fld24_1 rfl) rfl rfl ?_
  refine wl_q (r_ld 0 (.int _ _) one21 M2 rfl rfl rfl) rfl rfl ?_
  refine wl_q (r_shr rfl rfl (by decide)) rfl rfl ?_
  refine wl_re 8 (.int .i32 (cdiv y)) (iE (shr22 y)) ?_
  refine wl_q (r_build [(0, .int _ _), (1, .int _ _)] _ struct73 rfl rfl) rfl rfl ?_
  refine wl_stW 1 _ agg73 M2 rfl rfl rfl rfl rfl (ones_of rfl) rfl (fun w3 M3 => ?_)
  refine wl_nil ?_
  refine thenN ?_
  refine W_ret ?_
  skip
  refine finC1 1 agg73 M3 rfl rfl rfl ?_
  exact ⟨rfl, M3.below⟩

set_option maxHeartbeats 4000000 in
theorem cell_Span (w : World) (a : Bx) :
    Calls Tryd.prog 66 #[(.agg (bxCells a).toArray)] w (fun ex w' => ∃ v, ex = .returned v ∧ (fun v w' => v = .tuple #[(.agg (cellCells (loC a)).toArray), (.agg (cellCells (hiC a)).toArray), .bool (decide (¬ emptyB a))] ∧ Below w.heap.size w w') v w') := by
  refine calls_of_W #[.cell 2 73, .cell 3 73, .tmp 4] 21 Tryd.func66 rfl Tryd.results66 Tryd.ntmps66 rfl ?_
  have M0 := Mem.refl w
  refine W_seq ?_
  refine W_region ?_
  refine wl_box (.agg (List.toArray _)) M0 rfl rfl rfl (fun b1 w1 M1 => ?_)
  refine wl_alloc zero73 M1 rfl rfl (fun b2 w2 M2 => ?_)
  refine wl_alloc zero73 M2 rfl rfl (fun b3 w3 M3 => ?_)
  refine wl_q (r_assign (.bool false) rfl) rfl rfl ?_
  refine wl_nil ?_
  refine thenN ?_
  refine W_seq ?_
  refine W_seq ?_
  refine W_region ?_
  refine wl_q (r_ldW 0 agg56 M3 rfl rfl rfl) rfl rfl ?_
  refine wl_cal cal81 rfl rfl rfl ?_
  refine (box_Empty _ a).mono ?_
  rintro _ w4 ⟨v4, rfl, ⟨rfl, hb4⟩⟩
  refine ⟨_, rfl, ?_⟩
  have M4 := M3.callB hb4
  refine wl_nil ?_
  refine thenN ?_
  refine W_condD rfl (fun h6 => ?_) (fun h6 => ?_)
  · skip
    refine W_seq ?_
    refine W_draw [(0, 1), (1, 1), (2, 2), (3, 2), (4, 0)] mixed rfl (by kernel_rfl) (fun w5 hb5 hh5 => ?_)
    have M5 := M4.drew hb5 hh5
    refine D_r rfl rfl rfl (r_ldW 1 agg73 M5 rfl rfl rfl) ?_
    refine D_r rfl rfl rfl (r_ldW 2 agg73 M5 rfl rfl rfl) ?_
    refine D_e [false, true] rfl (by kernel_rfl) ?_
    refine wl_stW 1 _ agg73 M5 rfl rfl rfl rfl rfl (ones_of rfl) rfl (fun w6 M6 => ?_)
    refine wl_nil (thenN ⟨(alC (Yl_of rfl (r_ldW 2 agg73 M6 rfl rfl rfl)) alN), ?_⟩)
    refine D_e [true] rfl (by kernel_rfl) ?_
    refine wl_stW 2 _ agg73 M6 rfl rfl rfl rfl rfl (ones_of rfl) rfl (fun w7 M7 => ?_)
    refine wl_nil (thenN ⟨alN, ?_⟩)
    refine D_p rfl rfl rfl (fun _ => r_assign (.bool false) rfl) ?_
    refine D_nil ?_
    refine thenN ?_
    refine W_ret ?_
    refine thenR ?_
    skip
    refine finC3 (v3 := .bool false) 1 2 agg73 M7 rfl rfl rfl rfl rfl rfl rfl ?_
    exact ⟨by unfold loC hiC; rw [if_pos h6, if_pos h6, decide_eq_false (fun h => h h6)]; rfl, M7.below⟩
  · skip
    refine W_skip ?_
    refine thenN ?_
    refine W_seq ?_
    refine W_draw [(0, 0), (1, 1), (2, 0), (3, 1), (4, 0), (6, 0), (7, 1), (8, 0), (9, 1), (10, 0), (5, 2), (11, 2), (12, 2), (13, 2), (14, 0)] mixed rfl (by kernel_rfl) (fun w8 hb8 hh8 => ?_)
    have M8 := M4.drew hb8 hh8
    refine D_p rfl rfl rfl (fun _ => r_fieldAddr 0 fld56_0 rfl) ?_
    refine D_r rfl rfl rfl (r_ld 0 (.int _ _) one21 M8 rfl rfl rfl) ?_
    refine D_p rfl rfl rfl (fun _ => r_fieldAddr 1 fld56_1 rfl) ?_
    refine D_r rfl rfl rfl (r_ld 0 (.int _ _) one21 M8 rfl rfl rfl) ?_
    refine D_p rfl rfl rfl (fun _ => r_build [(0, .int _ _), (1, .int _ _)] _ struct24 rfl rfl) ?_
    refine D_p rfl rfl rfl (fun _ => r_fieldAddr 2 fld56_2 rfl) ?_
    refine D_r rfl rfl rfl (r_ld 0 (.int _ _) one21 M8 rfl rfl rfl) ?_
    refine D_p rfl rfl rfl (fun _ => r_fieldAddr 3 fld56_3 rfl) ?_
    refine D_r rfl rfl rfl (r_ld 0 (.int _ _) one21 M8 rfl rfl rfl) ?_
    refine D_p rfl rfl rfl (fun _ => r_build [(0, .int _ _), (1, .int _ _)] _ struct24 rfl rfl) ?_
    refine D_e [false, false, true, true] rfl (by kernel_rfl) ?_
    refine wl_cal cal33 rfl rfl rfl ?_
    refine (cell_Of _ a.x0 a.y0).mono ?_
    rintro _ w9 ⟨v9, rfl, ⟨rfl, hb9⟩⟩
    refine ⟨_, rfl, ?_⟩
    have M9 := M8.callB hb9
    refine wl_nil (thenN ⟨(alC (Yl_of rfl (r_ld 0 (.int _ _) one21 M9 rfl rfl rfl)) (alC (Yl_of rfl (r_ld 0 (.int _ _) one21 M9 rfl rfl rfl)) alN)), ?_⟩)
    refine D_e [true, true] rfl (by kernel_rfl) ?_
    refine wl_cal cal33 rfl rfl rfl ?_
    refine (cell_Of _ a.x1 a.y1).mono ?_
    rintro _ w10 ⟨v10, rfl, ⟨rfl, hb10⟩⟩
    refine ⟨_, rfl, ?_⟩
    have M10 := M9.callB hb10
    refine wl_nil (thenN ⟨alN, ?_⟩)
    refine D_e [] rfl (by kernel_rfl) ?_
    refine wl_stW 1 _ agg73 M10 rfl rfl rfl rfl rfl (ones_of rfl) rfl (fun w11 M11 => ?_)
    refine wl_nil (thenN ⟨alN, ?_⟩)
    refine D_e [] rfl (by kernel_rfl) ?_
    refine wl_stW 2 _ agg73 M11 rfl rfl rfl rfl rfl (ones_of rfl) rfl (fun w12 M12 => ?_)
    refine wl_nil (thenN ⟨alN, ?_⟩)
    refine D_p rfl rfl rfl (fun _ => r_assign (.bool true) rfl) ?_
    refine D_nil ?_
    refine thenN ?_
    refine W_ret ?_
    skip
    refine finC3 (v3 := .bool true) 1 2 agg73 M12 rfl rfl rfl rfl rfl rfl rfl ?_
    exact ⟨by unfold loC hiC; rw [if_neg h6, if_neg h6, decide_eq_true h6], M12.below⟩

set_option maxHeartbeats 4000000 in
theorem cell_cells (w : World) (a : Bx) :
    Calls Tryd.prog 50 #[(.agg (bxCells a).toArray)] w (fun ex w' => ∃ v, ex = .returned v ∧ (fun v w' => ∃ b1 b2 b3, v = .func (.func 67) #[] #[.pointer (some ⟨b1, 0, none⟩), .pointer (some ⟨b2, 0, none⟩), .pointer (some ⟨b3, 0, none⟩)] ∧ Mem w [] [(some b1, bc (cellCells (loC a)) 73), (some b3, bc (cellCells (hiC a)) 73), (some b2, bc [.bool (decide (¬ emptyB a))] 4)] w') v w') := by
  refine calls_of_W #[.tmp 2] 13 Tryd.func50 rfl Tryd.results50 Tryd.ntmps50 rfl ?_
  have M0 := Mem.refl w
  refine W_seq ?_
  refine W_region ?_
  refine wl_box (.agg (List.toArray _)) M0 rfl rfl rfl (fun b1 w1 M1 => ?_)
  refine wl_q (r_assign (_) rfl) rfl rfl ?_
  refine wl_nil ?_
  refine thenN ?_
  refine W_seq ?_
  refine W_region ?_
  refine wl_q (r_ldW 0 agg56 M1 rfl rfl rfl) rfl rfl ?_
  refine wl_cal cal66 rfl rfl rfl ?_
  refine (cell_Span _ a).mono ?_
  rintro _ w2 ⟨v2, rfl, ⟨rfl, hb2⟩⟩
  refine ⟨_, rfl, ?_⟩
  have M2 := M1.callB hb2
  refine wl_q (r_move (.tuple (List.toArray _)) rfl) rfl rfl ?_
  refine wl_q (r_ext (.agg (List.toArray _)) rfl rfl) rfl rfl ?_
  refine wl_q (r_ext (.agg (List.toArray _)) rfl rfl) rfl rfl ?_
  refine wl_q (r_ext (.bool (decide _)) rfl rfl) rfl rfl ?_
  refine wl_alloc zero73 M2 rfl rfl (fun b3 w3 M3 => ?_)
  refine wl_alloc zero73 M3 rfl rfl (fun b4 w4 M4 => ?_)
  refine wl_alloc zero4 M4 rfl rfl (fun b5 w5 M5 => ?_)
  refine wl_stW 1 _ agg73 M5 rfl rfl rfl rfl rfl (ones_of rfl) rfl (fun w6 M6 => ?_)
  refine wl_stW 2 _ agg73 M6 rfl rfl rfl rfl rfl (ones_of rfl) rfl (fun w7 M7 => ?_)
  refine wl_st 3 (.bool (decide _)) one4 M7 rfl rfl rfl rfl rfl rfl (fun w8 M8 => ?_)
  refine wl_nil ?_
  refine thenN ?_
  refine W_seq ?_
  refine W_region ?_
  refine wl_q (r_makeFuncV [] [.pointer _, .pointer _, .pointer _] rfl rfl) rfl rfl ?_
  refine wl_q (r_assign (.func _ _ _) rfl) rfl rfl ?_
  refine wl_nil ?_
  refine thenN ?_
  refine W_ret ?_
  skip
  refine fin1 (.func _ _ _) rfl ?_
  exact ⟨b3, b5, b4, rfl, M8.keep [false, true, true, true]⟩

set_option maxHeartbeats 4000000 in
theorem cell_cells1 (w : World) (lo hi : Int × Int) (ok : Bool) (b1 b2 b3 : Nat) (L1 : Rd w 2 (some ⟨b1, 0, none⟩) 1 [cellCells lo]) (L2 : Rd w 1 (some ⟨b2, 0, none⟩) 1 [[.bool ok]]) (L3 : Rd w 2 (some ⟨b3, 0, none⟩) 1 [cellCells hi]) (hlo : Okc lo) (hhi : Okc hi) (lp ob : Nat) (rec : Loop) (hY : YieldApp Tryd.prog lp ob rec 81 73 2 1048576 (fun x => ∃ a b, x = [.int .i32 a, .int .i32 b])) (r0 : Row) (hr0 : RowIs 73 2 r0.A r0.n r0.c [] r0.e) (hO : Own [(some lp, .loop rec), (some ob, bc [.slice r0.A r0.n r0.c] 81), r0.e] w) (hd1 : 0 < 1 → ∀ q off, (some ⟨b1, 0, none⟩ : Option Addr) = some ⟨q, off, none⟩ → q ∉ blks [(some lp, .loop rec), (some ob, bc [.slice r0.A r0.n r0.c] 81), r0.e]) (hd2 : 0 < 1 → ∀ q off, (some ⟨b2, 0, none⟩ : Option Addr) = some ⟨q, off, none⟩ → q ∉ blks [(some lp, .loop rec), (some ob, bc [.slice r0.A r0.n r0.c] 81), r0.e]) (hd3 : 0 < 1 → ∀ q off, (some ⟨b3, 0, none⟩ : Option Addr) = some ⟨q, off, none⟩ → q ∉ blks [(some lp, .loop rec), (some ob, bc [.slice r0.A r0.n r0.c] 81), r0.e]) :
    Calls Tryd.prog 67 #[.func (.yield lp) #[] #[], .pointer (some ⟨b1, 0, none⟩), .pointer (some ⟨b2, 0, none⟩), .pointer (some ⟨b3, 0, none⟩)] w (fun ex w' => ∃ v, ex = .returned v ∧ (fun v w' => v = .tuple #[] ∧ ∃ r : Row, RowIs 73 2 r.A r.n r.c ((cellsL ok lo hi).map cellCells) r.e ∧ Mem w (blks [(some lp, .loop rec), (some ob, bc [.slice r0.A r0.n r0.c] 81), r0.e]) [(some lp, .loop rec), (some ob, bc [.slice r.A r.n r.c] 81), r.e] w') v w') := by
  rw [← elt_zero b1, ← elt_zero b2, ← elt_zero b3]
  have hxd : nX lo hi = (hi.1 - lo.1 + 1).toNat := rfl
  have hyd : nY lo hi = (hi.2 - lo.2 + 1).toNat := rfl
  have hlx := hlo.x
  have hly := hlo.y
  have hhx := hhi.x
  have hhy := hhi.y
  have hnx := nX_le hlo hhi
  have hny := nY_le hlo hhi
  refine calls_of_W #[] 32 Tryd.func67 rfl Tryd.results67 Tryd.ntmps67 rfl ?_
  have M0 := hO.mem
  refine W_seq ?_
  refine W_region ?_
  refine wl_q (r_fieldAddrE 1 fld73_1 (L1.memY M0 hd1) (Nat.lt_of_le_of_lt (Nat.zero_le _) ((L1.memY M0 hd1).below_len (show ([cellCells lo] : List (List Value))[0]? = some (cellCells lo) from rfl))) rfl) rfl rfl ?_
  refine wl_q (r_ldE (o := 1) (.int _ _) one21 (L1.memY M0 hd1) (show ([cellCells lo] : List (List Value))[0]? = some (cellCells lo) from rfl) rfl rfl) rfl rfl ?_
  refine wl_q (r_assign (.int _ _) rfl) rfl rfl ?_
  refine wl_nil ?_
  refine thenN ?_
  refine W_block ?_
  refine W_loop (σ := Nat × Row) [0, 1, 2, 3] (fun (j, r) => [(5, .int .i32 (lo.2 + (j : Int)))]) (fun (j, r) w' => (j ≤ nY lo hi ∧ (ok = false → j = 0) ∧ RowIs 73 2 r.A r.n r.c ((rowsC lo hi j).map cellCells) r.e) ∧ Mem w (blks [(some lp, .loop rec), (some ob, bc [.slice r0.A r0.n r0.c] 81), r0.e]) [(some lp, .loop rec), (some ob, bc [.slice r.A r.n r.c] 81), r.e] w') (fun (j, r) => nY lo hi - j) (0, r0) (agC (iv rfl (by simp)) agN) (⟨⟨by omega, fun _ => rfl, hr0⟩, M0⟩) ?_
  rintro ⟨j, r⟩ ρ1 w1 ⟨⟨hj, hjz, hr⟩, hM1⟩
  refine W_seq ?_
  refine W_seq ?_
  refine W_region ?_
  refine wl_q (r_ldE (o := 0) (.bool _) one4 (L2.memY hM1 hd2) (show ([[.bool ok]] : List (List Value))[0]? = some ([.bool ok]) from rfl) rfl rfl) rfl rfl ?_
  refine wl_q (r_move (.bool _) rfl) rfl rfl ?_
  refine wl_split 10 _ rfl (fun g10 => ?_) (fun g10 => ?_)
  · skip
    refine wl_q (r_move (.int _ _) rfl) rfl rfl ?_
    refine wl_q (r_fieldAddrE 1 fld73_1 (L3.memY hM1 hd3) (Nat.lt_of_le_of_lt (Nat.zero_le _) ((L3.memY hM1 hd3).below_len (show ([cellCells hi] : List (List Value))[0]? = some (cellCells hi) from rfl))) rfl) rfl rfl ?_
    refine wl_q (r_ldE (o := 1) (.int _ _) one21 (L3.memY hM1 hd3) (show ([cellCells hi] : List (List Value))[0]? = some (cellCells hi) from rfl) rfl rfl) rfl rfl ?_
    refine wl_q (r_bin (.bool (decide _)) rfl rfl rfl) rfl rfl ?_
    refine wl_q (r_pick true (.bool (decide _)) rfl rfl) rfl rfl ?_
    refine wl_nil ?_
    refine thenN ?_
    refine W_condD rfl (fun h15 => ?_) (fun h15 => ?_)
    · skip
      refine W_skip ?_
      refine thenN ?_
      refine W_seq ?_
      refine W_block ?_
      refine W_seq ?_
      refine W_region ?_
      refine wl_q (r_fieldAddrE 0 fld73_0 (L1.memY hM1 hd1) (Nat.lt_of_le_of_lt (Nat.zero_le _) ((L1.memY hM1 hd1).below_len (show ([cellCells lo] : List (List Value))[0]? = some (cellCells lo) from rfl))) rfl) rfl rfl ?_
      refine wl_q (r_ldE (o := 0) (.int _ _) one21 (L1.memY hM1 hd1) (show ([cellCells lo] : List (List Value))[0]? = some (cellCells lo) from rfl) rfl rfl) rfl rfl ?_
      refine wl_q (r_assign (.int _ _) rfl) rfl rfl ?_
      refine wl_nil ?_
      refine thenN ?_
      refine W_block ?_
      refine W_loop (σ := Nat × Row) [0, 1, 2, 3, 5] (fun (i, q0) => [(6, .int .i32 (lo.1 + (i : Int)))]) (fun (i, q0) w' => (i ≤ nX lo hi ∧ RowIs 73 2 q0.A q0.n q0.c ((rowsC lo hi j ++ rowC lo i j).map cellCells) q0.e) ∧ Mem w (blks [(some lp, .loop rec), (some ob, bc [.slice r0.A r0.n r0.c] 81), r0.e]) [(some lp, .loop rec), (some ob, bc [.slice q0.A q0.n q0.c] 81), q0.e] w') (fun (i, q0) => nX lo hi - i) (0, r) (agC (iv rfl (by simp)) agN) (⟨⟨by omega, by simpa [rowC] using hr⟩, hM1⟩) ?_
      rintro ⟨i, q0⟩ ρ2 w2 ⟨⟨hi2, hq0⟩, hM2⟩
      have hql : (rowsC lo hi j).length + i = q0.n := by simpa [rowC_len] using hq0.1
      refine W_seq ?_
      refine W_seq ?_
      refine W_region ?_
      refine wl_q (r_move (.int _ _) rfl) rfl rfl ?_
      refine wl_q (r_fieldAddrE 0 fld73_0 (L3.memY hM2 hd3) (Nat.lt_of_le_of_lt (Nat.zero_le _) ((L3.memY hM2 hd3).below_len (show ([cellCells hi] : List (List Value))[0]? = some (cellCells hi) from rfl))) rfl) rfl rfl ?_
      refine wl_q (r_ldE (o := 0) (.int _ _) one21 (L3.memY hM2 hd3) (show ([cellCells hi] : List (List Value))[0]? = some (cellCells hi) from rfl) rfl rfl) rfl rfl ?_
      refine wl_q (r_bin (.bool (decide _)) rfl rfl rfl) rfl rfl ?_
      refine wl_nil ?_
      refine thenN ?_
      refine W_condD rfl (fun h23 => ?_) (fun h23 => ?_)
      · skip
        have hlt6 := rowsC_lt (lo := lo) (hi := hi) (i := i) (j := j) hnx (by omega) (by omega)
        refine W_skip ?_
        refine thenN ?_
        refine W_seq ?_
        refine W_block ?_
        refine W_seq ?_
        refine W_regionY ?_
        refine wlY_q (r_move (.func _ _ _) rfl) rfl rfl ?_
        refine wlY_q (r_move (.int _ _) rfl) rfl rfl ?_
        refine wlY_q (r_move (.int _ _) rfl) rfl rfl ?_
        refine wlY_q (r_build [(0, .int _ _), (1, .int _ _)] _ struct73 rfl rfl) rfl rfl ?_
        obtain ⟨fy, ty, ay, by1, hy1, hy2⟩ := hY _ q0 ((rowsC lo hi j ++ rowC lo i j).map cellCells) (cellCells (lo.1 + (i : Int), lo.2 + (j : Int))) ⟨_, _, rfl⟩ (by omega) hq0 (hM2.ownSeg 0 3)
        refine wlY_yield rfl rfl rfl rfl hy1 (hy2.mono ?_)
        rintro _ w3 ⟨rfl, q3, hqn3, hq3, hM3⟩
        have M3 : Mem _ _ [_, _, _] _ := hM2.seg 0 3 hM3
        refine ⟨_, rfl, ?_⟩
        refine wlY_of rfl (fun _ _ h => h) ?_
        refine wl_q (r_notB false rfl rfl) rfl rfl ?_
        refine wl_nil ?_
        refine thenN ?_
        refine W_condF rfl ?_
        refine W_skip ?_
        refine blkN ?_
        refine thenN ?_
        refine W_region ?_
        refine wl_q (r_move (.int _ _) rfl) rfl rfl ?_
        refine wl_q (r_addK rfl rfl (wr32 _ (by omega) (by omega))) rfl rfl ?_
        refine wl_q (r_assign (.int _ _) rfl) rfl rfl ?_
        refine wl_nil ?_
        refine roundN (i + 1, q3) (agC (iv rfl (by omega)) agN) (akC rfl (akC rfl (akC rfl (akC rfl (akC rfl akN))))) ?_ ?_
        · exact ⟨⟨by omega, by rw [rowC_succ, ← List.append_assoc, List.map_append]; exact hq3⟩, M3⟩
        · (show nX lo hi - (i + 1) < nX lo hi - i; omega)
      · skip
        have hix : i = nX lo hi := by omega
        refine W_exit ?_
        refine thenX ?_
        refine roundX ?_
        refine blkH ?_
        refine blkN ?_
        refine thenN ?_
        refine W_region ?_
        refine wl_q (r_move (.int _ _) rfl) rfl rfl ?_
        refine wl_q (r_addK rfl rfl (wr32 _ (by omega) (by omega))) rfl rfl ?_
        refine wl_q (r_assign (.int _ _) rfl) rfl rfl ?_
        refine wl_nil ?_
        refine roundN (j + 1, q0) (agC (iv rfl (by omega)) agN) (akC rfl (akC rfl (akC rfl (akC rfl akN)))) ?_ ?_
        · exact ⟨⟨by omega, fun h => (by rw [g10] at h; cases h), by rw [rowsC_succ, ← hix]; exact hq0⟩, hM2⟩
        · (show nY lo hi - (j + 1) < nY lo hi - j; omega)
    · skip
      refine W_exit ?_
      refine thenX ?_
      refine roundX ?_
      refine blkH ?_
      refine fin0n ?_
      exact ⟨rfl, r, by unfold cellsL; first | (rw [if_pos g10, show nY lo hi = j by omega]; exact hr) | (rw [if_neg (by rw [g10]; decide)]; rw [hjz g10] at hr; exact hr), hM1⟩
  · skip
    refine wl_skip rfl rfl ?_
    refine wl_skip rfl rfl ?_
    refine wl_skip rfl rfl ?_
    refine wl_skip rfl rfl ?_
    refine wl_q (r_pick false (.bool false) rfl rfl) rfl rfl ?_
    refine wl_nil ?_
    refine thenN ?_
    refine W_condF rfl ?_
    refine W_exit ?_
    refine thenX ?_
    refine roundX ?_
    refine blkH ?_
    refine fin0n ?_
    exact ⟨rfl, r, by unfold cellsL; first | (rw [if_pos g10, show nY lo hi = j by omega]; exact hr) | (rw [if_neg (by rw [g10]; decide)]; rw [hjz g10] at hr; exact hr), hM1⟩

set_option maxHeartbeats 4000000 in
theorem cell_All (w : World) (a : Bx) (ha : Okx a) :
    Calls Tryd.prog 39 #[(.agg (bxCells a).toArray)] w (fun ex w' => ∃ v, ex = .returned v ∧ (fun v w' => ∃ r : Row, v = .slice r.A r.n r.c ∧ RowIs 73 2 r.A r.n r.c ((cellsB a).map cellCells) r.e ∧ Mem w [] [r.e] w') v w') := by
  refine calls_of_W2 #[.tmp 2] 13 Tryd.func39 rfl Tryd.results39 Tryd.ntmps39 rfl ?_
  have M0 := Mem.refl w
  refine W2_seq ?_
  refine W2_region0 ?_
  refine wl_box (.agg (List.toArray _)) M0 rfl rfl rfl (fun b1 w1 M1 => ?_)
  refine wl_q (r_assign (.slice _ _ _) rfl) rfl rfl ?_
  refine wl_nil ?_
  refine then2N ?_
  refine W2_seq ?_
  refine W2_region0 ?_
  refine wl_alloc zero81 M1 rfl rfl (fun b2 w2 M2 => ?_)
  refine wl_nil ?_
  refine then2N ?_
  refine W2_seq ?_
  refine W2_seq ?_
  refine W2_region0 ?_
  refine wl_q (r_ldW 0 agg56 M2 rfl rfl rfl) rfl rfl ?_
  refine wl_cal cal50 rfl rfl rfl ?_
  refine (cell_cells _ a).mono ?_
  rintro _ w3 ⟨v3, rfl, ⟨bl, bk, bh, rfl, hM3⟩⟩
  refine ⟨_, rfl, ?_⟩
  have M3 : Mem _ _ [_, _, _, _, _] _ := M2.call0 hM3
  refine wl_nil ?_
  refine then2N ?_
  refine W2_block ?_
  have M4 : Mem _ _ [_, _, _, _, _] _ := ((M3.keep [false, true, true, true, true]).dummy default).perm (List.Perm.cons _ (List.perm_append_comm (l₁ := [_, _, _]) (l₂ := [_])))
  refine W2_range cal67 M4 rfl (fun fnn B lp tmps w1 hρ hn M1 => ?_)
  refine with_yield (P := Tryd.prog) (ob := b2) (Tsl := 81) (Te := 73) (sz := 2) (N := 1048576) (ok := (fun x => ∃ a b, x = [.int .i32 a, .int .i32 b])) M1 ?_ (fun hY => ?_)
  · skip
    intro wr r ls x hok hlt hrow hO
    obtain ⟨xa, xb, rfl⟩ := hok
    refine ⟨_, _, _, _, round_go hO rfl rfl rfl hn (by decide) hρ ?_⟩
    have MR0 := hO.mem
    refine WR_region rfl (fun _ _ h => nomatch h.1) ?_
    refine wl_alloc zero73 MR0 rfl rfl (fun b5 w5 M5 => ?_)
    refine wl_stW 3 _ agg73 M5 rfl rfl rfl rfl rfl (ones_of rfl) rfl (fun w6 M6 => ?_)
    refine wl_nil ?_
    refine ⟨rfl, _, M6, rfl, fun w7 M7 => ?_⟩
    refine WR_block ?_
    refine WR_region rfl (fun _ _ h => nomatch h.1) ?_
    refine wl_q (r_ld 1 (.slice _ _ _) one81 M7 rfl rfl rfl) rfl rfl ?_
    refine wl_q (r_ldW 3 agg73 M7 rfl rfl rfl) rfl rfl ?_
    refine wl_bslice [.agg (List.toArray _)] [[.int .i32 xa, .int .i32 xb]] rfl sl81 M7 rfl rfl rfl rfl (lens_of rfl) (by decide) (fun b8 w8 M8 => ?_)
    refine wl_append 2 [[.int .i32 xa, .int .i32 xb]] sl81 M8 rfl rfl rfl rfl rfl hrow rfl (by simp [Go.Bil.one]) (Cells.ofMem 4 M8 rfl) (by omega) (fun A9 c9 e9 w9 M9 hR9 => ?_)
    refine wl_st 1 (.slice _ _ _) one81 M9 rfl rfl rfl rfl rfl rfl (fun w10 M10 => ?_)
    refine wl_nil ?_
    refine blkN ?_
    refine ⟨rfl, _, M10, rfl, fun w11 M11 => ?_⟩
    exact ⟨⟨A9, r.n + 1, c9, e9⟩, rfl, hR9, M11.keep [true, true, true, false, false]⟩
  · skip
    refine (cell_cells1 _ (loC a) (hiC a) _ bl bk bh (rdOf 3 M1 rfl rfl) (rdOf 5 M1 rfl rfl) (rdOf 4 M1 rfl rfl) (loC_ok ha) (hiC_ok ha) lp b2 _ hY ⟨none, 0, 0, (none, default)⟩ (RowIs.nil _ _ _) (M1.ownSeg 0 3) (M1.apartTake 3 3 rfl rfl) (M1.apartTake 3 5 rfl rfl) (M1.apartTake 3 4 rfl rfl)).mono ?_
    rintro _ w5 ⟨v5, rfl, rfl, r, hr, hM⟩
    have M5 : Mem _ _ (_ :: [_, _, _, _, _, _]) _ := M1.seg 0 3 hM
    refine ⟨_, rfl, _, M5, fun w6 M6 => ?_⟩
    refine blk2N ?_
    refine then2N ?_
    refine W2_seq ?_
    refine W2_region ?_
    refine wl2_q (r_ld 1 (.slice _ _ _) one81 M6 rfl rfl rfl) rfl rfl ?_
    refine wl2_q (r_assign (.slice _ _ _) rfl) rfl rfl ?_
    refine wl2_nil ?_
    refine then2N ?_
    refine W2_ret ?_
    skip
    refine fin1M (i := 6) (.slice _ _ _) rfl M6 rfl (fun w9 M9 => ?_)
    exact ⟨r, rfl, hr, M9.keep [false, false, true, false, false, false, false]⟩

set_option maxHeartbeats 4000000 in
theorem cell_Bucket (w : World) (F : Rd w 2 (some ⟨0, 0, none⟩) 1 [[.int .u32 73856093, .int .u32 19349663]]) (c : Int × Int) :
    Calls Tryd.prog 32 #[(.agg (cellCells c).toArray)] w (fun ex w' => ∃ v, ex = .returned v ∧ (fun v w' => v = .int .i64 (bucketI c : Int) ∧ Below w.heap.size w w') v w') := by
  refine calls_of_W #[.tmp 2] 20 Tryd.func32 rfl Tryd.results32 Tryd.ntmps32 rfl ?_
  have M0 := Mem.refl w
  refine W_seq ?_
  refine W_region ?_
  refine wl_box (.agg (List.toArray _)) M0 rfl rfl rfl (fun b1 w1 M1 => ?_)
  refine wl_q (r_assign (.int _ _) rfl) rfl rfl ?_
  refine wl_nil ?_
  refine thenN ?_
  refine W_seq ?_
  refine W_region ?_
  refine wl_q (r_fieldAddr 0 fld73_0 rfl) rfl rfl ?_
  refine wl_q (r_ld 0 (.int _ _) one21 M1 rfl rfl rfl) rfl rfl ?_
  refine wl_q (r_conv us21 Tryd.underlying42 rfl) rfl rfl ?_
  refine wl_q (r_idxP (0) arr91 rfl rfl rfl (by decide)) rfl rfl ?_
  refine wl_q (r_ldE (k := 0) (o := 0) (.int _ _) one42 (F.mem M1) (show ([[.int .u32 73856093, .int .u32 19349663]] : List (List Value))[0]? = some [.int .u32 73856093, .int .u32 19349663] from rfl) rfl rfl) rfl rfl ?_
  refine wl_q (r_bin (.int _ _) rfl rfl rfl) rfl rfl ?_
  refine wl_q (r_fieldAddr 1 fld73_1 rfl) rfl rfl ?_
  refine wl_q (r_ld 0 (.int _ _) one21 M1 rfl rfl rfl) rfl rfl ?_
  refine wl_q (r_conv us21 Tryd.underlying42 rfl) rfl rfl ?_
  refine wl_q (r_idxP (1) arr91 rfl rfl rfl (by decide)) rfl rfl ?_
  refine wl_q (r_ldE (k := 0) (o := 1) (.int _ _) one42 (F.mem M1) (show ([[.int .u32 73856093, .int .u32 19349663]] : List (List Value))[0]? = some [.int .u32 73856093, .int .u32 19349663] from rfl) rfl rfl) rfl rfl ?_
  refine wl_q (r_bin (.int _ _) rfl rfl rfl) rfl rfl ?_
  refine wl_q (r_bin (.int _ _) rfl rfl rfl) rfl rfl ?_
  refine wl_q (r_assign (.int _ _) rfl) rfl rfl ?_
  refine wl_nil ?_
  refine thenN ?_
  refine W_seq ?_
  refine W_region ?_
  refine wl_q (r_move (.int _ _) rfl) rfl rfl ?_
  refine wl_q (r_bin (.int _ _) rfl rfl rfl) rfl rfl ?_
  refine wl_re 18 (.int .u32 (bucketZ c)) rfl ?_
  refine wl_q (r_convK us42 Tryd.underlying3 rfl (w64 _ (by have := bucketZ_range c; omega) (by have := bucketZ_range c; omega))) rfl rfl ?_
  refine wl_q (r_assign (.int _ _) rfl) rfl rfl ?_
  refine wl_nil ?_
  refine thenN ?_
  refine W_ret ?_
  skip
  refine fin1 (.int _ _) rfl ?_
  exact ⟨iE (bucket_eq c), M1.below⟩

end Go.Proofs.YtjbhobahebebkaaDoor
