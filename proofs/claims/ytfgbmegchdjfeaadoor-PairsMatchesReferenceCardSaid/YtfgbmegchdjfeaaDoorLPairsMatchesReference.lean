/- Walks of Go functions over the frame of this claim: what each computes, for every input of the stated types (LPairsMatchesReference). -/
import Derived.Test.YtfgbmegchdjfeaaDoorTy
import Derived.Test.YtfgbmegchdjfeaaDoorAw11
set_option linter.unusedVariables false
set_option linter.unusedSimpArgs false
set_option linter.unnecessarySimpa false
namespace Go.Proofs.YtfgbmegchdjfeaaDoor
open Go.Bil
open Go.RowKit (Below)
open Go.Proofs

set_option maxHeartbeats 16000000 in
theorem law_PairsMatchesReference (w : World) (F : Rd w 2 (some ⟨0, 0, none⟩) 1 [[.int .u32 73856093, .int .u32 19349663]]) (N : Rd w 4 (some ⟨1, 0, none⟩) 1 [bxCells noneB]) (a : Bx) (key : Int) (A : Option Addr) (n c : Nat) (xs : List Body) (R : Rd w 10 A n (xs.map bodyCells)) :
    Calls Tryd.prog 3 #[.slice A n c, (.agg (bxCells a).toArray), .int .u32 key] w (fun ex w' => ∃ v, ex = .returned v ∧ (fun v w' => v = .bool true ∧ Below w.heap.size w w') v w') := by
  have hlen : xs.length = n := by simpa using R.len
  have hbd := R.bound
  refine calls_of_W #[.tmp 6] 60 Tryd.func3 rfl Tryd.results3 Tryd.ntmps3 rfl ?_
  have M0 := Mem.refl w
  refine W_seq ?_
  refine W_region ?_
  refine wl_box (.agg (List.toArray _)) M0 rfl rfl rfl (fun b1 w1 M1 => ?_)
  refine wl_q (r_assign (.bool false) rfl) rfl rfl ?_
  refine wl_nil ?_
  refine thenN ?_
  refine W_seq ?_
  refine W_region ?_
  refine wl_q (r_move (.slice _ _ _) rfl) rfl rfl ?_
  refine wl_cal cal10 rfl rfl rfl ?_
  refine (ref11_View _ _ _ _ xs (R.mem M1)).mono ?_
  rintro _ w2 ⟨v2, rfl, ⟨r, rfl, hr, hM2⟩⟩
  refine ⟨_, rfl, ?_⟩
  have M2 : Mem _ _ [_, _] _ := M1.call0 hM2
  refine wl_q (r_move (.tuple (List.toArray _)) rfl) rfl rfl ?_
  refine wl_q (r_ext (.slice _ _ _) rfl rfl) rfl rfl ?_
  refine wl_q (r_ext (.bool (decide _)) rfl rfl) rfl rfl ?_
  refine wl_q (r_assign (.slice _ _ _) rfl) rfl rfl ?_
  refine wl_q (r_assign (.bool (decide _)) rfl) rfl rfl ?_
  refine wl_nil ?_
  refine thenN ?_
  refine W_seq ?_
  refine W_seq ?_
  refine W_region ?_
  refine wl_cal cal11 rfl rfl rfl ?_
  refine (aw11 _ (F.mem M2) (N.mem M2)).mono ?_
  rintro _ w3 ⟨v3, rfl, ⟨rfl, hb3⟩⟩
  refine ⟨_, rfl, ?_⟩
  have M3 := M2.callB hb3
  refine wl_q (r_notB false rfl rfl) rfl rfl ?_
  refine wl_q (r_move (.bool false) rfl) rfl rfl ?_
  refine wl_q (r_move (.bool (decide _)) rfl) rfl rfl ?_
  refine wl_q (r_not rfl) rfl rfl ?_
  refine wl_q (r_pick false (.bool (decide _)) rfl rfl) rfl rfl ?_
  refine wl_nil ?_
  refine thenN ?_
  refine W_condD rfl (fun h22 => ?_) (fun h22 => ?_)
  · skip
    refine W_seq ?_
    refine W_region ?_
    refine wl_cal cal11 rfl rfl rfl ?_
    refine (aw11 _ (F.mem M3) (N.mem M3)).mono ?_
    rintro _ w4 ⟨v4, rfl, ⟨rfl, hb4⟩⟩
    refine ⟨_, rfl, ?_⟩
    have M4 := M3.callB hb4
    refine wl_q (r_assign (.bool true) rfl) rfl rfl ?_
    refine wl_nil ?_
    refine thenN ?_
    refine W_ret ?_
    refine thenR ?_
    skip
    refine fin1 (.bool true) rfl ?_
    exact ⟨rfl, M4.below⟩
  · skip
    obtain ⟨hV, hve, hvk⟩ := view_of (Decidable.not_not.1 h22)
    have hvl := hV.len
    have hrn : (viewL xs).length = r.n := by simpa using hr.1
    have hvs := hV.s
    have hvo := hV.okb
    refine W_skip ?_
    refine thenN ?_
    refine W_seq ?_
    refine W_region ?_
    refine wl_q (r_move (.slice _ _ _) rfl) rfl rfl ?_
    refine wl_cal cal12 rfl rfl rfl ?_
    refine (pairs_Find _ (F.mem M3) (N.mem M3) _ _ _ (viewL xs) (hr.rd M3 (nthMem (i := 1) rfl)) hvo hvs (by first | decide | omega)).mono ?_
    rintro _ w5 ⟨v5, rfl, ⟨r0, m0, rfl, hfm0, hgm0, hr0, hM5⟩⟩
    refine ⟨_, rfl, ?_⟩
    have M5 : Mem _ _ [_, _, _] _ := M3.call0 hM5
    refine wl_q (r_move (.tuple (List.toArray _)) rfl) rfl rfl ?_
    refine wl_q (r_ext (.slice _ _ _) rfl rfl) rfl rfl ?_
    refine wl_q (r_ext (.int _ _) rfl rfl) rfl rfl ?_
    refine wl_q (r_assign (.slice _ _ _) rfl) rfl rfl ?_
    refine wl_q (r_assign (.int _ _) rfl) rfl rfl ?_
    refine wl_nil ?_
    refine thenN ?_
    refine W_seq ?_
    refine W_region ?_
    refine wl_q (r_fieldAddr 0 fld24_0 rfl) rfl rfl ?_
    refine wl_q (r_ld 0 (.int _ _) one21 M5 rfl rfl rfl) rfl rfl ?_
    refine wl_q (r_fieldAddr 1 fld24_1 rfl) rfl rfl ?_
    refine wl_q (r_ld 0 (.int _ _) one21 M5 rfl rfl rfl) rfl rfl ?_
    refine wl_q (r_fieldAddr 2 fld24_2 rfl) rfl rfl ?_
    refine wl_q (r_ld 0 (.int _ _) one21 M5 rfl rfl rfl) rfl rfl ?_
    refine wl_q (r_fieldAddr 3 fld24_3 rfl) rfl rfl ?_
    refine wl_q (r_ld 0 (.int _ _) one21 M5 rfl rfl rfl) rfl rfl ?_
    refine wl_q (r_build [(0, .int _ _), (1, .int _ _), (2, .int _ _), (3, .int _ _)] _ struct32 rfl rfl) rfl rfl ?_
    refine wl_alloc zero32 M5 rfl rfl (fun b6 w6 M6 => ?_)
    refine wl_stW 3 _ agg32 M6 rfl rfl rfl rfl rfl (ones_of rfl) rfl (fun w7 M7 => ?_)
    refine wl_nil ?_
    refine thenN ?_
    refine W_seq ?_
    refine W_draw [(0, 0), (1, 0), (2, 2), (3, 2), (4, 0), (5, 0), (6, 1), (8, 0), (9, 1), (7, 2), (10, 2), (11, 2), (12, 0), (13, 0), (14, 0), (15, 0), (17, 0), (18, 0), (16, 2), (19, 2), (20, 0), (21, 0), (22, 0)] mixed rfl (by kernel_rfl) (fun w8 hb8 hh8 => ?_)
    have M8 := M7.drew hb8 hh8
    refine D_p rfl rfl rfl (fun _ => r_move (.slice _ _ _) rfl) ?_
    refine D_p rfl rfl rfl (fun _ => r_move (.slice _ _ _) rfl) ?_
    refine D_e [] rfl (by kernel_rfl) ?_
    refine wl_cal cal14 rfl rfl rfl ?_
    refine (ref11_Find _ _ _ _ (viewL xs) (hr.rd M8 (nthMem (i := 1) rfl)) hvo (by omega)).mono ?_
    rintro _ w9 ⟨v9, rfl, ⟨r2, rfl, hr2, hM9⟩⟩
    refine ⟨_, rfl, ?_⟩
    have M9 : Mem _ _ [_, _, _, _, _] _ := M8.call0 hM9
    refine wl_nil (thenN ⟨alN, ?_⟩)
    refine D_e [] rfl (by kernel_rfl) ?_
    refine wl_cal cal13 rfl rfl rfl ?_
    refine (ref10_SamePairs _ _ _ _ _ (hr0.rd M9 (nthMem (i := 2) rfl)) _ _ _ _ (hr2.rd M9 (nthMem (i := 4) rfl))).mono ?_
    rintro _ w10 ⟨v10, rfl, ⟨rfl, hb10⟩⟩
    refine ⟨_, rfl, ?_⟩
    have M10 := M9.callB hb10
    refine wl_nil (thenN ⟨alN, ?_⟩)
    refine D_re 41 (.bool true) (bT rfl).symm ?_
    refine D_p rfl rfl rfl (fun _ => r_move (.bool true) rfl) ?_
    refine D_p rfl rfl rfl (fun _ => r_move (.slice _ _ _) rfl) ?_
    refine D_r rfl rfl rfl (r_ldW 3 agg32 M10 rfl rfl rfl) ?_
    refine D_p rfl rfl rfl (fun _ => r_move (.slice _ _ _) rfl) ?_
    refine D_r rfl rfl rfl (r_ldW 0 agg24 M10 rfl rfl rfl) ?_
    refine D_e [false, true] rfl (by kernel_rfl) ?_
    refine wl_cal cal16 rfl rfl rfl ?_
    refine (pairs_Within _ (N.mem M10) _ _ _ (viewL xs) (hr.rd M10 (nthMem (i := 1) rfl)) hvo a (by first | decide | omega)).mono ?_
    rintro _ w11 ⟨v11, rfl, ⟨r3, rfl, hr3, hM11⟩⟩
    refine ⟨_, rfl, ?_⟩
    have M11 : Mem _ _ [_, _, _, _, _, _] _ := M10.call0 hM11
    refine wl_nil (thenN ⟨(alC (Yl_of rfl (r_ldW 0 agg24 M11 rfl rfl rfl)) alN), ?_⟩)
    refine D_e [true] rfl (by kernel_rfl) ?_
    refine wl_cal cal17 rfl rfl rfl ?_
    refine (ref11_Within _ _ _ _ (viewL xs) (hr.rd M11 (nthMem (i := 1) rfl)) hvo a (by first | decide | omega)).mono ?_
    rintro _ w12 ⟨v12, rfl, ⟨r4, rfl, hr4, hM12⟩⟩
    refine ⟨_, rfl, ?_⟩
    have M12 : Mem _ _ [_, _, _, _, _, _, _] _ := M11.call0 hM12
    refine wl_nil (thenN ⟨alN, ?_⟩)
    refine D_e [] rfl (by kernel_rfl) ?_
    refine wl_cal cal15 rfl rfl rfl ?_
    refine (ref07_Keys _ _ _ _ _ (hr3.rd M12 (nthMem (i := 5) rfl)) _ _ _ _ (hr4.rd M12 (nthMem (i := 6) rfl))).mono ?_
    rintro _ w13 ⟨v13, rfl, ⟨rfl, hb13⟩⟩
    refine ⟨_, rfl, ?_⟩
    have M13 := M12.callB hb13
    refine wl_nil (thenN ⟨alN, ?_⟩)
    refine D_re 49 (.bool true) (bT rfl).symm ?_
    refine D_p rfl rfl rfl (fun _ => r_pick true (.bool true) rfl rfl) ?_
    refine D_p rfl rfl rfl (fun _ => r_move (.bool true) rfl) ?_
    refine D_p rfl rfl rfl (fun _ => r_move (.slice _ _ _) rfl) ?_
    refine D_p rfl rfl rfl (fun _ => r_move (.int _ _) rfl) ?_
    refine D_p rfl rfl rfl (fun _ => r_move (.slice _ _ _) rfl) ?_
    refine D_p rfl rfl rfl (fun _ => r_move (.int _ _) rfl) ?_
    refine D_e [] rfl (by kernel_rfl) ?_
    refine wl_cal cal18 rfl rfl rfl ?_
    refine (pairs_Lonely _ key (N.mem M13) _ _ _ (viewL xs) (hr.rd M13 (nthMem (i := 1) rfl)) hvo (by omega)).mono ?_
    rintro _ w14 ⟨v14, rfl, ⟨rfl, hb14⟩⟩
    refine ⟨_, rfl, ?_⟩
    have M14 := M13.callB hb14
    refine wl_nil (thenN ⟨alN, ?_⟩)
    refine D_e [] rfl (by kernel_rfl) ?_
    refine wl_cal cal19 rfl rfl rfl ?_
    refine (ref11_Lonely _ key _ _ _ (viewL xs) (hr.rd M14 (nthMem (i := 1) rfl)) hvo).mono ?_
    rintro _ w15 ⟨v15, rfl, ⟨rfl, hb15⟩⟩
    refine ⟨_, rfl, ?_⟩
    have M15 := M14.callB hb15
    refine wl_nil (thenN ⟨alN, ?_⟩)
    refine D_p rfl rfl rfl (fun _ => r_binB _ Tryd.underlying4 rfl rfl rfl) ?_
    refine D_re 58 (.bool true) (bv rfl (by simp)) ?_
    refine D_p rfl rfl rfl (fun _ => r_pick true (.bool true) rfl rfl) ?_
    refine D_p rfl rfl rfl (fun _ => r_assign (.bool true) rfl) ?_
    refine D_nil ?_
    refine thenN ?_
    refine W_ret ?_
    skip
    refine fin1 (.bool true) rfl ?_
    exact ⟨rfl, M15.below⟩

end Go.Proofs.YtfgbmegchdjfeaaDoor
