/- Walks of Go functions over the frame of this claim: what each computes, for every input of the stated types (Aw). -/
import Derived.Test.YtaabkkdpjecknaaTy
import Derived.Test.YtaabkkdpjecknaaSt
import Derived.Test.YtaabkkdpjecknaaSrt
import Derived.Test.YtaabkkdpjecknaaR6b
set_option linter.unusedVariables false
set_option linter.unusedSimpArgs false
set_option linter.unnecessarySimpa false
namespace Go.Proofs.Ytaabkkdpjecknaa
open Go.Bil
open Go.RowKit (Below)
open Go.Proofs

set_option maxHeartbeats 16000000 in
theorem aw06 (w : World) :
    Calls Try.prog 13 #[] w (fun ex w' => ∃ v, ex = .returned v ∧ (fun v w' => v = .bool true ∧ Below w.heap.size w w') v w') := by
  refine calls_of_W #[.tmp 0] 85 Try.func13 rfl Try.results13 Try.ntmps13 rfl ?_
  have M0 := Mem.refl w
  refine W_seq ?_
  refine W_region ?_
  refine wl_q (r_assign (.bool false) rfl) rfl rfl ?_
  refine wl_nil ?_
  refine thenN ?_
  refine W_seq ?_
  refine W_region ?_
  refine wl_alloc zero31 M0 rfl rfl (fun b1 w1 M1 => ?_)
  have M2 := (M1.dummy default).dummy default
  refine wl_nil ?_
  refine thenN ?_
  refine W_seq ?_
  refine W_region ?_
  refine wl_q (r_assign (.pointer _) rfl) rfl rfl ?_
  refine wl_nil ?_
  refine thenN ?_
  refine W_seq ?_
  refine W_region ?_
  refine wl_q (r_build [(0, .int _ _), (1, .int _ _)] _ struct28 rfl rfl) rfl rfl ?_
  refine wl_cal cal14 rfl rfl rfl ?_
  refine (store_Add _ _ _ _ _ _ _ _ _ (StoreIs.nil 28 default default) (M2.ownSeg 0 3) ⟨5, 65536, 0, 0, 0, 0, 0, 0, 0, 0⟩).mono ?_
  rintro _ w3 ⟨v3, rfl, ⟨hv3, A3, n3, c3, p3, er3, em3, hs3, hM3⟩⟩
  refine ⟨_, rfl, ?_⟩
  have M3 : Mem _ _ [_, _, _] _ := M2.seg 0 3 hM3
  simp only [aw_1] at hv3 hs3
  subst hv3
  refine wl_q (r_assign (.int _ _) rfl) rfl rfl ?_
  refine wl_nil ?_
  refine thenN ?_
  refine W_seq ?_
  refine W_region ?_
  refine wl_q (r_build [(0, .int _ _), (1, .int _ _)] _ struct28 rfl rfl) rfl rfl ?_
  refine wl_cal cal14 rfl rfl rfl ?_
  refine (store_Add _ _ _ _ _ _ _ _ _ hs3 (M3.ownSeg 0 3) ⟨2, 65536, 0, 0, 0, 0, 0, 0, 0, 0⟩).mono ?_
  rintro _ w4 ⟨v4, rfl, ⟨hv4, A4, n4, c4, p4, er4, em4, hs4, hM4⟩⟩
  refine ⟨_, rfl, ?_⟩
  have M4 : Mem _ _ [_, _, _] _ := M3.seg 0 3 hM4
  simp only [aw_2] at hv4 hs4
  subst hv4
  refine wl_q (r_assign (.int _ _) rfl) rfl rfl ?_
  refine wl_nil ?_
  refine thenN ?_
  refine W_seq ?_
  refine W_region ?_
  refine wl_q (r_build [(0, .int _ _), (1, .int _ _)] _ struct28 rfl rfl) rfl rfl ?_
  refine wl_cal cal14 rfl rfl rfl ?_
  refine (store_Add _ _ _ _ _ _ _ _ _ hs4 (M4.ownSeg 0 3) ⟨9, 65536, 0, 0, 0, 0, 0, 0, 0, 0⟩).mono ?_
  rintro _ w5 ⟨v5, rfl, ⟨hv5, A5, n5, c5, p5, er5, em5, hs5, hM5⟩⟩
  refine ⟨_, rfl, ?_⟩
  have M5 : Mem _ _ [_, _, _] _ := M4.seg 0 3 hM5
  simp only [aw_3] at hv5 hs5
  subst hv5
  refine wl_q (r_assign (.int _ _) rfl) rfl rfl ?_
  refine wl_nil ?_
  refine thenN ?_
  refine W_seq ?_
  refine W_region ?_
  refine wl_q (r_build [(0, .int _ _), (1, .int _ _)] _ struct28 rfl rfl) rfl rfl ?_
  refine wl_cal cal14 rfl rfl rfl ?_
  refine (store_Add _ _ _ _ _ _ _ _ _ hs5 (M5.ownSeg 0 3) ⟨9, 65537, 0, 0, 0, 0, 0, 0, 0, 0⟩).mono ?_
  rintro _ w6 ⟨v6, rfl, ⟨hv6, A6, n6, c6, p6, er6, em6, hs6, hM6⟩⟩
  refine ⟨_, rfl, ?_⟩
  have M6 : Mem _ _ [_, _, _] _ := M5.seg 0 3 hM6
  simp only [aw_4] at hv6 hs6
  subst hv6
  refine wl_q (r_assign (.int _ _) rfl) rfl rfl ?_
  refine wl_nil ?_
  refine thenN ?_
  refine W_seq ?_
  refine W_region ?_
  refine wl_q (r_build [(0, .int _ _)] _ struct28 rfl rfl) rfl rfl ?_
  refine wl_cal cal14 rfl rfl rfl ?_
  refine (store_Add _ _ _ _ _ _ _ _ _ hs6 (M6.ownSeg 0 3) ⟨7, 0, 0, 0, 0, 0, 0, 0, 0, 0⟩).mono ?_
  rintro _ w7 ⟨v7, rfl, ⟨hv7, A7, n7, c7, p7, er7, em7, hs7, hM7⟩⟩
  refine ⟨_, rfl, ?_⟩
  have M7 : Mem _ _ [_, _, _] _ := M6.seg 0 3 hM7
  simp only [aw_5] at hv7 hs7
  subst hv7
  refine wl_q (r_assign (.int _ _) rfl) rfl rfl ?_
  refine wl_nil ?_
  refine thenN ?_
  refine W_seq ?_
  refine W_region ?_
  refine wl_cal cal19 rfl rfl rfl ?_
  refine (store_Remove _ _ _ _ _ _ _ _ _ hs7 (M7.ownSeg 0 3) 5).mono ?_
  rintro _ w8 ⟨v8, rfl, ⟨hv8, A8, n8, c8, p8, er8, em8, hs8, hM8⟩⟩
  refine ⟨_, rfl, ?_⟩
  have M8 : Mem _ _ [_, _, _] _ := M7.seg 0 3 hM8
  simp only [aw_6] at hv8 hs8
  subst hv8
  refine wl_q (r_assign (.int _ _) rfl) rfl rfl ?_
  refine wl_nil ?_
  refine thenN ?_
  refine W_seq ?_
  refine W_region ?_
  refine wl_cal cal19 rfl rfl rfl ?_
  refine (store_Remove _ _ _ _ _ _ _ _ _ hs8 (M8.ownSeg 0 3) 5).mono ?_
  rintro _ w9 ⟨v9, rfl, ⟨hv9, A9, n9, c9, p9, er9, em9, hs9, hM9⟩⟩
  refine ⟨_, rfl, ?_⟩
  have M9 : Mem _ _ [_, _, _] _ := M8.seg 0 3 hM9
  simp only [aw_7] at hv9 hs9
  subst hv9
  refine wl_q (r_assign (.int _ _) rfl) rfl rfl ?_
  refine wl_nil ?_
  refine thenN ?_
  refine W_seq ?_
  refine W_region ?_
  refine wl_cal cal28 rfl rfl rfl ?_
  refine (store_Get _ _ _ _ _ _ _ _ _ hs9 (M9.ownSeg 0 3) 9).mono ?_
  rintro _ w10 ⟨v10, rfl, ⟨⟨x10, hv10, hx10⟩, hM10⟩⟩
  refine ⟨_, rfl, ?_⟩
  have M10 : Mem _ _ [_, _, _] _ := M9.seg 0 3 hM10
  rw [aw_8] at hv10 hx10
  subst hv10
  subst hx10
  refine wl_q (r_move (.tuple (List.toArray _)) rfl) rfl rfl ?_
  refine wl_q (r_ext (.agg (List.toArray _)) rfl rfl) rfl rfl ?_
  refine wl_q (r_ext (.int _ _) rfl rfl) rfl rfl ?_
  refine wl_alloc zero28 M10 rfl rfl (fun b11 w11 M11 => ?_)
  refine wl_stW 3 _ agg28 M11 rfl rfl rfl rfl rfl (ones_of rfl) rfl (fun w12 M12 => ?_)
  refine wl_q (r_assign (.int _ _) rfl) rfl rfl ?_
  refine wl_nil ?_
  refine thenN ?_
  refine W_seq ?_
  refine W_region ?_
  refine wl_q (r_move (.int _ _) rfl) rfl rfl ?_
  refine wl_q (r_bin (.bool (decide _)) rfl rfl rfl) rfl rfl ?_
  refine wl_re 29 (.bool true) (bT (by decide)).symm ?_
  refine wl_q (r_move (.bool true) rfl) rfl rfl ?_
  refine wl_q (r_move (.int _ _) rfl) rfl rfl ?_
  refine wl_q (r_bin (.bool (decide _)) rfl rfl rfl) rfl rfl ?_
  refine wl_re 32 (.bool true) (bT (by decide)).symm ?_
  refine wl_q (r_pick true (.bool true) rfl rfl) rfl rfl ?_
  refine wl_q (r_move (.bool true) rfl) rfl rfl ?_
  refine wl_q (r_move (.int _ _) rfl) rfl rfl ?_
  refine wl_q (r_bin (.bool (decide _)) rfl rfl rfl) rfl rfl ?_
  refine wl_re 36 (.bool true) (bT (by decide)).symm ?_
  refine wl_q (r_pick true (.bool true) rfl rfl) rfl rfl ?_
  refine wl_q (r_move (.bool true) rfl) rfl rfl ?_
  refine wl_q (r_move (.int _ _) rfl) rfl rfl ?_
  refine wl_q (r_bin (.bool (decide _)) rfl rfl rfl) rfl rfl ?_
  refine wl_re 40 (.bool true) (bT (by decide)).symm ?_
  refine wl_q (r_pick true (.bool true) rfl rfl) rfl rfl ?_
  refine wl_q (r_move (.bool true) rfl) rfl rfl ?_
  refine wl_q (r_move (.int _ _) rfl) rfl rfl ?_
  refine wl_q (r_bin (.bool (decide _)) rfl rfl rfl) rfl rfl ?_
  refine wl_re 44 (.bool true) (bT (by decide)).symm ?_
  refine wl_q (r_pick true (.bool true) rfl rfl) rfl rfl ?_
  refine wl_q (r_move (.bool true) rfl) rfl rfl ?_
  refine wl_q (r_move (.int _ _) rfl) rfl rfl ?_
  refine wl_q (r_bin (.bool (decide _)) rfl rfl rfl) rfl rfl ?_
  refine wl_re 48 (.bool true) (bT (by decide)).symm ?_
  refine wl_q (r_pick true (.bool true) rfl rfl) rfl rfl ?_
  refine wl_q (r_move (.bool true) rfl) rfl rfl ?_
  refine wl_q (r_move (.int _ _) rfl) rfl rfl ?_
  refine wl_q (r_bin (.bool (decide _)) rfl rfl rfl) rfl rfl ?_
  refine wl_re 52 (.bool true) (bT (by decide)).symm ?_
  refine wl_q (r_pick true (.bool true) rfl rfl) rfl rfl ?_
  refine wl_q (r_move (.bool true) rfl) rfl rfl ?_
  refine wl_q (r_fieldAddr 1 fld28_1 rfl) rfl rfl ?_
  refine wl_q (r_ld 3 (.int _ _) one21 M12 rfl rfl rfl) rfl rfl ?_
  refine wl_q (r_bin (.bool (decide _)) rfl rfl rfl) rfl rfl ?_
  refine wl_re 57 (.bool true) (bT (by decide)).symm ?_
  refine wl_q (r_pick true (.bool true) rfl rfl) rfl rfl ?_
  refine wl_q (r_move (.bool true) rfl) rfl rfl ?_
  refine wl_q (r_move (.int _ _) rfl) rfl rfl ?_
  refine wl_q (r_bin (.bool (decide _)) rfl rfl rfl) rfl rfl ?_
  refine wl_re 61 (.bool true) (bT (by decide)).symm ?_
  refine wl_q (r_pick true (.bool true) rfl rfl) rfl rfl ?_
  refine wl_q (r_move (.bool true) rfl) rfl rfl ?_
  refine wl_cal cal18 rfl rfl rfl ?_
  refine (store_Len _ _ _ _ _ _ _ _ _ hs9 (M12.ownSeg 0 3)).mono ?_
  rintro _ w13 ⟨v13, rfl, ⟨rfl, hM13⟩⟩
  refine ⟨_, rfl, ?_⟩
  have M13 : Mem _ _ [_, _, _, _] _ := M12.seg 0 3 hM13
  refine wl_q (r_bin (.bool (decide _)) rfl rfl rfl) rfl rfl ?_
  refine wl_re 65 (.bool true) (bT (by decide)).symm ?_
  refine wl_q (r_pick true (.bool true) rfl rfl) rfl rfl ?_
  refine wl_q (r_move (.bool true) rfl) rfl rfl ?_
  refine wl_cal cal17 rfl rfl rfl ?_
  refine (store_Bodies _ _ _ _ _ _ _ _ _ hs9 (M13.ownSeg 0 3)).mono ?_
  rintro _ w14 ⟨v14, rfl, ⟨A14, n14, c14, e14, rfl, hR14, hM14⟩⟩
  refine ⟨_, rfl, ?_⟩
  have M14 : Mem _ _ [_, _, _, _, _] _ := M13.seg 0 3 hM14
  rw [aw_9] at hR14
  refine wl_q (r_build [(0, .int _ _), (1, .int _ _)] _ struct28 rfl rfl) rfl rfl ?_
  refine wl_q (r_build [(0, .int _ _), (1, .int _ _)] _ struct28 rfl rfl) rfl rfl ?_
  refine wl_bslice [.agg (List.toArray _), .agg (List.toArray _)] [bodyCells ⟨2, 65536, 0, 0, 0, 0, 0, 0, 0, 0⟩, bodyCells ⟨9, 65536, 0, 0, 0, 0, 0, 0, 0, 0⟩] rfl sl22 M14 rfl rfl rfl rfl (lens_of rfl) (by decide) (fun b15 w15 M15 => ?_)
  have hlit := rowLit (T := 28) (b := b15) ([⟨2, 65536, 0, 0, 0, 0, 0, 0, 0, 0⟩, ⟨9, 65536, 0, 0, 0, 0, 0, 0, 0, 0⟩].map bodyCells) (bodies_len _) rfl (by decide)
  refine wl_cal cal16 rfl rfl rfl ?_
  refine (ref06_Same _ _ _ _ [⟨2, 65536, 0, 0, 0, 0, 0, 0, 0, 0⟩, ⟨9, 65536, 0, 0, 0, 0, 0, 0, 0, 0⟩] (hR14.rd M15 (nthMem (i := 4) rfl)) _ _ _ [⟨2, 65536, 0, 0, 0, 0, 0, 0, 0, 0⟩, ⟨9, 65536, 0, 0, 0, 0, 0, 0, 0, 0⟩] (hlit.rd M15 (nthMem (i := 5) rfl))).mono ?_
  rintro _ w16 ⟨v16, rfl, ⟨rfl, hb16⟩⟩
  refine ⟨_, rfl, ?_⟩
  have M16 := M15.callB hb16
  refine wl_re 72 (.bool true) (bT (by decide)).symm ?_
  refine wl_q (r_pick true (.bool true) rfl rfl) rfl rfl ?_
  refine wl_q (r_move (.bool true) rfl) rfl rfl ?_
  refine wl_q (r_move (.pointer _) rfl) rfl rfl ?_
  refine wl_q (r_build [] _ struct28 rfl rfl) rfl rfl ?_
  refine wl_cal cal14 rfl rfl rfl ?_
  refine (store_AddNil _ ⟨0, 0, 0, 0, 0, 0, 0, 0, 0, 0⟩).mono ?_
  rintro _ w17 ⟨v17, rfl, ⟨rfl, hb17⟩⟩
  refine ⟨_, rfl, ?_⟩
  have M17 := M16.callB hb17
  refine wl_q (r_bin (.bool (decide _)) rfl rfl rfl) rfl rfl ?_
  refine wl_re 78 (.bool true) (bT (by decide)).symm ?_
  refine wl_q (r_pick true (.bool true) rfl rfl) rfl rfl ?_
  refine wl_q (r_move (.bool true) rfl) rfl rfl ?_
  refine wl_q (r_move (.pointer _) rfl) rfl rfl ?_
  refine wl_cal cal18 rfl rfl rfl ?_
  refine (store_LenNil _).mono ?_
  rintro _ w18 ⟨v18, rfl, ⟨rfl, hb18⟩⟩
  refine ⟨_, rfl, ?_⟩
  have M18 := M17.callB hb18
  refine wl_q (r_bin (.bool (decide _)) rfl rfl rfl) rfl rfl ?_
  refine wl_re 83 (.bool true) (bT (by decide)).symm ?_
  refine wl_q (r_pick true (.bool true) rfl rfl) rfl rfl ?_
  refine wl_q (r_assign (.bool true) rfl) rfl rfl ?_
  refine wl_nil ?_
  refine thenN ?_
  refine W_ret ?_
  skip
  refine fin1 (.bool true) rfl ?_
  exact ⟨rfl, M18.below⟩

end Go.Proofs.Ytaabkkdpjecknaa
